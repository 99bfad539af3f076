/- A byte is read: the walk. Conditions: none. -/
import Derived.Test.YtebbjimmgblcpaaQF10
namespace Go.Proofs.Ytebbjimmgblcpaa.W
open Go Go.AM FeedM
set_option linter.unusedVariables false
set_option maxRecDepth 100000

theorem ceq {c d : UInt8} {n : Int} (hn : n = (d.toNat : Int)) : ((c.toNat : Int) = n) ↔ c = d := by
  subst hn
  exact ⟨fun h => UInt8.toNat_inj.1 (by omega), fun h => by rw [h]⟩

theorem first62 {h : AH} {f : Nat} {st : FS} {F : Nat → Prop} {c : UInt8} {b : Nat} {K : Value → AH → Prop} (r : FR h f st F) (ft : Fit st (b + 1))
    (kk : ∀ h' F', FR h' f (FeedM.first st c) F' → Chg F h F' h' → K (.tuple #[]) h') : callW Try.prog 62 [.pointer (some ⟨f, 0, none⟩), .int .u8 c.toNat] h K := by
  have e32 : ((c.toNat : Int) = 32) ↔ c = 32 := ceq rfl
  have e9 : ((c.toNat : Int) = 9) ↔ c = 9 := ceq rfl
  have e10 : ((c.toNat : Int) = 10) ↔ c = 10 := ceq rfl
  have e60 : ((c.toNat : Int) = 60) ↔ c = 60 := ceq rfl
  refine c62 ?_
  unfold s62
  unfold FeedM.first at kk
  refine w_eql ?_
  by_cases q1 : (c.toNat : Int) = 32
  · refine g_ft q1 (g_ft q1 (pk_tt q1 (gc_ft (gc_ft (pk_t (c_t ?_))))))
    rw [if_pos (.inl (e32.1 q1))] at kk
    exact kk _ _ r (Chg.refl _ _)
  refine g_ff q1 (g_ff q1 (w_eql (pk_ff q1 ?_)))
  by_cases q2 : (c.toNat : Int) = 9
  · refine g_ft q2 (g_ft q2 (pk_tt q2 (c_t ?_)))
    rw [if_pos (.inr (.inl (e9.1 q2)))] at kk
    exact kk _ _ r (Chg.refl _ _)
  refine g_ff q2 (g_ff q2 (w_eql (pk_ff q2 ?_)))
  refine c_dec (fun q3 => ?_) (fun q3 => ?_)
  · rw [if_pos (.inr (.inr (e10.1 q3)))] at kk
    exact kk _ _ r (Chg.refl _ _)
  rw [if_neg (fun h => h.elim (fun h => q1 (e32.2 h)) fun h => h.elim (fun h => q2 (e9.2 h)) fun h => q3 (e10.2 h))] at kk
  refine letter61 ?_
  have r0 := r
  obtain ⟨V, hr, b⟩ := r
  have hlt := lt_of_get hr
  have good : (letter c = true ∨ c = 60) →
    optW (pNilCheck (.pointer (some ⟨f, 0, none⟩))) fun v31 => optW (pOff 10 v31) fun v32 => optW (pOff 0 v32) fun v33 => optW (rdRow false 1 v33 (reserve 1 h)) fun v34 =>
      optW (bldSl 1 [(.int .u8 0)] 1 [(0, .int .u8 c.toNat)]) fun c => newW (some h.length) (.row c true) (reserve 1 h) fun i h_8 => appSl 1 v34 (.slice (some ⟨i, 0, none⟩) 1 1) h_8 fun v37 h_9 =>
      optW (pNilCheck (.pointer (some ⟨f, 0, none⟩))) fun v39 => optW (pOff 14 v39) fun v40 =>
      (∀ x ∈ (idOf v40), (h_8 : AH)[x]? = (h_9 : AH)[x]?) ∧ (∀ x ∈ (idOf v40), ((reserve 1 h) : AH)[x]? = (h_8 : AH)[x]?) ∧
      optW (rdRow false 1 v40 h_9) fun v41 => optW (pNilCheck (.pointer (some ⟨f, 0, none⟩))) fun v42 => optW (pOff 10 v42) fun v43 => optW (pOff 0 v43) fun v44 => optW (pStore 1 v44 v37 h_9) fun h_10 =>
      optW (pNilCheck (.pointer (some ⟨f, 0, none⟩))) fun v45 => optW (pOff 10 v45) fun v46 => optW (pOff 1 v46) fun v47 => optW (pStore 1 v47 v41 h_10) fun h_11 => K (.tuple #[]) h_11 := by
    intro hgood
    rw [if_pos hgood] at kk
    refine w_nilc (w_offP (w_offP (w_rdP ((Ex.res h).some hr) (v := V.vs) rfl ?_)))
    refine w_some (bldSl_one rfl (by decide) rfl rfl) ?_
    refine n_slot ?_
    rw [reserve_set]
    have hlast : (h ++ [AObj.row (cellsL (.int .u8 c.toNat)) true])[h.length]? = some (.row (eB c) true) := get_new _ _
    have x1 : Ex h (h ++ [AObj.row (cellsL (.int .u8 c.toNat)) true]) := .app _ _
    have l1 : (h ++ [AObj.row (cellsL (.int .u8 c.toNat)) true]).length = h.length + 1 := by simp
    generalize h ++ [AObj.row (cellsL (.int .u8 c.toNat)) true] = h1 at *
    have b1 := b.ex x1
    refine appSl_of (app_g (by decide) b1.s (srcL_new hlast (by decide) rfl) rfl (ft.mono (c := 1) (by omega)).sb ?_)
    intro v' h2 o1 o2 o3 o4
    have hff : h2[f]? = h1[f]? := o3 _ (x1.lt hlt) b1.sf.1
    have hf2 : h2[f]? = some (.row (rowOf V st) true) := hff.trans (x1.some hr)
    refine w_nilc (w_offP ?_)
    refine ⟨fun x hxx => ?_, fun x hxx => ?_, ?_⟩
    · have : x = f := by simpa [idOf] using hxx
      rw [this]; exact hff.symm
    · have : x = f := by simpa [idOf] using hxx
      rw [this, (Ex.res h).get _ hlt, x1.get _ hlt]
    refine w_rdP hf2 (v := .int .i64 st.read) rfl ?_
    refine w_nilc (w_offP (w_offP ?_))
    obtain ⟨va, vcap, rfl⟩ := o1.sl.shape
    refine w_stP hf2 (by simp [rowOf]) rfl rfl ?_
    have hfl := lt_of_get hf2
    refine w_nilc (w_offP (w_offP ?_))
    refine w_stP (get_set _ hfl _) (by simp [rowOf]) rfl rfl ?_
    have bb := newtok (s' := st.s ++ [c]) (a' := st.read) (F' := fun j => (F j ∨ j = h1.length) ∧ j < h2.length) b1 o2 (fun j hj hn => o3 j (b1.lt j hj) hn)
      (by
        have e1 : (st.s ++ [c]).length = st.s.length + 1 := by simp
        have e2 : flat eB (st.s ++ [c]) = flat eB st.s ++ eB c := by rw [flat_append]; simp [flat]
        rw [e1, e2]
        exact o1.mono (fun j hj hF => ⟨hF, (o1.on hj).2⟩) fun _ _ _ => rfl)
      (fun j hj => (o4 j hj).imp id fun e => Nat.le_of_eq e.symm) (fun j hj => ⟨.inl hj, by have := b1.lt j hj; omega⟩) (fun j hj => hj.2)
    refine kk _ _ ⟨_, ?_, (bb.setf _).setf _⟩ ⟨by simp; omega, fun j hj hF => ?_, fun j hj => ?_⟩
    · rw [get_set _ (by simpa using hfl)]
      rfl
    · have hjf : f ≠ j := fun e => hF (by rw [← e]; exact b.ff)
      rw [get_ne hjf, get_ne hjf, o3 j (by omega) fun hh => hF (b.s.on hh).1]
      exact x1.get j hj
    · rcases hj.1 with h | rfl
      · exact .inl h
      · exact .inr (by omega)
  cases hl : letter c with
  | true => exact gc_ft (gc_ft (pk_t (c_t (good (.inl hl)))))
  | false =>
    refine gc_ff (gc_ff (w_eql (pk_f ?_)))
    refine c_dec (fun q4 => ?_) (fun q4 => ?_)
    · exact good (.inr (e60.1 q4))
    · rw [if_neg (fun h => h.elim (fun h => by rw [hl] at h; cases h) fun h => q4 (e60.2 h))] at kk
      refine w_nilc (w_offP (w_rdP hr (v := .int .i64 st.read) rfl ?_))
      exact wrong48 r0 fun h3 r3 c3 => kk _ _ r3 c3

theorem toktail {h : AH} {f : Nat} {st : FS} {F : Nat → Prop} {c : UInt8} {K : Value → AH → Prop} (r : FR h f st F) (hw : st.s.length + 1 < room40)
    (kk : ∀ h' F', FR h' f { st with s := st.s ++ [c] } F' → Chg F h F' h' → K (.tuple #[]) h') :
    optW (pNilCheck (.pointer (some ⟨f, 0, none⟩))) fun v66 => optW (pOff 10 v66) fun v67 => optW (pOff 0 v67) fun v68 => optW (rdRow false 1 v68 h) fun v69 => optW (bldSl 1 [(.int .u8 0)] 1 [(0, .int .u8 c.toNat)]) fun c =>
      newW none (.row c true) h fun i h1 => appSl 1 v69 (.slice (some ⟨i, 0, none⟩) 1 1) h1 fun v72 h2 => optW (pNilCheck (.pointer (some ⟨f, 0, none⟩))) fun v73 => optW (pOff 10 v73) fun v74 => optW (pOff 0 v74) fun v75 =>
      optW (pStore 1 v75 v72 h2) fun h3 => K (.tuple #[]) h3 := by
  obtain ⟨V, hr, b⟩ := r
  have hlt := lt_of_get hr
  refine w_nilc (w_offP (w_offP (w_rdP hr (v := V.vs) rfl ?_)))
  refine w_some (bldSl_one rfl (by decide) rfl rfl) ?_
  refine n_new ?_
  have hlast : (h ++ [AObj.row (cellsL (.int .u8 c.toNat)) true])[h.length]? = some (.row (eB c) true) := get_new _ _
  have x1 : Ex h (h ++ [AObj.row (cellsL (.int .u8 c.toNat)) true]) := .app _ _
  have l1 : (h ++ [AObj.row (cellsL (.int .u8 c.toNat)) true]).length = h.length + 1 := by simp
  generalize h ++ [AObj.row (cellsL (.int .u8 c.toNat)) true] = h1 at *
  have b1 := b.ex x1
  refine appSl_of (app_g (by decide) b1.s (srcL_new hlast (by decide) rfl) rfl hw ?_)
  intro v' h2 o1 o2 o3 o4
  have hf2 : h2[f]? = some (.row (rowOf V st) true) := (o3 _ (x1.lt hlt) b1.sf.1).trans (x1.some hr)
  refine w_nilc (w_offP (w_offP ?_))
  obtain ⟨va, vcap, rfl⟩ := o1.sl.shape
  refine w_stP hf2 (by simp [rowOf]) rfl rfl ?_
  have hfl := lt_of_get hf2
  have bb := newtok (s' := st.s ++ [c]) (a' := st.at_) (F' := fun j => (F j ∨ j = h1.length) ∧ j < h2.length) b1 o2 (fun j hj hn => o3 j (b1.lt j hj) hn)
    (by
      have e1 : (st.s ++ [c]).length = st.s.length + 1 := by simp
      have e2 : flat eB (st.s ++ [c]) = flat eB st.s ++ eB c := by rw [flat_append]; simp [flat]
      rw [e1, e2]
      exact o1.mono (fun j hj hF => ⟨hF, (o1.on hj).2⟩) fun _ _ _ => rfl)
    (fun j hj => (o4 j hj).imp id fun e => Nat.le_of_eq e.symm) (fun j hj => ⟨.inl hj, by have := b1.lt j hj; omega⟩) (fun j hj => hj.2)
  refine kk _ _ ⟨_, ?_, bb.setf _⟩ ⟨by simp; omega, fun j hj hF => ?_, fun j hj => ?_⟩
  · rw [get_set _ hfl]
    rfl
  · have hjf : f ≠ j := fun e => hF (by rw [← e]; exact b.ff)
    rw [get_ne hjf, o3 j (by omega) fun hh => hF (b.s.on hh).1]
    exact x1.get j hj
  · rcases hj.1 with h | rfl
    · exact .inl h
    · exact .inr (by omega)
end Go.Proofs.Ytebbjimmgblcpaa.W
