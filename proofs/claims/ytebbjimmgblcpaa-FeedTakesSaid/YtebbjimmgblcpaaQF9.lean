/- The feed's other fields that grow; whether it may be at an end that is final: the walks. Conditions: none. -/
import Derived.Test.YtebbjimmgblcpaaQF8
namespace Go.Proofs.Ytebbjimmgblcpaa.W
open Go Go.AM FeedM
set_option linter.unusedVariables false
set_option maxRecDepth 100000

theorem FRB.ex {h h' : AH} {f : Nat} {V : FV} {st : FS} {F : Nat → Prop} (b : FRB h f V st F) (x : Ex h h') : FRB h' f V st F :=
  b.same x.len (fun j hj => x.get j (b.lt j (b.rF j hj))) (fun j hj => x.get j (b.lt j (by
    rcases hj with h | h | h
    · exact (b.s.on h).1
    · exact (b.word.on h).1
    · exact (b.under.on h).1)))
theorem FR.ex {h h' : AH} {f : Nat} {st : FS} {F : Nat → Prop} (r : FR h f st F) (x : Ex h h') : FR h' f st F := by
  obtain ⟨V, h1, b⟩ := r
  exact ⟨V, x.some h1, b.ex x⟩
theorem Chg.ex {h h' : AH} {F : Nat → Prop} (x : Ex h h') : Chg F h F h' := ⟨x.len, fun j hj _ => x.get j hj, fun _ hj => .inl hj⟩

theorem newword {h h' : AH} {f : Nat} {V : FV} {st : FS} {F F' : Nat → Prop} {v' : Value} {w' : List Int} (b : FRB h f V st F) (hl : h.length ≤ h'.length) (hr : ∀ j, F j → ¬ onId V.vw j → h'[j]? = h[j]?)
    (ou : OwnG 1 F' h' v' w'.length (flat eI w')) (hid : ∀ j, onId v' j → onId V.vw j ∨ h.length ≤ j) (hF : ∀ j, F j → F' j) (hlt : ∀ j, F' j → j < h'.length) :
    FRB h' f { V with vw := v' } { st with word := w' } F' := by
  have nr : ∀ j, rIds V j → h'[j]? = h[j]? := fun j hj => hr j (b.rF j hj) fun hu => b.sep j (.inr (.inr (.inl hu))) hj
  have ns : ∀ j, onId V.vs j → h'[j]? = h[j]? := fun j hj => hr j (b.s.on hj).1 (b.sw j hj).1
  have nu : ∀ j, onId V.vu j → h'[j]? = h[j]? := fun j hj => hr j (b.under.on hj).1 fun h => b.wu j h hj
  exact {
    init := Sl.same b.init fun j hj => nr j (.inl hj)
    final := Sl.same b.final fun j hj => nr j (.inr (.inl hj))
    opens := Sl.same b.opens fun j hj => nr j (.inr (.inr (.inl hj)))
    closes := Sl.same b.closes fun j hj => nr j (.inr (.inr (.inr (.inl hj))))
    inners := Sl.same b.inners fun j hj => nr j (.inr (.inr (.inr (.inr (.inl hj)))))
    now := b.now.same (nr _ (.inr (.inr (.inr (.inr (.inr (.inr (.inl rfl))))))))
    under := b.under.mono (fun j _ h => hF j h) fun j hj _ => nu j hj
    lvs := b.lvs.same fun j hj => nr j (.inr (.inr (.inr (.inr (.inr (.inr (.inr hj)))))))
    s := b.s.mono (fun j _ h => hF j h) fun j hj _ => ns j hj
    l := Sl.same b.l fun j hj => nr j (.inr (.inr (.inr (.inr (.inr (.inl hj))))))
    word := ou
    ff := hF _ b.ff
    rF := fun j hj => hF j (b.rF j hj)
    lt := hlt
    sep := fun j hw hj => by
      have hjF := b.rF j hj
      have hjl := b.lt j hjF
      refine b.sep j ?_ hj
      rcases hw with h | h | h | h
      · exact .inl h
      · exact .inr (.inl h)
      · rcases hid j h with h | h
        · exact .inr (.inr (.inl h))
        · omega
      · exact .inr (.inr (.inr h))
    sf := ⟨b.sf.1, fun h => (hid f h).elim b.sf.2.1 fun h => by have := b.lt f b.ff; omega, b.sf.2.2⟩
    sw := fun j hj => ⟨fun h => (hid j h).elim (b.sw j hj).1 fun h => by have := b.lt j (b.s.on hj).1; omega, (b.sw j hj).2⟩
    wu := fun j hj h => (hid j hj).elim (fun hj => b.wu j hj h) fun hj => by have := b.lt j (b.under.on h).1; omega }

theorem newtok {h h' : AH} {f : Nat} {V : FV} {st : FS} {F F' : Nat → Prop} {v' : Value} {s' : List UInt8} {a' : Int} (b : FRB h f V st F) (hl : h.length ≤ h'.length) (hr : ∀ j, F j → ¬ onId V.vs j → h'[j]? = h[j]?)
    (ou : OwnG 1 F' h' v' s'.length (flat eB s')) (hid : ∀ j, onId v' j → onId V.vs j ∨ h.length ≤ j) (hF : ∀ j, F j → F' j) (hlt : ∀ j, F' j → j < h'.length) :
    FRB h' f { V with vs := v' } { st with s := s', at_ := a' } F' := by
  have nr : ∀ j, rIds V j → h'[j]? = h[j]? := fun j hj => hr j (b.rF j hj) fun hu => b.sep j (.inr (.inl hu)) hj
  have nw : ∀ j, onId V.vw j → h'[j]? = h[j]? := fun j hj => hr j (b.word.on hj).1 fun h => (b.sw j h).1 hj
  have nu : ∀ j, onId V.vu j → h'[j]? = h[j]? := fun j hj => hr j (b.under.on hj).1 fun h => (b.sw j h).2 hj
  exact {
    init := Sl.same b.init fun j hj => nr j (.inl hj)
    final := Sl.same b.final fun j hj => nr j (.inr (.inl hj))
    opens := Sl.same b.opens fun j hj => nr j (.inr (.inr (.inl hj)))
    closes := Sl.same b.closes fun j hj => nr j (.inr (.inr (.inr (.inl hj))))
    inners := Sl.same b.inners fun j hj => nr j (.inr (.inr (.inr (.inr (.inl hj)))))
    now := b.now.same (nr _ (.inr (.inr (.inr (.inr (.inr (.inr (.inl rfl))))))))
    under := b.under.mono (fun j _ h => hF j h) fun j hj _ => nu j hj
    lvs := b.lvs.same fun j hj => nr j (.inr (.inr (.inr (.inr (.inr (.inr (.inr hj)))))))
    s := ou
    l := Sl.same b.l fun j hj => nr j (.inr (.inr (.inr (.inr (.inr (.inl hj))))))
    word := b.word.mono (fun j _ h => hF j h) fun j hj _ => nw j hj
    ff := hF _ b.ff
    rF := fun j hj => hF j (b.rF j hj)
    lt := hlt
    sep := fun j hw hj => by
      have hjF := b.rF j hj
      have hjl := b.lt j hjF
      refine b.sep j ?_ hj
      rcases hw with h | h | h | h
      · exact .inl h
      · rcases hid j h with h | h
        · exact .inr (.inl h)
        · omega
      · exact .inr (.inr (.inl h))
      · exact .inr (.inr (.inr h))
    sf := ⟨fun h => (hid f h).elim b.sf.1 fun h => by have := b.lt f b.ff; omega, b.sf.2.1, b.sf.2.2⟩
    sw := fun j hj => ⟨fun h => (hid j hj).elim (fun hj => (b.sw j hj).1 h) fun hj => by have := b.lt j (b.word.on h).1; omega, fun h => (hid j hj).elim (fun hj => (b.sw j hj).2 h) fun hj => by have := b.lt j (b.under.on h).1; omega⟩
    wu := b.wu }

theorem wordtail {h : AH} {f : Nat} {st : FS} {F : Nat → Prop} {k : Int} {K : Value → AH → Prop} (r : FR h f st F) (hw : st.word.length + 1 < room40)
    (kk : ∀ h' F', FR h' f { st with word := st.word ++ [k] } F' → Chg F h F' h' → K (.tuple #[]) h') :
    optW (pNilCheck (.pointer (some ⟨f, 0, none⟩))) fun v79 => optW (pOff 15 v79) fun v80 => optW (rdRow false 1 v80 h) fun v81 => optW (bldSl 1 [(.int .i64 0)] 1 [(0, .int .i64 k)]) fun c =>
      newW none (.row c true) h fun i h1 => appSl 1 v81 (.slice (some ⟨i, 0, none⟩) 1 1) h1 fun v84 h2 => optW (pNilCheck (.pointer (some ⟨f, 0, none⟩))) fun v85 => optW (pOff 15 v85) fun v86 =>
      optW (pStore 1 v86 v84 h2) fun h3 => K (.tuple #[]) h3 := by
  obtain ⟨V, hr, b⟩ := r
  have hlt := lt_of_get hr
  refine w_nilc (w_offP (w_rdP hr (v := V.vw) rfl ?_))
  refine w_some (bldSl_one rfl (by decide) rfl rfl) ?_
  refine n_new ?_
  have hlast : (h ++ [AObj.row (cellsL (.int .i64 k)) true])[h.length]? = some (.row (eI k) true) := get_new _ _
  have x1 : Ex h (h ++ [AObj.row (cellsL (.int .i64 k)) true]) := .app _ _
  have l1 : (h ++ [AObj.row (cellsL (.int .i64 k)) true]).length = h.length + 1 := by simp
  generalize h ++ [AObj.row (cellsL (.int .i64 k)) true] = h1 at *
  have b1 := b.ex x1
  refine appSl_of (app_g (by decide) b1.word (srcL_new hlast (by decide) rfl) rfl hw ?_)
  intro v' h2 o1 o2 o3 o4
  have hf2 : h2[f]? = some (.row (rowOf V st) true) := (o3 _ (x1.lt hlt) b1.sf.2.1).trans (x1.some hr)
  refine w_nilc (w_offP ?_)
  obtain ⟨va, vcap, rfl⟩ := o1.sl.shape
  refine w_stP hf2 (by simp [rowOf]) rfl rfl ?_
  have hfl := lt_of_get hf2
  have bb := newword (w' := st.word ++ [k]) (F' := fun j => (F j ∨ j = h1.length) ∧ j < h2.length) b1 o2 (fun j hj hn => o3 j (b1.lt j hj) hn)
    (by
      have e1 : (st.word ++ [k]).length = st.word.length + 1 := by simp
      have e2 : flat eI (st.word ++ [k]) = flat eI st.word ++ eI k := by rw [flat_append]; simp [flat]
      rw [e1, e2]
      exact o1.mono (fun j hj hF => ⟨hF, (o1.on hj).2⟩) fun _ _ _ => rfl)
    (fun j hj => (o4 j hj).imp id fun e => Nat.le_of_eq e.symm) (fun j hj => ⟨.inl hj, by have := b1.lt j hj; omega⟩) (fun j hj => hj.2)
  refine kk _ _ ⟨_, ?_, bb.setf _⟩ ⟨by simp; omega, fun j hj hF => ?_, fun j hj => ?_⟩
  · rw [get_set _ hfl]
    rfl
  · have hjf : f ≠ j := fun e => hF (by rw [← e]; exact b.ff)
    rw [get_ne hjf, o3 j (by omega) fun hh => hF (b.word.on hh).1]
    exact x1.get j hj
  · rcases hj.1 with h | rfl
    · exact .inl h
    · exact .inr (by omega)

theorem final49 {h : AH} {f : Nat} {st : FS} {F : Nat → Prop} {K : Value → AH → Prop} (r : FR h f st F) (hb : st.m.final.length < room40)
    (k : ∀ h' b, Ex h h' → (b = true ↔ isFinal st) → K (.bool b) h') : callW Try.prog 49 [.pointer (some ⟨f, 0, none⟩)] h K := by
  obtain ⟨V, hr, b⟩ := r
  refine c49 ?_
  unfold s49
  refine w_nilc (w_offP (w_offP (w_rdP hr (v := .map (some V.mi)) rfl ?_)))
  refine range_set Try.underlying88 b.now fun o m0 hi => ?_
  have x3 : Ex h (h ++ [o]) := .app _ _
  have l3 : (h ++ [o]).length = h.length + 1 := by simp
  generalize h ++ [o] = h3 at *
  refine loopE_intro (fun m e h' => ∃ D : Row, e 0 = .pointer (some ⟨f, 0, none⟩) ∧ e 9 = .pointer (some ⟨h.length, 0, none⟩) ∧ Ex h h' ∧ h.length < h'.length ∧
    IterM eP one1 h' h.length V.mi st.now.row D m ∧ ∀ p, D p → p.2 ∉ st.m.final) m0 ⟨fun _ => False, rfl, rfl, x3, by omega, hi, fun _ h => h.elim⟩ ?_
  rintro I m e h4 ⟨D, e0, e9, hx, hrl, hit, hD⟩ hI
  rw [e0, e9]
  have hmi : V.mi < h.length := b.now.lt
  refine next_set hit (fun p o' m' hp hnd hm' hit' hent => ?_) (fun hall => ?_)
  · have y1 : Ex h (h4.set h.length o') := hx.set (by omega) _
    have yl : h.length < (h4.set h.length o').length := by simpa using hrl
    generalize h4.set h.length o' = h5 at *
    refine w_some rfl (c_t ?_)
    refine w_some hent (w_some rfl ?_)
    refine n_var rfl rfl rfl fun h6 x6 l6 g6 => ?_
    refine w_nilc (w_offP (w_offP (w_rdP (x6.some (y1.some hr)) (v := V.vf) rfl ?_)))
    refine w_offP (w_rdP g6 (v := .int .i64 p.2) rfl ?_)
    refine contains65 (b.ex (y1.trans x6)).final hb ?_
    refine c_dec (fun hc => ?_) (fun hc => ?_)
    · exact k _ true (y1.trans x6) ⟨fun _ => ⟨p.1, p.2, hp, hc⟩, fun _ => rfl⟩
    · refine hI m' _ _ hm' ⟨fun y => D y ∨ y = p, e0, e9, y1.trans x6, by omega, hit'.keep (x6.get _ (by have := y1.len; omega)) (x6.get _ yl), fun q hq => ?_⟩
      rcases hq with hq | rfl
      · exact hD q hq
      · exact hc
  · refine w_some rfl (c_f ?_)
    refine k _ false hx ⟨fun h => (by cases h), fun ⟨a, b, h1, h2⟩ => (hD (a, b) ((hall _).1 h1) h2).elim⟩
end Go.Proofs.Ytebbjimmgblcpaa.W
