/- The machine that takes all words: the walk of Each, its end. Conditions: none. -/
import Derived.Test.YtebbjimmgblcpaaQF18
namespace Go.Proofs.Ytebbjimmgblcpaa.W
open Go Go.AM FeedM
set_option linter.unusedVariables false
set_option maxRecDepth 100000

def z7 : List Value := [(.int .i64 0), (.int .i64 0), (.slice none 0 0), (.slice none 0 0), (.slice none 0 0), (.slice none 0 0), (.slice none 0 0)]
theorem n_newv {o : AObj} {h : AH} {K : Nat → AH → Prop} (k : ∀ h', Ex h h' → h'.length = h.length + 1 → h'[h.length]? = some o → K h.length h') : newW none o h K :=
  n_new (k _ (.app _ _) (by simp) (get_new _ _))

/-- an append to a slice that a row holds, and its store. -/
theorem app_field {s : Nat} {F : Nat → Prop} {h : AH} {p off n m : Nat} {v : Value} {c cs news : List Value} {K : Nat → Value → Value → AH → Prop} {o : AObj} (hs : 0 < s) (hr : h[p]? = some (.row c true)) (hoff : off < c.length) (ho : OwnG s F h v n cs) (ho' : o = .row news true)
    (h0 : 0 < m) (hm : news.length = m * s) (hn : n + m < room40) (hFp : ∀ j, F j → p < j)
    (k : ∀ v' h', OwnG s (fun j => F j ∨ j = h.length + 1) h' v' (n + m) (cs ++ news) → isSl v' → h.length < h'.length → h'[p]? = some (.row (c.set off v') true) → (∀ j, j < h.length → j ≠ p → ¬ onId v j → h'[j]? = h[j]?) → (∀ j, onId v' j → onId v j ∨ j = h.length + 1) → ∀ i q, K i v' q h') :
    newW none o h fun i h1 => appSl s v (.slice (some ⟨i, 0, none⟩) m m) h1 fun v' h2 => optW (pOff off (.pointer (some ⟨p, 0, none⟩))) fun q => optW (pStore 1 q v' h2) (K i v' q) := by
  subst ho'
  refine n_new ?_
  have hlast : (h ++ [AObj.row news true])[h.length]? = some (.row news true) := get_new _ _
  have x1 : Ex h (h ++ [AObj.row news true]) := .app _ _
  have l1 : (h ++ [AObj.row news true]).length = h.length + 1 := by simp
  generalize h ++ [AObj.row news true] = h1 at *
  have o1 : OwnG s F h1 v n cs := ho.mono (fun _ _ h => h) fun j hj _ => x1.get j (ho.on hj).2
  have hp := lt_of_get hr
  refine appSl_of (app_g hs o1 (srcL_new hlast h0 hm) hm hn ?_)
  intro v' h2 q1 q2 q3 q4
  have hr2 : h2[p]? = some (.row c true) := (q3 _ (x1.lt hp) fun hh => by have := hFp p (ho.on hh).1; omega).trans (x1.some hr)
  have hsl : isSl v' := by obtain ⟨a, c, e⟩ := q1.sl.shape; exact ⟨a, _, c, e⟩
  obtain ⟨va, vn, vcap, rfl⟩ := hsl
  refine w_offP ?_
  rw [Nat.zero_add]
  refine w_stP hr2 hoff rfl rfl ?_
  have hne : ∀ j, onId (.slice va vn vcap) j → j ≠ p := fun j hj e => by
    subst e
    rcases (q1.on hj).1 with h | h
    · have := hFp _ h; omega
    · omega
  refine k _ _ (q1.mono (fun j _ h => h.imp id fun e => by omega) fun j hj _ => get_ne (hne j hj).symm _) ⟨_, _, _, rfl⟩ (by simp; omega) (get_set _ (lt_of_get hr2) _) (fun j hj hjp hjv => ?_) (fun j hj => (q4 j hj).imp id fun e => by omega) _ _
  rw [get_ne (Ne.symm hjp), q3 j (x1.lt hj) hjv]
  exact x1.get j hj

theorem each32 {h : AH} {v0 : Value} {l : List Sy} {K : Value → AH → Prop} (hl : Syms h v0 l) (hn : l.length ≤ 100)
    (k : ∀ h' vi vf vo vc vn, Ex h h' → Ints h' vi (eachM l).init → Ints h' vf (eachM l).final → SlT 4 e4 h' vo (eachM l).opens → SlT 4 e4 h' vc (eachM l).closes → SlT 3 e3 h' vn (eachM l).inners → K (.agg (mcells 1 1 vi vf vo vc vn).toArray) h') :
    callW Try.prog 32 [v0] h K := by
  refine c32 ?_
  unfold s32
  refine n_rowv (c := z7) fun h1 x1 l1 g1 => ?_
  refine w_some (bldSl_one rfl (by decide) rfl rfl) ?_
  refine n_newv fun h2 x2 l2 g2 => ?_
  refine w_some (bldSl_one rfl (by decide) rfl rfl) ?_
  refine n_newv fun h3 x3 l3 g3 => ?_
  refine w_some rfl ?_
  refine n_var rfl rfl rfl fun h4 x4 l4 g4 => ?_
  have hsi : Ints h4 (.slice (some ⟨h1.length, 0, none⟩) 1 1) [0] := ⟨rfl, .inr ⟨h1.length, 0, 1, rfl, .inl ⟨by decide, by decide⟩, .inr ⟨_, true, x4.some (x3.some g2), by decide, rfl⟩⟩⟩
  have hsf : Ints h4 (.slice (some ⟨h2.length, 0, none⟩) 1 1) [0] := ⟨rfl, .inr ⟨h2.length, 0, 1, rfl, .inl ⟨by decide, by decide⟩, .inr ⟨_, true, x4.some g3, by decide, rfl⟩⟩⟩
  have x04 : Ex h h4 := ((x1.trans x2).trans x3).trans x4
  refine loopE_intro (fun m e h' => ∃ (i : Nat) (vo vc vn : Value) (F : Nat → Prop), i ≤ l.length ∧ m = l.length - i ∧ e 0 = v0 ∧ e 2 = .pointer (some ⟨h.length, 0, none⟩) ∧ e 3 = .pointer (some ⟨h3.length, 0, none⟩) ∧ e 4 = .int .i64 i ∧
    Ex h h' ∧ h3.length < h'.length ∧ h'[h.length]? = some (.row z7 true) ∧ EachR h h' h3.length (.slice (some ⟨h1.length, 0, none⟩) 1 1) (.slice (some ⟨h2.length, 0, none⟩) 1 1) vo vc vn l i F) l.length
    ⟨0, .slice none 0 0, .slice none 0 0, .slice none 0 0, fun j => h3.length < j, Nat.zero_le _, rfl, rfl, rfl, rfl, rfl, x04, by omega, x4.some (x3.some (x2.some g1)), ?_⟩ ?_
  · exact {
      row := g4, init := hsi, fin := hsf, op := OwnG.nil _ _ _, cl := OwnG.nil _ _ _, inn := OwnG.nil _ _ _
      hF := fun j hj => hj
      ifF := fun j hj => by
        have : j < h3.length := by
          rcases hj with hj | hj
          · have : h1.length = j := hj
            omega
          · have : h2.length = j := hj
            omega
        exact ⟨by omega, by omega⟩
      oc := fun j hj => hj.elim
      cn := fun j hj => hj.elim }
  rintro I m e h' ⟨i, vo, vc, vn, F, hi, hm, e0, e2, e3', e4', hx, hp3, hp2, r⟩ hI
  rw [e0, e4', e3', e2]
  have bo := eOp_len l i
  have bc := eCl_len l i
  have bn := eIn_len l i
  have r40 : (1000 : Nat) < room40 := by decide
  have vlt : ∀ j, (onId (.slice (some ⟨h1.length, 0, none⟩) 1 1) j ∨ onId (.slice (some ⟨h2.length, 0, none⟩) 1 1) j) → j < h3.length := by
    rintro j (hj | hj)
    · have : h1.length = j := hj
      omega
    · have : h2.length = j := hj
      omega
  refine w_len hl (w_lss ?_)
  refine c_dec (fun q => ?_) (fun q => ?_)
  · obtain ⟨x, hxx⟩ := getElem?_of_lt (l := l) (i := i) (by omega)
    have hk : kindAt l i = x.2 := by unfold kindAt; rw [hxx]
    refine w_idxN (enc := eSy) eSy_len (hl.ex hx) hxx fun p hp => w_off hp (by simp [eSy_len]) fun p hp => w_rd1 hp rfl (w_eql ?_)
    refine c_dec (fun q1 => ?_) (fun q1 => ?_)
    · refine w_offP (w_rdP r.row (v := vo) rfl ?_)
      refine w_some rfl (w_some (bldSl_one rfl (by decide) rfl rfl) ?_)
      have eo : eOp l (i + 1) = eOp l i ++ [(0, (i : Int), 0, 1)] := by show eOp l i ++ _ = _; rw [hk, if_pos q1]
      have ec : eCl l (i + 1) = eCl l i := by show eCl l i ++ _ = _; rw [hk, if_pos q1, List.append_nil]
      have en : eIn l (i + 1) = eIn l i := by show eIn l i ++ _ = _; rw [hk, if_pos q1, List.append_nil]
      refine app_field (m := 1) (news := e4 (0, (i : Int), 0, 1)) (by decide) r.row (off := 4) (by exact (by decide : (4 : Nat) < 7)) r.op rfl (by decide) rfl (by omega) r.hF fun v' h9 o1 s1 l9 g9 keep ids i' q' => ?_
      refine w_add (by omega) (by omega) ?_
      refine hI (m - 1) _ _ (by omega) ⟨i + 1, v', vc, vn, (fun j => F j ∨ j = h'.length + 1), by omega, by omega, e0, e2, e3', rfl, ⟨by have := hx.len; omega, fun j hj => ?_⟩, by omega, ?_, r.next g9 (fun j hj => ?_) (fun j hj => ?_) ?_ ?_ ?_ (fun j hj => ?_) hp3 ?_ ?_ ?_⟩
      · exact (keep j (by have := hx.len; omega) (by omega) fun hh => by have := r.hF j (r.op.on hh).1; omega).trans (hx.get j hj)
      · exact (keep h.length (by omega) (by omega) fun hh => by have := r.hF _ (r.op.on hh).1; omega).trans hp2
      · exact keep j (by have := vlt j (.inl hj); omega) (r.ifF j (.inl hj)).2 fun hh => (r.ifF j (.inl hj)).1 (r.op.on hh).1
      · exact keep j (by have := vlt j (.inr hj); omega) (r.ifF j (.inr hj)).2 fun hh => (r.ifF j (.inr hj)).1 (r.op.on hh).1
      · rw [eo, flat_append, List.length_append]
        exact o1
      · rw [ec]
        exact r.cl.mono (fun j _ h => .inl h) fun j hj _ => keep j (r.cl.on hj).2 (by have := r.hF j (r.cl.on hj).1; omega) fun hh => (r.oc j hh).1 hj
      · rw [en]
        exact r.inn.mono (fun j _ h => .inl h) fun j hj _ => keep j (r.inn.on hj).2 (by have := r.hF j (r.inn.on hj).1; omega) fun hh => (r.oc j hh).2 hj
      · exact hj.imp id fun e => by omega
      · exact fun j hj => (ids j hj).elim (r.oc j) fun e => ⟨fun h => by have := (r.cl.on h).2; omega, fun h => by have := (r.inn.on h).2; omega⟩
      · exact r.cn
      · exact fun j hj => by have := vlt j hj; omega
    · refine w_eql ?_
      refine c_dec (fun q2 => ?_) (fun q2 => ?_)
      · refine w_offP (w_rdP r.row (v := vc) rfl ?_)
        refine w_some rfl (w_some rfl (w_some rfl ?_))
        have eo : eOp l (i + 1) = eOp l i := by show eOp l i ++ _ = _; rw [hk, if_neg q1, List.append_nil]
        have ec : eCl l (i + 1) = eCl l i ++ [(0, (i : Int), 0, 0), (0, (i : Int), 1, 0)] := by show eCl l i ++ _ = _; rw [hk, if_neg q1, if_pos q2]
        have en : eIn l (i + 1) = eIn l i := by show eIn l i ++ _ = _; rw [hk, if_neg q1, if_pos q2, List.append_nil]
        refine app_field (m := 2) (news := e4 (0, (i : Int), 0, 0) ++ e4 (0, (i : Int), 1, 0)) (by decide) r.row (off := 5) (by exact (by decide : (5 : Nat) < 7)) r.cl rfl (by decide) rfl (by omega) r.hF fun v' h9 o1 s1 l9 g9 keep ids i' q' => ?_
        refine w_add (by omega) (by omega) ?_
        refine hI (m - 1) _ _ (by omega) ⟨i + 1, vo, v', vn, (fun j => F j ∨ j = h'.length + 1), by omega, by omega, e0, e2, e3', rfl, ⟨by have := hx.len; omega, fun j hj => ?_⟩, by omega, ?_, r.next g9 (fun j hj => ?_) (fun j hj => ?_) ?_ ?_ ?_ (fun j hj => ?_) hp3 ?_ ?_ ?_⟩
        · exact (keep j (by have := hx.len; omega) (by omega) fun hh => by have := r.hF j (r.cl.on hh).1; omega).trans (hx.get j hj)
        · exact (keep h.length (by omega) (by omega) fun hh => by have := r.hF _ (r.cl.on hh).1; omega).trans hp2
        · exact keep j (by have := vlt j (.inl hj); omega) (r.ifF j (.inl hj)).2 fun hh => (r.ifF j (.inl hj)).1 (r.cl.on hh).1
        · exact keep j (by have := vlt j (.inr hj); omega) (r.ifF j (.inr hj)).2 fun hh => (r.ifF j (.inr hj)).1 (r.cl.on hh).1
        · rw [eo]
          exact r.op.mono (fun j _ h => .inl h) fun j hj _ => keep j (r.op.on hj).2 (by have := r.hF j (r.op.on hj).1; omega) fun hh => (r.oc j hj).1 hh
        · rw [ec, flat_append, List.length_append]
          exact o1
        · rw [en]
          exact r.inn.mono (fun j _ h => .inl h) fun j hj _ => keep j (r.inn.on hj).2 (by have := r.hF j (r.inn.on hj).1; omega) fun hh => r.cn j hh hj
        · exact hj.imp id fun e => by omega
        · exact fun j hj => ⟨fun h => (ids j h).elim (r.oc j hj).1 fun e => by have := (r.op.on hj).2; omega, (r.oc j hj).2⟩
        · exact fun j hj h => (ids j hj).elim (fun hj => r.cn j hj h) fun e => by have := (r.inn.on h).2; omega
        · exact fun j hj => by have := vlt j hj; omega
      · refine w_offP (w_rdP r.row (v := vn) rfl ?_)
        refine w_some rfl (w_some (bldSl_one rfl (by decide) rfl rfl) ?_)
        have eo : eOp l (i + 1) = eOp l i := by show eOp l i ++ _ = _; rw [hk, if_neg q1, List.append_nil]
        have ec : eCl l (i + 1) = eCl l i := by show eCl l i ++ _ = _; rw [hk, if_neg q1, if_neg q2, List.append_nil]
        have en : eIn l (i + 1) = eIn l i ++ [(0, (i : Int), 0)] := by show eIn l i ++ _ = _; rw [hk, if_neg q1, if_neg q2]
        refine app_field (m := 1) (news := e3 (0, (i : Int), 0)) (by decide) r.row (off := 6) (by exact (by decide : (6 : Nat) < 7)) r.inn rfl (by decide) rfl (by omega) r.hF fun v' h9 o1 s1 l9 g9 keep ids i' q' => ?_
        refine w_add (by omega) (by omega) ?_
        refine hI (m - 1) _ _ (by omega) ⟨i + 1, vo, vc, v', (fun j => F j ∨ j = h'.length + 1), by omega, by omega, e0, e2, e3', rfl, ⟨by have := hx.len; omega, fun j hj => ?_⟩, by omega, ?_, r.next g9 (fun j hj => ?_) (fun j hj => ?_) ?_ ?_ ?_ (fun j hj => ?_) hp3 ?_ ?_ ?_⟩
        · exact (keep j (by have := hx.len; omega) (by omega) fun hh => by have := r.hF j (r.inn.on hh).1; omega).trans (hx.get j hj)
        · exact (keep h.length (by omega) (by omega) fun hh => by have := r.hF _ (r.inn.on hh).1; omega).trans hp2
        · exact keep j (by have := vlt j (.inl hj); omega) (r.ifF j (.inl hj)).2 fun hh => (r.ifF j (.inl hj)).1 (r.inn.on hh).1
        · exact keep j (by have := vlt j (.inr hj); omega) (r.ifF j (.inr hj)).2 fun hh => (r.ifF j (.inr hj)).1 (r.inn.on hh).1
        · rw [eo]
          exact r.op.mono (fun j _ h => .inl h) fun j hj _ => keep j (r.op.on hj).2 (by have := r.hF j (r.op.on hj).1; omega) fun hh => (r.oc j hj).2 hh
        · rw [ec]
          exact r.cl.mono (fun j _ h => .inl h) fun j hj _ => keep j (r.cl.on hj).2 (by have := r.hF j (r.cl.on hj).1; omega) fun hh => r.cn j hj hh
        · rw [en, flat_append, List.length_append]
          exact o1
        · exact hj.imp id fun e => by omega
        · exact fun j hj => ⟨(r.oc j hj).1, fun h => (ids j h).elim (r.oc j hj).2 fun e => by have := (r.op.on hj).2; omega⟩
        · exact fun j hj h => (ids j h).elim (r.cn j hj) fun e => by have := (r.cl.on hj).2; omega
        · exact fun j hj => by have := vlt j hj; omega
  · have hie : i = l.length := by omega
    subst hie
    obtain ⟨a3, c3, rfl⟩ := r.op.sl.shape
    obtain ⟨a4, c4, rfl⟩ := r.cl.sl.shape
    obtain ⟨a5, c5, rfl⟩ := r.inn.sl.shape
    refine w_rdPA r.row (Nat.le_refl 7) ?_
    refine w_stPA hp2 rfl (Nat.le_refl 7) rfl ?_
    rw [res32]
    have hb := lt_of_get hp2
    have hopt : ∀ {α : Type} {o : Option α} {x : α}, (optW o fun y => y = x) → o = some x := by
      intro α o x ho
      cases o with
      | none => exact ho.elim
      | some y => have : y = x := ho; rw [this]
    refine w_some (v := [.agg (mcells 1 1 (.slice (some ⟨h1.length, 0, none⟩) 1 1) (.slice (some ⟨h2.length, 0, none⟩) 1 1) (.slice a3 (eOp l l.length).length c3) (.slice a4 (eCl l l.length).length c4) (.slice a5 (eIn l l.length).length c5)).toArray]) ?_ ?_
    · show (rdRow true 7 (e 2) _).map _ = _
      rw [e2]
      have g := hopt (o := rdRow true 7 (.pointer (some ⟨h.length, 0, none⟩)) _) (w_rdPA (get_set h' hb (.row (spliceL z7 0 (cellsL (.agg (((mcells 1 1 (.slice (some ⟨h1.length, 0, none⟩) 1 1) (.slice (some ⟨h2.length, 0, none⟩) 1 1) (.slice a3 (eOp l l.length).length c3) (.slice a4 (eCl l l.length).length c4) (.slice a5 (eIn l l.length).length c5)).drop 0).take 7).toArray))) true)) (Nat.le_refl 7) rfl)
      rw [g]
      rfl
    · have ne : ∀ j, F j → h.length ≠ j := fun j hj => by have := r.hF j hj; omega
      refine k _ _ _ _ _ _ (hx.set (Nat.le_refl _) _) (Sl.same r.init fun j hj => get_ne (by have := vlt j (.inl hj); have : h1.length = j := hj; omega) _) (Sl.same r.fin fun j hj => get_ne (by have : h2.length = j := hj; omega) _)
        (Sl.same r.op.sl fun j hj => get_ne (ne j (r.op.on hj).1) _) (Sl.same r.cl.sl fun j hj => get_ne (ne j (r.cl.on hj).1) _) (Sl.same r.inn.sl fun j hj => get_ne (ne j (r.inn.on hj).1) _)
end Go.Proofs.Ytebbjimmgblcpaa.W
