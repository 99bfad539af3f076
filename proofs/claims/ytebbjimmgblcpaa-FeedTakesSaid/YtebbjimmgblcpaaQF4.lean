/- The feed's machine goes on by a symbol: inner. Conditions: none. -/
import Derived.Test.YtebbjimmgblcpaaQF3
namespace Go.Proofs.Ytebbjimmgblcpaa.W
open Go Go.AM FeedM
set_option linter.unusedVariables false
set_option maxRecDepth 100000

theorem keyP0 (a b : Int × Int) : keyEq Try.prog 115 (eP a) (eP b) = sameScals [.int .i64 a.1, .int .i64 a.2] [.int .i64 b.1, .int .i64 b.2] := by kernel_rfl
theorem keyP : KeyOK Try.prog 115 eP := by
  intro a b
  rw [keyP0]
  obtain ⟨a1, a2⟩ := a
  obtain ⟨b1, b2⟩ := b
  simp only [sameScals, sameScal, if_true]
  by_cases h1 : a1 = b1
  · subst h1
    by_cases h2 : a2 = b2
    · subst h2; simp
    · have : (a2 == b2) = false := by simpa using h2
      simp [this, h2]
  · have : (a1 == b1) = false := by simpa using h1
    simp [this, h1]

theorem newnow {h h1 : AH} {f : Nat} {V : FV} {st : FS} {F : Nat → Prop} {i : Nat} {R : Row} {by' : Int} (b : FRB h f V st F) (hx : Ex h h1) (hi : h.length ≤ i) (hs : SetP h1 i R) : FRB h1 f { V with mi := i } { st with now := ⟨R, by'⟩ } (fun j => F j ∨ j = i) := by
  have b1 := b.same (h' := h1) hx.len (fun j hj => hx.get j (b.lt j (b.rF j hj))) (fun j hj => hx.get j (b.lt j (by
    rcases hj with h | h | h
    · exact (b.s.on h).1
    · exact (b.word.on h).1
    · exact (b.under.on h).1)))
  have wlt : ∀ j, wIds f V j → j < h.length := fun j hj => b.lt j (by
    rcases hj with rfl | h | h | h
    · exact b.ff
    · exact (b.s.on h).1
    · exact (b.word.on h).1
    · exact (b.under.on h).1)
  exact {
    init := b1.init, final := b1.final, opens := b1.opens, closes := b1.closes, inners := b1.inners, now := hs
    under := b1.under.mono (fun _ _ h => .inl h) fun _ _ _ => rfl
    lvs := b1.lvs
    s := b1.s.mono (fun _ _ h => .inl h) fun _ _ _ => rfl
    l := b1.l
    word := b1.word.mono (fun _ _ h => .inl h) fun _ _ _ => rfl
    ff := .inl b.ff
    rF := fun j hj => by
      rcases hj with h | h | h | h | h | h | h | h
      · exact .inl (b.rF j (.inl h))
      · exact .inl (b.rF j (.inr (.inl h)))
      · exact .inl (b.rF j (.inr (.inr (.inl h))))
      · exact .inl (b.rF j (.inr (.inr (.inr (.inl h)))))
      · exact .inl (b.rF j (.inr (.inr (.inr (.inr (.inl h))))))
      · exact .inl (b.rF j (.inr (.inr (.inr (.inr (.inr (.inl h)))))))
      · exact .inr h
      · exact .inl (b.rF j (.inr (.inr (.inr (.inr (.inr (.inr (.inr h))))))))
    lt := fun j hj => hj.elim (fun h => b1.lt j h) fun h => h ▸ hs.lt
    sep := fun j hw hj => by
      rcases hj with h | h | h | h | h | h | h | h
      · exact b.sep j hw (.inl h)
      · exact b.sep j hw (.inr (.inl h))
      · exact b.sep j hw (.inr (.inr (.inl h)))
      · exact b.sep j hw (.inr (.inr (.inr (.inl h))))
      · exact b.sep j hw (.inr (.inr (.inr (.inr (.inl h)))))
      · exact b.sep j hw (.inr (.inr (.inr (.inr (.inr (.inl h))))))
      · have := wlt j hw
        have h' : j = i := h
        omega
      · exact b.sep j hw (.inr (.inr (.inr (.inr (.inr (.inr (.inr h)))))))
    sf := b.sf
    sw := b.sw
    wu := b.wu }

theorem ex_take_succ {α : Type} {l : List α} {j : Nat} {t : α} (ht : l[j]? = some t) {P : α → Prop} : (∃ o ∈ l.take (j + 1), P o) ↔ (∃ o ∈ l.take j, P o) ∨ P t := by
  rw [take_succ_get ht]
  simp only [List.mem_append, List.mem_singleton]
  constructor
  · rintro ⟨o, h | rfl, hp⟩
    · exact .inl ⟨o, h, hp⟩
    · exact .inr hp
  · rintro (⟨o, h, hp⟩ | hp)
    · exact ⟨o, .inl h, hp⟩
    · exact ⟨t, .inr rfl, hp⟩
theorem innerRow_grow {m : Mach} {D : Row} {p : Int × Int} {k : Int} {q : Int × Int} : innerRow m (fun y => D y ∨ y = p) k q ↔ innerRow m D k q ∨ p.1 = q.1 ∧ ∃ o ∈ m.inners, o.1 = p.2 ∧ o.2.1 = k ∧ o.2.2 = q.2 := by
  unfold innerRow
  obtain ⟨p1, p2⟩ := p
  constructor
  · rintro ⟨b, h | h, o, ho, h1, h2⟩
    · exact .inl ⟨b, h, o, ho, h1, h2⟩
    · cases h
      exact .inr ⟨rfl, o, ho, h1, h2⟩
  · rintro (⟨b, h, o, ho, h1, h2⟩ | ⟨h, o, ho, h1, h2⟩)
    · exact ⟨b, .inl h, o, ho, h1, h2⟩
    · exact ⟨p2, .inr (by simp only at h; rw [← h]), o, ho, h1, h2⟩
theorem innerRow_congr {m : Mach} {S D : Row} {k : Int} (h : ∀ x, S x ↔ D x) {q : Int × Int} : innerRow m S k q ↔ innerRow m D k q := by
  have : S = D := funext fun x => propext (h x)
  rw [this]

theorem inner72 {h : AH} {f : Nat} {st : FS} {F : Nat → Prop} {k : Int} {K : Value → AH → Prop} (r : FR h f st F) (hb : st.m.inners.length < room40)
    (kk : ∀ h' F', FR h' f (innered st k) F' → Chg F h F' h' → K (.tuple #[]) h') : callW Try.prog 72 [.pointer (some ⟨f, 0, none⟩), .int .i64 k] h K := by
  obtain ⟨V, hr, b⟩ := r
  unfold room40 at hb
  refine c72 ?_
  unfold s72
  refine n_map0 fun h1 x1 l1 g1 => ?_
  refine w_nilc (w_offP (w_offP (w_rdP (x1.some hr) (v := .int .i64 st.now.bys) rfl ?_)))
  refine w_some rfl ?_
  refine n_var rfl rfl rfl fun h2 x2 l2 g2 => ?_
  refine w_nilc (w_offP (w_offP (w_rdP (x2.some (x1.some hr)) (v := .map (some V.mi)) rfl ?_)))
  refine range_set Try.underlying88 ((b.now.ex x1).ex x2) fun o m0 hi => ?_
  have x3 : Ex h2 (h2 ++ [o]) := .app _ _
  have l3 : (h2 ++ [o]).length = h2.length + 1 := by simp
  generalize h2 ++ [o] = h3 at *
  have nm : SetP h3 h.length (fun _ => False) := (SetM.empty g1).ex (x2.trans x3)
  refine loopE_intro (fun m e h' => ∃ D : Row, e 0 = .pointer (some ⟨f, 0, none⟩) ∧ e 1 = .int .i64 k ∧ e 4 = .pointer (some ⟨h1.length, 0, none⟩) ∧ e 20 = .pointer (some ⟨h2.length, 0, none⟩) ∧
    Ex h h' ∧ h2.length < h'.length ∧ h'[h1.length]? = some (.row [.map (some h.length), .int .i64 st.now.bys] true) ∧ SetP h' h.length (innerRow st.m D k) ∧ IterM eP one1 h' h2.length V.mi st.now.row D m) m0
    ⟨fun _ => False, rfl, rfl, rfl, rfl, (x1.trans x2).trans x3, by omega, x3.some g2, nm.congr (fun x => by simp [innerRow]), hi⟩ ?_
  rintro I m e h4 ⟨D, e0, e1, e4, e20, hx, hrl, hbox, hset, hit⟩ hI
  rw [e0, e4, e20]
  have hmi : V.mi < h.length := b.now.lt
  refine next_set hit (fun p o' m' hp hnd hm' hit' hent => ?_) (fun hall => ?_)
  · have y1 : Ex h (h4.set h2.length o') := hx.set (by omega) _
    have yb : (h4.set h2.length o')[h1.length]? = some (.row [.map (some h.length), .int .i64 st.now.bys] true) := by rw [get_ne (by omega)]; exact hbox
    have ys : SetP (h4.set h2.length o') h.length (innerRow st.m D k) := hset.same (get_ne (by omega) _)
    have yl : h2.length < (h4.set h2.length o').length := by simpa using hrl
    generalize h4.set h2.length o' = h5 at *
    refine w_some rfl (c_t ?_)
    refine w_some hent (w_some rfl ?_)
    refine n_var rfl rfl rfl fun h6 x6 l6 g6 => ?_
    refine w_nilc (w_offP (w_offP (w_rdP (x6.some (y1.some hr)) (v := V.vn) rfl ?_)))
    refine w_len b.inners ?_
    refine loopE_intro (fun n e' h' => ∃ j : Nat, j ≤ st.m.inners.length ∧ n = st.m.inners.length - j ∧ e' 0 = .pointer (some ⟨f, 0, none⟩) ∧ e' 1 = .int .i64 k ∧ e' 4 = .pointer (some ⟨h1.length, 0, none⟩) ∧ e' 20 = .pointer (some ⟨h2.length, 0, none⟩) ∧
      e' 5 = .pointer (some ⟨h5.length, 0, none⟩) ∧ e' 29 = V.vn ∧ e' 30 = .int .i64 st.m.inners.length ∧ e' 31 = .int .i64 j ∧
      Ex h h' ∧ h5.length < h'.length ∧ h'[h1.length]? = some (.row [.map (some h.length), .int .i64 st.now.bys] true) ∧ h'[h5.length]? = some (.row (cellsL (eP p)) true) ∧
      SetP h' h.length (fun q => innerRow st.m D k q ∨ p.1 = q.1 ∧ ∃ o ∈ st.m.inners.take j, o.1 = p.2 ∧ o.2.1 = k ∧ o.2.2 = q.2) ∧ IterM eP one1 h' h2.length V.mi st.now.row (fun y => D y ∨ y = p) m') st.m.inners.length
      ⟨0, Nat.zero_le _, rfl, e0, e1, e4, e20, rfl, rfl, rfl, rfl, y1.trans x6, by omega, x6.some yb, g6, (ys.ex x6).congr (fun q => by simp), hit'.keep (x6.get _ (by have := y1.len; omega)) (x6.get _ yl)⟩ ?_
    rintro I1 n e' h7 ⟨j, hj, hn, f0, f1, f4, f20, f5, f29, f30, f31, zx, zl, zb, zp, zs, zi⟩ hI1
    rw [f29, f30, f31, f5, f4, f1]
    refine w_lss ?_
    refine c_dec (fun hc => ?_) (fun hc => ?_)
    · obtain ⟨t, ht⟩ := getElem?_of_lt (l := st.m.inners) (i := j) (by omega)
      refine w_idxN e3_len (b.inners.ex zx) ht fun q hq => ?_
      refine w_rdA hq rfl ?_
      refine n_var rfl rfl rfl fun h8 x8 l8 g8 => ?_
      refine w_offP (w_rdP g8 (v := .int .i64 t.1) rfl ?_)
      refine w_offP (w_rdP (x8.some zp) (v := .int .i64 p.2) rfl ?_)
      refine w_eql ?_
      have next : ∀ h9 v45 e9, Ex h h9 → h5.length < h9.length → h9[h1.length]? = some (.row [.map (some h.length), .int .i64 st.now.bys] true) → h9[h5.length]? = some (.row (cellsL (eP p)) true) →
          SetP h9 h.length (fun q => innerRow st.m D k q ∨ p.1 = q.1 ∧ ∃ o ∈ st.m.inners.take (j + 1), o.1 = p.2 ∧ o.2.1 = k ∧ o.2.2 = q.2) → IterM eP one1 h9 h2.length V.mi st.now.row (fun y => D y ∨ y = p) m' →
          e9 0 = .pointer (some ⟨f, 0, none⟩) → e9 1 = .int .i64 k → e9 4 = .pointer (some ⟨h1.length, 0, none⟩) → e9 20 = .pointer (some ⟨h2.length, 0, none⟩) → e9 5 = .pointer (some ⟨h5.length, 0, none⟩) → e9 29 = V.vn → e9 30 = .int .i64 st.m.inners.length → v45 = .int .i64 ((j + 1 : Nat) : Int) → e9 31 = v45 → I1 e9 h9 :=
        fun h9 v45 e9 a1 a2 a3 a4 a5 a6 b0 b1 b4 b20 b5 b29 b30 bv b31 => hI1 (n - 1) _ _ (by omega) ⟨j + 1, by omega, by omega, b0, b1, b4, b20, b5, b29, b30, b31.trans bv, a1, a2, a3, a4, a5, a6⟩
      have zi8 : IterM eP one1 h8 h2.length V.mi st.now.row (fun y => D y ∨ y = p) m' := zi.keep (x8.get _ (by have := zx.len; omega)) (x8.get _ (by omega))
      by_cases q1 : t.1 = p.2
      · refine g_tt q1 (w_offP ?_)
        refine g_tt q1 (w_rdP g8 (v := .int .i64 t.2.1) rfl ?_)
        refine g_tt q1 ?_
        refine g_tt q1 (w_eql ?_)
        refine pk_tt q1 ?_
        refine c_dec (fun q2 => ?_) (fun q2 => ?_)
        · refine w_offP (w_rdP (x8.some zb) (v := .map (some h.length)) rfl ?_)
          refine w_offP (w_rdP (x8.some zp) (v := .int .i64 p.1) rfl ?_)
          refine w_offP (w_rdP g8 (v := .int .i64 t.2.2) rfl ?_)
          refine w_some rfl ?_
          refine set_put (enc := eP) (one := one1) (x := (p.1, t.2.2)) Try.underlying88 keyP (zs.ex x8) fun o8 zs8 => ?_
          (repeat' (first | (with_reducible refine w_lss ?_) | (with_reducible refine w_leq ?_) | (with_reducible refine w_gtr ?_) | (with_reducible refine w_geq ?_) | (with_reducible refine w_eql ?_) | (with_reducible refine w_neq ?_) | (with_reducible refine w_lenSl ?_) | (with_reducible refine w_lenStr ?_) | (with_reducible refine w_not ?_) | (with_reducible refine w_add (by omega) (by omega) ?_) | (with_reducible refine w_sub (by omega) (by omega) ?_) | (with_reducible refine w_rem (by omega) (by omega) ?_) | (with_reducible refine w_quo (by omega) (by omega) (by omega) ?_) | (with_reducible refine w_seql ?_) | (with_reducible refine w_sneq ?_) | (with_reducible refine c_t ?_) | (with_reducible refine c_f ?_) | (with_reducible refine c_tt (by first | assumption | omega) ?_) | (with_reducible refine c_ff (by first | assumption | omega) ?_) | (with_reducible refine c_dec (fun hc => ?_) (fun hc => ?_)) | (with_reducible refine c_b (fun hc => ?_) (fun hc => ?_)) | (with_reducible refine gc_tt ?_) | (with_reducible refine gc_ft ?_) | (with_reducible refine gc_tf ?_) | (with_reducible refine gc_ff ?_) | (with_reducible refine g_tt (by first | assumption | omega) ?_) | (with_reducible refine g_tf (by first | assumption | omega) ?_) | (with_reducible refine g_ft (by first | assumption | omega) ?_) | (with_reducible refine g_ff (by first | assumption | omega) ?_) | (with_reducible refine g_dec (fun hc => ?_) (fun hc => ?_)) | (with_reducible refine g_decf (fun hc => ?_) (fun hc => ?_)) | (with_reducible refine pk_t ?_) | (with_reducible refine pk_f ?_) | (with_reducible refine pk_tt (by first | assumption | omega) ?_) | (with_reducible refine pk_ff (by first | assumption | omega) ?_)))
          refine next _ _ _ ((zx.trans x8).set (Nat.le_refl _) _) (by simp; omega) (by rw [get_ne (by omega)]; exact x8.some zb) (by rw [get_ne (by have := y1.len; omega)]; exact x8.some zp) (zs8.congr fun q => ?_)
            (zi8.keep (get_ne (by omega) _) (get_ne (by omega) _)) f0 f1 f4 f20 f5 f29 f30 rfl rfl
          rw [ex_take_succ ht]
          obtain ⟨qa, qb⟩ := q
          simp only [q1, q2, true_and, Prod.mk.injEq]
          grind
        · (repeat' (first | (with_reducible refine w_lss ?_) | (with_reducible refine w_leq ?_) | (with_reducible refine w_gtr ?_) | (with_reducible refine w_geq ?_) | (with_reducible refine w_eql ?_) | (with_reducible refine w_neq ?_) | (with_reducible refine w_lenSl ?_) | (with_reducible refine w_lenStr ?_) | (with_reducible refine w_not ?_) | (with_reducible refine w_add (by omega) (by omega) ?_) | (with_reducible refine w_sub (by omega) (by omega) ?_) | (with_reducible refine w_rem (by omega) (by omega) ?_) | (with_reducible refine w_quo (by omega) (by omega) (by omega) ?_) | (with_reducible refine w_seql ?_) | (with_reducible refine w_sneq ?_) | (with_reducible refine c_t ?_) | (with_reducible refine c_f ?_) | (with_reducible refine c_tt (by first | assumption | omega) ?_) | (with_reducible refine c_ff (by first | assumption | omega) ?_) | (with_reducible refine c_dec (fun hc => ?_) (fun hc => ?_)) | (with_reducible refine c_b (fun hc => ?_) (fun hc => ?_)) | (with_reducible refine gc_tt ?_) | (with_reducible refine gc_ft ?_) | (with_reducible refine gc_tf ?_) | (with_reducible refine gc_ff ?_) | (with_reducible refine g_tt (by first | assumption | omega) ?_) | (with_reducible refine g_tf (by first | assumption | omega) ?_) | (with_reducible refine g_ft (by first | assumption | omega) ?_) | (with_reducible refine g_ff (by first | assumption | omega) ?_) | (with_reducible refine g_dec (fun hc => ?_) (fun hc => ?_)) | (with_reducible refine g_decf (fun hc => ?_) (fun hc => ?_)) | (with_reducible refine pk_t ?_) | (with_reducible refine pk_f ?_) | (with_reducible refine pk_tt (by first | assumption | omega) ?_) | (with_reducible refine pk_ff (by first | assumption | omega) ?_)))
          refine next _ _ _ (zx.trans x8) (by have := x8.len; omega) (x8.some zb) (x8.some zp) ((zs.ex x8).congr fun q => ?_) zi8 f0 f1 f4 f20 f5 f29 f30 rfl rfl
          rw [ex_take_succ ht]
          simp only [q2, false_and, and_false, or_false]
      · refine g_tf q1 ?_
        refine g_tf q1 ?_
        refine g_tf q1 ?_
        refine g_tf q1 ?_
        refine pk_ff q1 (c_f ?_)
        (repeat' (first | (with_reducible refine w_lss ?_) | (with_reducible refine w_leq ?_) | (with_reducible refine w_gtr ?_) | (with_reducible refine w_geq ?_) | (with_reducible refine w_eql ?_) | (with_reducible refine w_neq ?_) | (with_reducible refine w_lenSl ?_) | (with_reducible refine w_lenStr ?_) | (with_reducible refine w_not ?_) | (with_reducible refine w_add (by omega) (by omega) ?_) | (with_reducible refine w_sub (by omega) (by omega) ?_) | (with_reducible refine w_rem (by omega) (by omega) ?_) | (with_reducible refine w_quo (by omega) (by omega) (by omega) ?_) | (with_reducible refine w_seql ?_) | (with_reducible refine w_sneq ?_) | (with_reducible refine c_t ?_) | (with_reducible refine c_f ?_) | (with_reducible refine c_tt (by first | assumption | omega) ?_) | (with_reducible refine c_ff (by first | assumption | omega) ?_) | (with_reducible refine c_dec (fun hc => ?_) (fun hc => ?_)) | (with_reducible refine c_b (fun hc => ?_) (fun hc => ?_)) | (with_reducible refine gc_tt ?_) | (with_reducible refine gc_ft ?_) | (with_reducible refine gc_tf ?_) | (with_reducible refine gc_ff ?_) | (with_reducible refine g_tt (by first | assumption | omega) ?_) | (with_reducible refine g_tf (by first | assumption | omega) ?_) | (with_reducible refine g_ft (by first | assumption | omega) ?_) | (with_reducible refine g_ff (by first | assumption | omega) ?_) | (with_reducible refine g_dec (fun hc => ?_) (fun hc => ?_)) | (with_reducible refine g_decf (fun hc => ?_) (fun hc => ?_)) | (with_reducible refine pk_t ?_) | (with_reducible refine pk_f ?_) | (with_reducible refine pk_tt (by first | assumption | omega) ?_) | (with_reducible refine pk_ff (by first | assumption | omega) ?_)))
        refine next _ _ _ (zx.trans x8) (by have := x8.len; omega) (x8.some zb) (x8.some zp) ((zs.ex x8).congr fun q => ?_) zi8 f0 f1 f4 f20 f5 f29 f30 rfl rfl
        rw [ex_take_succ ht]
        simp only [q1, false_and, or_false]
    · have hje : j = st.m.inners.length := by omega
      subst hje
      rw [List.take_length] at zs
      exact hI m' _ _ hm' ⟨_, f0, f1, f4, f20, zx, by omega, zb, zs.congr fun q => innerRow_grow, zi⟩
  · refine w_some rfl (c_f ?_)
    refine w_rdPA hbox (Nat.le_refl 2) ?_
    refine w_nilc (w_offP ?_)
    refine w_stPA (hx.some hr) rfl (by simp [rowOf]) rfl ?_
    have hlt := lt_of_get hr
    refine kk _ (fun j => F j ∨ j = h.length) ⟨{ V with mi := h.length }, ?_, ?_⟩ ⟨by simpa using hx.len, fun j hj hF => ?_, fun j hj => hj.imp id fun e => Nat.le_of_eq e.symm⟩
    · rw [get_set _ (hx.lt hlt)]
      rfl
    · exact (newnow b hx (Nat.le_refl _) (hset.congr fun q => innerRow_congr hall)).setf _
    · rw [get_ne (fun e => hF (by rw [← e]; exact b.ff))]
      exact hx.get j hj
end Go.Proofs.Ytebbjimmgblcpaa.W
