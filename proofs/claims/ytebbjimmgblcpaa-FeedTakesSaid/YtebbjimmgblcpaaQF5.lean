/- The feed's machine goes on by a symbol: one that closes where nothing is left. Conditions: none. -/
import Derived.Test.YtebbjimmgblcpaaQF4
namespace Go.Proofs.Ytebbjimmgblcpaa.W
open Go Go.AM FeedM
set_option linter.unusedVariables false
set_option maxRecDepth 100000

theorem lowRow_grow {m : Mach} {D : Row} {p : Int × Int} {k : Int} {q : Int × Int} : lowRow m (fun y => D y ∨ y = p) k q ↔ lowRow m D k q ∨ p.1 = q.1 ∧ ∃ o ∈ m.closes, o.1 = p.2 ∧ o.2.1 = k ∧ o.2.2.1 = 0 ∧ o.2.2.2 = q.2 := by
  unfold lowRow
  obtain ⟨p1, p2⟩ := p
  constructor
  · rintro ⟨b, h | h, o, ho, h1, h2⟩
    · exact .inl ⟨b, h, o, ho, h1, h2⟩
    · cases h
      exact .inr ⟨rfl, o, ho, h1, h2⟩
  · rintro (⟨b, h, o, ho, h1, h2⟩ | ⟨h, o, ho, h1, h2⟩)
    · exact ⟨b, .inl h, o, ho, h1, h2⟩
    · exact ⟨p2, .inr (by simp only at h; rw [← h]), o, ho, h1, h2⟩
theorem lowRow_congr {m : Mach} {S D : Row} {k : Int} (h : ∀ x, S x ↔ D x) {q : Int × Int} : lowRow m S k q ↔ lowRow m D k q := by
  have : S = D := funext fun x => propext (h x)
  rw [this]

theorem lowest75 {h : AH} {f : Nat} {st : FS} {F : Nat → Prop} {k : Int} {K : Value → AH → Prop} (r : FR h f st F) (hb : st.m.closes.length < room40)
    (kk : ∀ h' F', FR h' f { st with now := ⟨lowRow st.m st.now.row k, st.now.bys⟩ } F' → Chg F h F' h' → K (.tuple #[]) h') : callW Try.prog 75 [.pointer (some ⟨f, 0, none⟩), .int .i64 k] h K := by
  obtain ⟨V, hr, b⟩ := r
  unfold room40 at hb
  refine c75 ?_
  unfold s75
  refine n_map0 fun h1 x1 l1 g1 => ?_
  refine w_nilc (w_offP (w_offP (w_rdP (x1.some hr) (v := .int .i64 st.now.bys) rfl ?_)))
  refine w_some rfl ?_
  refine n_var rfl rfl rfl fun h2 x2 l2 g2 => ?_
  refine w_nilc (w_offP (w_offP (w_rdP (x2.some (x1.some hr)) (v := .map (some V.mi)) rfl ?_)))
  refine range_set Try.underlying88 ((b.now.ex x1).ex x2) fun o m0 hi => ?_
  have x3 : Ex h2 (h2 ++ [o]) := .app _ _
  have l3 : (h2 ++ [o]).length = h2.length + 1 := by simp
  generalize h2 ++ [o] = h3 at *
  have nm : SetP h3 h.length (fun _ => False) := (SetM.empty g1).ex (x2.trans x3)
  refine loopE_intro (fun m e h' => ∃ D : Row, e 0 = .pointer (some ⟨f, 0, none⟩) ∧ e 1 = .int .i64 k ∧ e 4 = .pointer (some ⟨h1.length, 0, none⟩) ∧ e 20 = .pointer (some ⟨h2.length, 0, none⟩) ∧
    Ex h h' ∧ h2.length < h'.length ∧ h'[h1.length]? = some (.row [.map (some h.length), .int .i64 st.now.bys] true) ∧ SetP h' h.length (lowRow st.m D k) ∧ IterM eP one1 h' h2.length V.mi st.now.row D m) m0
    ⟨fun _ => False, rfl, rfl, rfl, rfl, (x1.trans x2).trans x3, by omega, x3.some g2, nm.congr (fun x => by simp [lowRow]), hi⟩ ?_
  rintro I m e h4 ⟨D, e0, e1, e4, e20, hx, hrl, hbox, hset, hit⟩ hI
  rw [e0, e4, e20]
  have hmi : V.mi < h.length := b.now.lt
  refine next_set hit (fun p o' m' hp hnd hm' hit' hent => ?_) (fun hall => ?_)
  · have y1 : Ex h (h4.set h2.length o') := hx.set (by omega) _
    have yb : (h4.set h2.length o')[h1.length]? = some (.row [.map (some h.length), .int .i64 st.now.bys] true) := by rw [get_ne (by omega)]; exact hbox
    have ys : SetP (h4.set h2.length o') h.length (lowRow st.m D k) := hset.same (get_ne (by omega) _)
    have yl : h2.length < (h4.set h2.length o').length := by simpa using hrl
    generalize h4.set h2.length o' = h5 at *
    refine w_some rfl (c_t ?_)
    refine w_some hent (w_some rfl ?_)
    refine n_var rfl rfl rfl fun h6 x6 l6 g6 => ?_
    refine w_nilc (w_offP (w_offP (w_rdP (x6.some (y1.some hr)) (v := V.vc) rfl ?_)))
    refine w_len b.closes ?_
    refine loopE_intro (fun n e' h' => ∃ j : Nat, j ≤ st.m.closes.length ∧ n = st.m.closes.length - j ∧ e' 0 = .pointer (some ⟨f, 0, none⟩) ∧ e' 1 = .int .i64 k ∧ e' 4 = .pointer (some ⟨h1.length, 0, none⟩) ∧ e' 20 = .pointer (some ⟨h2.length, 0, none⟩) ∧
      e' 5 = .pointer (some ⟨h5.length, 0, none⟩) ∧ e' 29 = V.vc ∧ e' 30 = .int .i64 st.m.closes.length ∧ e' 31 = .int .i64 j ∧
      Ex h h' ∧ h5.length < h'.length ∧ h'[h1.length]? = some (.row [.map (some h.length), .int .i64 st.now.bys] true) ∧ h'[h5.length]? = some (.row (cellsL (eP p)) true) ∧
      SetP h' h.length (fun q => lowRow st.m D k q ∨ p.1 = q.1 ∧ ∃ o ∈ st.m.closes.take j, o.1 = p.2 ∧ o.2.1 = k ∧ o.2.2.1 = 0 ∧ o.2.2.2 = q.2) ∧ IterM eP one1 h' h2.length V.mi st.now.row (fun y => D y ∨ y = p) m') st.m.closes.length
      ⟨0, Nat.zero_le _, rfl, e0, e1, e4, e20, rfl, rfl, rfl, rfl, y1.trans x6, by omega, x6.some yb, g6, (ys.ex x6).congr (fun q => by simp), hit'.keep (x6.get _ (by have := y1.len; omega)) (x6.get _ yl)⟩ ?_
    rintro I1 n e' h7 ⟨j, hj, hn, f0, f1, f4, f20, f5, f29, f30, f31, zx, zl, zb, zp, zs, zi⟩ hI1
    rw [f29, f30, f31, f5, f4, f1]
    refine w_lss ?_
    refine c_dec (fun hc => ?_) (fun hc => ?_)
    · obtain ⟨t, ht⟩ := getElem?_of_lt (l := st.m.closes) (i := j) (by omega)
      refine w_idxN e4_len (b.closes.ex zx) ht fun q hq => ?_
      refine w_rdA hq rfl ?_
      refine n_var rfl rfl rfl fun h8 x8 l8 g8 => ?_
      refine w_offP (w_rdP g8 (v := .int .i64 t.1) rfl ?_)
      refine w_offP (w_rdP (x8.some zp) (v := .int .i64 p.2) rfl ?_)
      refine w_eql ?_
      have next : ∀ h9 v45 e9, Ex h h9 → h5.length < h9.length → h9[h1.length]? = some (.row [.map (some h.length), .int .i64 st.now.bys] true) → h9[h5.length]? = some (.row (cellsL (eP p)) true) →
          SetP h9 h.length (fun q => lowRow st.m D k q ∨ p.1 = q.1 ∧ ∃ o ∈ st.m.closes.take (j + 1), o.1 = p.2 ∧ o.2.1 = k ∧ o.2.2.1 = 0 ∧ o.2.2.2 = q.2) → IterM eP one1 h9 h2.length V.mi st.now.row (fun y => D y ∨ y = p) m' →
          e9 0 = .pointer (some ⟨f, 0, none⟩) → e9 1 = .int .i64 k → e9 4 = .pointer (some ⟨h1.length, 0, none⟩) → e9 20 = .pointer (some ⟨h2.length, 0, none⟩) → e9 5 = .pointer (some ⟨h5.length, 0, none⟩) → e9 29 = V.vc → e9 30 = .int .i64 st.m.closes.length → v45 = .int .i64 ((j + 1 : Nat) : Int) → e9 31 = v45 → I1 e9 h9 :=
        fun h9 v45 e9 a1 a2 a3 a4 a5 a6 b0 b1 b4 b20 b5 b29 b30 bv b31 => hI1 (n - 1) _ _ (by omega) ⟨j + 1, by omega, by omega, b0, b1, b4, b20, b5, b29, b30, b31.trans bv, a1, a2, a3, a4, a5, a6⟩
      have zi8 : IterM eP one1 h8 h2.length V.mi st.now.row (fun y => D y ∨ y = p) m' := zi.keep (x8.get _ (by have := zx.len; omega)) (x8.get _ (by omega))
      have no : ∀ v45 e9, (¬ (t.1 = p.2 ∧ t.2.1 = k ∧ t.2.2.1 = 0)) → e9 0 = .pointer (some ⟨f, 0, none⟩) → e9 1 = .int .i64 k → e9 4 = .pointer (some ⟨h1.length, 0, none⟩) → e9 20 = .pointer (some ⟨h2.length, 0, none⟩) → e9 5 = .pointer (some ⟨h5.length, 0, none⟩) → e9 29 = V.vc → e9 30 = .int .i64 st.m.closes.length → v45 = .int .i64 ((j + 1 : Nat) : Int) → e9 31 = v45 → I1 e9 h8 := by
        intro v45 e9 hno b0 b1 b4 b20 b5 b29 b30 bv b31
        refine next _ _ _ (zx.trans x8) (by have := x8.len; omega) (x8.some zb) (x8.some zp) ((zs.ex x8).congr fun q => ?_) zi8 b0 b1 b4 b20 b5 b29 b30 bv b31
        rw [ex_take_succ ht]
        grind
      by_cases q1 : t.1 = p.2
      · refine g_tt q1 (w_offP ?_)
        refine g_tt q1 (w_rdP g8 (v := .int .i64 t.2.1) rfl ?_)
        refine g_tt q1 ?_
        refine g_tt q1 (w_eql ?_)
        refine pk_tt q1 ?_
        by_cases q2 : t.2.1 = k
        · refine g_tt q2 (w_offP ?_)
          refine g_tt q2 (w_rdP g8 (v := .int .i64 t.2.2.1) rfl ?_)
          refine g_tt q2 (w_eql ?_)
          refine pk_tt q2 ?_
          refine c_dec (fun q3 => ?_) (fun q3 => ?_)
          · refine w_offP (w_rdP (x8.some zb) (v := .map (some h.length)) rfl ?_)
            refine w_offP (w_rdP (x8.some zp) (v := .int .i64 p.1) rfl ?_)
            refine w_offP (w_rdP g8 (v := .int .i64 t.2.2.2) rfl ?_)
            refine w_some rfl ?_
            refine set_put (enc := eP) (one := one1) (x := (p.1, t.2.2.2)) Try.underlying88 keyP (zs.ex x8) fun o8 zs8 => ?_
            (repeat' (first | (with_reducible refine w_lss ?_) | (with_reducible refine w_leq ?_) | (with_reducible refine w_gtr ?_) | (with_reducible refine w_geq ?_) | (with_reducible refine w_eql ?_) | (with_reducible refine w_neq ?_) | (with_reducible refine w_lenSl ?_) | (with_reducible refine w_lenStr ?_) | (with_reducible refine w_not ?_) | (with_reducible refine w_add (by omega) (by omega) ?_) | (with_reducible refine w_sub (by omega) (by omega) ?_) | (with_reducible refine w_rem (by omega) (by omega) ?_) | (with_reducible refine w_quo (by omega) (by omega) (by omega) ?_) | (with_reducible refine w_seql ?_) | (with_reducible refine w_sneq ?_) | (with_reducible refine c_t ?_) | (with_reducible refine c_f ?_) | (with_reducible refine c_tt (by first | assumption | omega) ?_) | (with_reducible refine c_ff (by first | assumption | omega) ?_) | (with_reducible refine c_dec (fun hc => ?_) (fun hc => ?_)) | (with_reducible refine c_b (fun hc => ?_) (fun hc => ?_)) | (with_reducible refine gc_tt ?_) | (with_reducible refine gc_ft ?_) | (with_reducible refine gc_tf ?_) | (with_reducible refine gc_ff ?_) | (with_reducible refine g_tt (by first | assumption | omega) ?_) | (with_reducible refine g_tf (by first | assumption | omega) ?_) | (with_reducible refine g_ft (by first | assumption | omega) ?_) | (with_reducible refine g_ff (by first | assumption | omega) ?_) | (with_reducible refine g_dec (fun hc => ?_) (fun hc => ?_)) | (with_reducible refine g_decf (fun hc => ?_) (fun hc => ?_)) | (with_reducible refine pk_t ?_) | (with_reducible refine pk_f ?_) | (with_reducible refine pk_tt (by first | assumption | omega) ?_) | (with_reducible refine pk_ff (by first | assumption | omega) ?_)))
            refine next _ _ _ ((zx.trans x8).set (Nat.le_refl _) _) (by simp; omega) (by rw [get_ne (by omega)]; exact x8.some zb) (by rw [get_ne (by have := y1.len; omega)]; exact x8.some zp) (zs8.congr fun q => ?_)
              (zi8.keep (get_ne (by omega) _) (get_ne (by omega) _)) f0 f1 f4 f20 f5 f29 f30 rfl rfl
            rw [ex_take_succ ht]
            obtain ⟨qa, qb⟩ := q
            simp only [q1, q2, q3, true_and, Prod.mk.injEq]
            grind
          · (repeat' (first | (with_reducible refine w_lss ?_) | (with_reducible refine w_leq ?_) | (with_reducible refine w_gtr ?_) | (with_reducible refine w_geq ?_) | (with_reducible refine w_eql ?_) | (with_reducible refine w_neq ?_) | (with_reducible refine w_lenSl ?_) | (with_reducible refine w_lenStr ?_) | (with_reducible refine w_not ?_) | (with_reducible refine w_add (by omega) (by omega) ?_) | (with_reducible refine w_sub (by omega) (by omega) ?_) | (with_reducible refine w_rem (by omega) (by omega) ?_) | (with_reducible refine w_quo (by omega) (by omega) (by omega) ?_) | (with_reducible refine w_seql ?_) | (with_reducible refine w_sneq ?_) | (with_reducible refine c_t ?_) | (with_reducible refine c_f ?_) | (with_reducible refine c_tt (by first | assumption | omega) ?_) | (with_reducible refine c_ff (by first | assumption | omega) ?_) | (with_reducible refine c_dec (fun hc => ?_) (fun hc => ?_)) | (with_reducible refine c_b (fun hc => ?_) (fun hc => ?_)) | (with_reducible refine gc_tt ?_) | (with_reducible refine gc_ft ?_) | (with_reducible refine gc_tf ?_) | (with_reducible refine gc_ff ?_) | (with_reducible refine g_tt (by first | assumption | omega) ?_) | (with_reducible refine g_tf (by first | assumption | omega) ?_) | (with_reducible refine g_ft (by first | assumption | omega) ?_) | (with_reducible refine g_ff (by first | assumption | omega) ?_) | (with_reducible refine g_dec (fun hc => ?_) (fun hc => ?_)) | (with_reducible refine g_decf (fun hc => ?_) (fun hc => ?_)) | (with_reducible refine pk_t ?_) | (with_reducible refine pk_f ?_) | (with_reducible refine pk_tt (by first | assumption | omega) ?_) | (with_reducible refine pk_ff (by first | assumption | omega) ?_)))
            exact no _ _ (fun hh => q3 hh.2.2) f0 f1 f4 f20 f5 f29 f30 rfl rfl
        · refine g_tf q2 ?_
          refine g_tf q2 ?_
          refine g_tf q2 ?_
          refine pk_ff q2 (c_f ?_)
          (repeat' (first | (with_reducible refine w_lss ?_) | (with_reducible refine w_leq ?_) | (with_reducible refine w_gtr ?_) | (with_reducible refine w_geq ?_) | (with_reducible refine w_eql ?_) | (with_reducible refine w_neq ?_) | (with_reducible refine w_lenSl ?_) | (with_reducible refine w_lenStr ?_) | (with_reducible refine w_not ?_) | (with_reducible refine w_add (by omega) (by omega) ?_) | (with_reducible refine w_sub (by omega) (by omega) ?_) | (with_reducible refine w_rem (by omega) (by omega) ?_) | (with_reducible refine w_quo (by omega) (by omega) (by omega) ?_) | (with_reducible refine w_seql ?_) | (with_reducible refine w_sneq ?_) | (with_reducible refine c_t ?_) | (with_reducible refine c_f ?_) | (with_reducible refine c_tt (by first | assumption | omega) ?_) | (with_reducible refine c_ff (by first | assumption | omega) ?_) | (with_reducible refine c_dec (fun hc => ?_) (fun hc => ?_)) | (with_reducible refine c_b (fun hc => ?_) (fun hc => ?_)) | (with_reducible refine gc_tt ?_) | (with_reducible refine gc_ft ?_) | (with_reducible refine gc_tf ?_) | (with_reducible refine gc_ff ?_) | (with_reducible refine g_tt (by first | assumption | omega) ?_) | (with_reducible refine g_tf (by first | assumption | omega) ?_) | (with_reducible refine g_ft (by first | assumption | omega) ?_) | (with_reducible refine g_ff (by first | assumption | omega) ?_) | (with_reducible refine g_dec (fun hc => ?_) (fun hc => ?_)) | (with_reducible refine g_decf (fun hc => ?_) (fun hc => ?_)) | (with_reducible refine pk_t ?_) | (with_reducible refine pk_f ?_) | (with_reducible refine pk_tt (by first | assumption | omega) ?_) | (with_reducible refine pk_ff (by first | assumption | omega) ?_)))
          exact no _ _ (fun hh => q2 hh.2.1) f0 f1 f4 f20 f5 f29 f30 rfl rfl
      · refine g_tf q1 ?_
        refine g_tf q1 ?_
        refine g_tf q1 ?_
        refine g_tf q1 ?_
        refine pk_ff q1 ?_
        refine gc_tf (gc_tf (gc_tf (pk_f (c_f ?_))))
        (repeat' (first | (with_reducible refine w_lss ?_) | (with_reducible refine w_leq ?_) | (with_reducible refine w_gtr ?_) | (with_reducible refine w_geq ?_) | (with_reducible refine w_eql ?_) | (with_reducible refine w_neq ?_) | (with_reducible refine w_lenSl ?_) | (with_reducible refine w_lenStr ?_) | (with_reducible refine w_not ?_) | (with_reducible refine w_add (by omega) (by omega) ?_) | (with_reducible refine w_sub (by omega) (by omega) ?_) | (with_reducible refine w_rem (by omega) (by omega) ?_) | (with_reducible refine w_quo (by omega) (by omega) (by omega) ?_) | (with_reducible refine w_seql ?_) | (with_reducible refine w_sneq ?_) | (with_reducible refine c_t ?_) | (with_reducible refine c_f ?_) | (with_reducible refine c_tt (by first | assumption | omega) ?_) | (with_reducible refine c_ff (by first | assumption | omega) ?_) | (with_reducible refine c_dec (fun hc => ?_) (fun hc => ?_)) | (with_reducible refine c_b (fun hc => ?_) (fun hc => ?_)) | (with_reducible refine gc_tt ?_) | (with_reducible refine gc_ft ?_) | (with_reducible refine gc_tf ?_) | (with_reducible refine gc_ff ?_) | (with_reducible refine g_tt (by first | assumption | omega) ?_) | (with_reducible refine g_tf (by first | assumption | omega) ?_) | (with_reducible refine g_ft (by first | assumption | omega) ?_) | (with_reducible refine g_ff (by first | assumption | omega) ?_) | (with_reducible refine g_dec (fun hc => ?_) (fun hc => ?_)) | (with_reducible refine g_decf (fun hc => ?_) (fun hc => ?_)) | (with_reducible refine pk_t ?_) | (with_reducible refine pk_f ?_) | (with_reducible refine pk_tt (by first | assumption | omega) ?_) | (with_reducible refine pk_ff (by first | assumption | omega) ?_)))
        exact no _ _ (fun hh => q1 hh.1) f0 f1 f4 f20 f5 f29 f30 rfl rfl
    · have hje : j = st.m.closes.length := by omega
      subst hje
      rw [List.take_length] at zs
      exact hI m' _ _ hm' ⟨_, f0, f1, f4, f20, zx, by omega, zb, zs.congr fun q => lowRow_grow, zi⟩
  · refine w_some rfl (c_f ?_)
    refine w_rdPA hbox (Nat.le_refl 2) ?_
    refine w_nilc (w_offP ?_)
    refine w_stPA (hx.some hr) rfl (by simp [rowOf]) rfl ?_
    have hlt := lt_of_get hr
    refine kk _ (fun j => F j ∨ j = h.length) ⟨{ V with mi := h.length }, ?_, ?_⟩ ⟨by simpa using hx.len, fun j hj hF => ?_, fun j hj => hj.imp id fun e => Nat.le_of_eq e.symm⟩
    · rw [get_set _ (hx.lt hlt)]
      rfl
    · exact (newnow b hx (Nat.le_refl _) (hset.congr fun q => lowRow_congr hall)).setf _
    · rw [get_ne (fun e => hF (by rw [← e]; exact b.ff))]
      exact hx.get j hj
end Go.Proofs.Ytebbjimmgblcpaa.W
