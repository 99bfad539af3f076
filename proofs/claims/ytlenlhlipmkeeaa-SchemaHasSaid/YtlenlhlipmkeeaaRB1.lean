/- Parts of a proof, joined by a program. Conditions: none. -/
import Derived.Test.YtlenlhlipmkeeaaRB0
import Derived.Test.YtlenlhlipmkeeaaRS0
import Derived.Test.YtlenlhlipmkeeaaRA2
import Derived.Test.YtlenlhlipmkeeaaRA0

section
/- Schema's laws: which words a schema has: an element, one of any. Conditions: none. -/
namespace Go.Proofs.Ytlenlhlipmkeeaa.W
open Go Go.AM SchM
set_option linter.unusedVariables false
set_option maxRecDepth 100000
def MC (c : Hc) (md : Mdl) (a : Nat) : Prop :=
  ∀ (u : Nat → Prop) (h : AH) (p o : Nat) (K : Value → AH → Prop), MI c u h → PM c p o md →
    (∀ (u' : Nat → Prop) (h' : AH) (v : Value) (i : Nat), MI c u' h' → Exx c.M h h' → (∀ i, u' i → u i ∨ h.length ≤ i) → u' i → BR h' i c.w.length v (Rw c md a) → K v h') →
    callW Try.prog 67 [.pointer (some ⟨c.r, 0, none⟩), .pointer (some ⟨p, o, none⟩), .int .i64 (a : Nat)] h K
abbrev St (c : Hc) : Stp := Stw (scOf c.x) c.w
def EC (c : Hc) (i a : Nat) : Prop :=
  ∀ (u : Nat → Prop) (h : AH) (K : Value → AH → Prop), MI c u h →
    (∀ (u' : Nat → Prop) (h' : AH) (v : Value) (j : Nat), MI c u' h' → Exx c.M h h' → (∀ i, u' i → u i ∨ h.length ≤ i) → h.length ≤ j → ¬ u' j → BR h' j c.w.length v (St c i a) → K v h') →
    callW Try.prog 48 [.pointer (some ⟨c.r, 0, none⟩), .int .i64 (i : Nat), .int .i64 (a : Nat)] h K
theorem MI.exx {c : Hc} {h : AH} {M : Nat} (x : Exx M c.h0 h) {j : Nat} {o : AObj} (g : c.h0[j]? = some o) (hj : j ≠ M) : h[j]? = some o := x.some g hj
theorem elAt {c : Hc} (ok : HcOK c) {i : Nat} {e : W × Mdl} (hi : c.x.2[i]? = some e) :
    ∃ id off cap cc k n a l cp, c.L = .slice (some ⟨id, off, none⟩) c.x.2.length cap ∧ c.h0[id]? = some (.row cc true) ∧ id ≠ c.M ∧ off + i * 4 + 4 ≤ cc.length ∧
      (cc.drop (off + i * 4)).take 4 = [.string (bs e.1), .int .i64 k, .string (bs n), .slice a l cp] ∧ PM c id (off + i * 4 + 1) e.2 := by
  obtain ⟨La, Lc, cs, hL, sl, hG, el⟩ := ok.ls
  have hlt := get_lt hi
  obtain ⟨h1, ⟨h2, h3⟩ | ⟨id, off, cap, h2, h3, h4⟩⟩ := sl
  · omega
  · rcases h4 with h4 | ⟨cc, w, g, hle, ht⟩
    · omega
    · have Gi := hG id (by rw [h2]; rfl)
      obtain ⟨c2, g2⟩ := Gi.2.2
      rw [g] at g2
      cases g2
      obtain ⟨k, n, a, l, cp, e1, mh⟩ := EL.get _ _ el i e hi
      have hm : i * 4 + 4 ≤ c.x.2.length * 4 := by omega
      have e2 : (cc.drop (off + i * 4)).take 4 = [.string (bs e.1), .int .i64 k, .string (bs n), .slice a l cp] := by
        rw [← e1, ← ht, List.drop_take, List.drop_drop, List.take_take]
        congr 1
        omega
      refine ⟨id, off, cap, cc, k, n, a, l, cp, h2, g, Gi.1, by omega, e2, cc, g, Gi.1, by omega, ?_⟩
      have e3 : (cc.drop (off + i * 4 + 1)).take 3 = [.int .i64 k, .string (bs n), .slice a l cp] := by
        have := congrArg (List.drop 1) e2
        rw [List.drop_take, List.drop_drop] at this
        exact this
      rw [e3]
      exact mh
set_option maxHeartbeats 2000000 in
theorem element48 {c : Hc} (ok : HcOK c) {i a : Nat} {e : W × Mdl} (hi : c.x.2[i]? = some e) (ha : a ≤ c.w.length) (hm : a < c.w.length → MC c e.2 (a + 1)) : EC c i a := by
  intro u h K m k
  have hn := ok.n
  have hT := ok.T
  have hiT := get_lt hi
  obtain ⟨wa, wc, hws⟩ := ok.ws.shape
  obtain ⟨id, off, cap, cc, kk, nn, aa, ll, cp, hL, gid, idM, hle, ht4, pm⟩ := elAt ok hi
  have g := m.rdr ok
  rw [hws] at g
  have hM := ok.M
  have hl := m.x.len
  have hSt : ∀ x, St c i a x ↔ c.w[a]? = some (2 * (i : Int)) ∧ ∃ j', Rw c e.2 (a + 1) j' ∧ c.w[j']? = some (2 * (i : Int) + 1) ∧ x = j' + 1 := by
    intro x
    show Stw (scOf c.x) c.w i a x ↔ _
    rw [Stw_iff]
    have e1 : (scOf c.x).T = c.x.2.length := rfl
    have e2 : (scOf c.x).ms i = e.2 := by show (c.x.2[i]?.map (·.2)).getD _ = _; rw [hi]; rfl
    rw [e2]
    constructor
    · rintro (⟨h1, _⟩ | ⟨_, h1, h2⟩)
      · omega
      · exact ⟨h1, h2⟩
    · rintro ⟨h1, h2⟩
      exact .inr ⟨hiT, h1, h2⟩
  refine c48 ?_
  unfold s48
  refine row66 g (by omega) fun v h1 x1 l1 b => ?_
  have g1 := x1.some g
  have m1 := m.ext ok x1
  have nu1 : ¬ u h.length := fun hu => by have := (m.ub _ hu).2; omega
  have xx1 : Exx c.M h h1 := (Exx.refl _ _).ex x1
  refine w_nilc (w_offP (w_rdP g1 (v := .slice wa c.w.length wc) rfl (w_lenSl (w_geq ?_))))
  by_cases q : ((c.w.length : Nat) : Int) ≤ (a : Nat)
  · refine g_ft q (g_ft q (g_ft q (g_ft q (g_ft q (g_ft q (g_ft q (g_ft q (g_ft q (g_ft q (pk_tt q (c_t ?_)))))))))))
    refine k u h1 v h.length m1 xx1 (fun i hi => .inl hi) (Nat.le_refl _) nu1 (b.congr fun x => ?_)
    rw [hSt, List.getElem?_eq_none (by omega)]
    simp
  have sw : SlT 1 eI h1 (.slice wa c.w.length wc) c.w := hws ▸ m1.w ok
  obtain ⟨z, hz⟩ := getElem?_of_lt (l := c.w) (i := a) (by omega)
  refine g_ff q (g_ff q (w_nilc (g_ff q (w_offP (g_ff q (w_rdP g1 (v := .slice wa c.w.length wc) rfl (g_ff q (g_ff q ?_))))))))
  refine w_idxN (enc := eI) eI_len sw hz fun pp hpp => ?_
  refine g_ff q ?_
  refine w_rd1 hpp (x := .int .i64 z) rfl ?_
  refine g_ff q (g_ff q (w_mul (by omega) (by omega) (g_ff q (w_neq (pk_ff q ?_)))))
  refine c_dec (fun ee => ?_) (fun ee => ?_)
  · refine k u h1 v h.length m1 xx1 (fun i hi => .inl hi) (Nat.le_refl _) nu1 (b.congr fun x => ?_)
    rw [hSt, hz]
    constructor
    · exact fun h => h.elim
    · rintro ⟨h, _⟩
      exact ee (Option.some.inj h)
  have ez : z = 2 * (i : Int) := Classical.not_not.1 ee
  subst ez
  have gid1 := m1.x.some gid idM
  refine w_nilc (w_offP (w_offP (w_rdP g1 (v := c.L) rfl ?_)))
  rw [hL]
  refine w_some (v := .pointer (some ⟨id, off + i * 4, none⟩)) ?_ ?_
  · show (if 0 ≤ ((i : Nat) : Int) ∧ ((i : Nat) : Int) < ((c.x.2.length : Nat) : Int) then some (Value.pointer (some ⟨id, off + ((i : Nat) : Int).toNat * 4, none⟩)) else none) = _
    rw [if_pos (by omega)]
    simp
  refine w_offP (w_add (by omega) (by omega) ?_)
  refine hm (by omega) u h1 id (off + i * 4 + 1) _ m1 pm fun u2 h2 v2 i2 m2 x2 s2 hu2 b2 => ?_
  have nu2 : ¬ u2 h.length := fun hu => (s2 _ hu).elim nu1 fun hle => by omega
  have ne2 : i2 ≠ h.length := fun e => nu2 (by rw [← e]; exact hu2)
  have bo := b.keep (x2.get _ b.lt (by omega))
  refine b2.len ?_
  refine loopE_intro (fun mm E h3 => ∃ (j : Nat), j ≤ c.w.length + 1 ∧ mm = c.w.length + 1 - j ∧ E 0 = .pointer (some ⟨c.r, 0, none⟩) ∧ E 1 = .int .i64 (i : Nat) ∧ E 7 = v ∧ E 43 = v2 ∧ E 44 = .int .i64 ((c.w.length + 1 : Nat) : Int) ∧ E 45 = .int .i64 (j : Nat) ∧
      Exx h.length h2 h3 ∧ BR h3 h.length c.w.length v (fun x => ∃ k', k' < j ∧ Rw c e.2 (a + 1) k' ∧ c.w[k']? = some (2 * (i : Int) + 1) ∧ x = k' + 1)) (c.w.length + 1)
    ⟨0, Nat.zero_le _, rfl, rfl, rfl, rfl, rfl, rfl, rfl, .refl _ _, bo.congr fun x => ⟨fun h => h.elim, fun ⟨k', h, _⟩ => by omega⟩⟩ ?_
  rintro I mm E h3 ⟨j, hj, hmm, E0, E1, E7, E43, E44, E45, x3, b3⟩ ih
  rw [E0, E1, E7, E43, E44, E45]
  have m3 : MI c u2 h3 := m2.set ok (by omega) nu2 x3
  have g3 := m3.rdr ok
  rw [hws] at g3
  have sw3 : SlT 1 eI h3 (.slice wa c.w.length wc) c.w := hws ▸ m3.w ok
  refine w_lss (c_dec (fun r => ?_) (fun r => ?_))
  · have b23 := b2.keep (x3.get i2 b2.lt ne2)
    refine b23.rd (by omega) fun t htt => ?_
    have next : ∀ (E' : Env), (¬ (Rw c e.2 (a + 1) j ∧ c.w[j]? = some (2 * (i : Int) + 1))) → E' 0 = .pointer (some ⟨c.r, 0, none⟩) → E' 1 = .int .i64 (i : Nat) → E' 7 = v → E' 43 = v2 → E' 44 = .int .i64 ((c.w.length + 1 : Nat) : Int) → E' 45 = .int .i64 (((j + 1 : Nat)) : Int) → I E' h3 := by
      intro E' hno F0 F1 F7 F43 F44 F45
      refine ih (c.w.length + 1 - (j + 1)) _ _ (by omega) ⟨j + 1, by omega, rfl, F0, F1, F7, F43, F44, F45, x3, b3.congr fun x => ?_⟩
      constructor
      · rintro ⟨k', h1, h2⟩
        exact ⟨k', by omega, h2⟩
      · rintro ⟨k', h1, h2, h3, h4⟩
        by_cases ek : k' = j
        · subst ek; exact absurd ⟨h2, h3⟩ hno
        · exact ⟨k', by omega, h2, h3, h4⟩
    cases t with
    | false =>
      refine gc_tf (gc_tf (gc_tf (gc_tf (gc_tf (gc_tf (gc_tf (pk_f ?_)))))))
      refine gc_tf (gc_tf (gc_tf (gc_tf (gc_tf (gc_tf (gc_tf (gc_tf (gc_tf (gc_tf (gc_tf (pk_f (c_f ?_))))))))))))
      refine w_add (by omega) (by omega) (next _ (fun h => by cases htt.2 h.1) E0 E1 E7 E43 E44 rfl)
    | true =>
      refine gc_tt (gc_tt (gc_tt (w_nilc (gc_tt (w_offP (gc_tt (w_rdP g3 (v := .slice wa c.w.length wc) rfl (gc_tt (w_lenSl (gc_tt (w_lss (pk_t ?_))))))))))))
      by_cases q2 : ((j : Nat) : Int) < ((c.w.length : Nat) : Int)
      · obtain ⟨y, hy⟩ := getElem?_of_lt (l := c.w) (i := j) (by omega)
        refine g_tt q2 (g_tt q2 (w_nilc (g_tt q2 (w_offP (g_tt q2 (w_rdP g3 (v := .slice wa c.w.length wc) rfl (g_tt q2 (g_tt q2 ?_))))))))
        refine w_idxN (enc := eI) eI_len sw3 hy fun pp hpp => ?_
        refine g_tt q2 ?_
        refine w_rd1 hpp (x := .int .i64 y) rfl ?_
        refine g_tt q2 (g_tt q2 (w_mul (by omega) (by omega) (g_tt q2 (w_add (by omega) (by omega) (g_tt q2 (w_eql (pk_tt q2 ?_)))))))
        refine c_dec (fun ey => ?_) (fun ey => ?_)
        · refine w_add (by omega) (by omega) ?_
          refine b3.st (j := j + 1) (by omega) fun h4 x4 l4 b4 => w_add (by omega) (by omega) ?_
          refine ih (c.w.length + 1 - (j + 1)) _ _ (by omega) ⟨j + 1, by omega, rfl, E0, E1, E7, E43, E44, rfl, x3.trans x4, b4.congr fun x => ?_⟩
          constructor
          · rintro (⟨h1, _⟩ | ⟨h1, k', h2, h3⟩)
            · exact ⟨j, Nat.lt_succ_self _, htt.1 rfl, by rw [hy, ey], h1⟩
            · exact ⟨k', by omega, h3⟩
          · rintro ⟨k', h1, h2, h3, h4⟩
            by_cases ek : k' = j
            · subst ek; exact .inl ⟨h4, rfl⟩
            · exact .inr ⟨by omega, k', by omega, h2, h3, h4⟩
        · refine w_add (by omega) (by omega) (next _ (fun h => ?_) E0 E1 E7 E43 E44 rfl)
          rw [hy] at h
          exact ey (Option.some.inj h.2)
      · refine g_tf q2 (g_tf q2 (g_tf q2 (g_tf q2 (g_tf q2 (g_tf q2 (g_tf q2 (g_tf q2 (g_tf q2 (g_tf q2 (g_tf q2 (pk_ff q2 (c_f ?_))))))))))))
        refine w_add (by omega) (by omega) (next _ (fun h => ?_) E0 E1 E7 E43 E44 rfl)
        rw [List.getElem?_eq_none (by omega)] at h
        cases h.2
  · refine k u2 h3 v h.length m3 ⟨Nat.le_trans (xx1.trans x2).len x3.len, fun y hy hyM => ?_⟩ (fun y hy => (s2 y hy).imp (fun h => h) fun h => by have := x1.len; omega) (Nat.le_refl _) nu2 (b3.congr fun x => ?_)
    · rw [x3.get y (Nat.lt_of_lt_of_le hy (xx1.trans x2).len) (by omega)]
      exact (xx1.trans x2).get y hy hyM
    · rw [hSt]
      constructor
      · rintro ⟨k', h1, h2⟩
        exact ⟨hz, k', h2⟩
      · rintro ⟨_, k', h2, h3⟩
        exact ⟨k', by have := get_lt h3.1; omega, h2, h3⟩
set_option maxHeartbeats 1000000 in
theorem any80 {c : Hc} (ok : HcOK c) {a : Nat} (ha : a ≤ c.w.length) (he : ∀ i, i < c.x.2.length → EC c i a) {u : Nat → Prop} {h : AH} {K : Value → AH → Prop} (m : MI c u h)
    (k : ∀ (u' : Nat → Prop) (h' : AH) (v : Value) (j : Nat), MI c u' h' → Exx c.M h h' → (∀ i, u' i → u i ∨ h.length ≤ i) → h.length ≤ j → ¬ u' j → BR h' j c.w.length v (Any (St c) a) → K v h') :
    callW Try.prog 80 [.pointer (some ⟨c.r, 0, none⟩), .int .i64 (a : Nat)] h K := by
  have hn := ok.n
  have hT := ok.T
  have hM := ok.M
  have hl := m.x.len
  obtain ⟨La, Lc, Lcs, hL, _⟩ := ok.ls
  refine c80 ?_
  unfold s80
  refine words81 ok m ha fun v i0 h1 x1 l0 l1 b => ?_
  have m1 := m.ext ok x1
  have g1 := m1.rdr ok
  have nu1 : ¬ u i0 := fun hu => by have := (m.ub _ hu).2; omega
  refine w_nilc (w_offP (w_offP (w_rdP g1 (v := c.L) rfl ?_)))
  rw [hL]
  refine w_lenSl ?_
  refine loopE_intro (fun mm E h2 => ∃ (j : Nat) (u1 : Nat → Prop), j ≤ c.x.2.length ∧ mm = c.x.2.length - j ∧ E 0 = .pointer (some ⟨c.r, 0, none⟩) ∧ E 1 = .int .i64 (a : Nat) ∧ E 5 = v ∧ E 15 = .int .i64 ((c.x.2.length : Nat) : Int) ∧ E 16 = .int .i64 (j : Nat) ∧
      MI c u1 h2 ∧ Exx c.M h h2 ∧ (∀ i, u1 i → u i ∨ h.length ≤ i) ∧ ¬ u1 i0 ∧ i0 < h2.length ∧ BR h2 i0 c.w.length v (fun x => (c.w[a]? = some (2 * (c.x.2.length : Int)) ∧ x = a + 1) ∨ ∃ i, i < j ∧ St c i a x)) c.x.2.length
    ⟨0, u, Nat.zero_le _, rfl, rfl, rfl, rfl, rfl, rfl, m1, (Exx.refl _ _).ex x1, fun i hi => .inl hi, nu1, l1, b.congr fun x => ⟨.inl, fun h => h.elim id fun ⟨i, h, _⟩ => by omega⟩⟩ ?_
  rintro I mm E h2 ⟨j, u1, hj, hmm, E0, E1, E5, E15, E16, m2, x2, s2, nu, l2, b2⟩ ih
  rw [E0, E1, E5, E15, E16]
  refine w_lss (c_dec (fun q => ?_) (fun q => ?_))
  · refine he j (by omega) u1 h2 _ m2 fun u3 h3 w i m3 x3 s3 hi nu3' b3 => ?_
    have nu3 : ¬ u3 i0 := fun hu => (s3 _ hu).elim nu fun hle => by omega
    refine join83 (b2.keep (x3.get _ b2.lt (by omega))) b3 (by omega) (by omega) fun h4 x4 l4 b4 => w_add (by omega) (by omega) ?_
    refine ih (c.x.2.length - (j + 1)) _ _ (by omega) ⟨j + 1, u3, by omega, rfl, E0, E1, E5, E15, rfl, m3.set ok (by omega) nu3 x4, ⟨Nat.le_trans (x2.trans x3).len x4.len, fun y hy hyM => ?_⟩, fun y hy => (s3 y hy).elim (s2 y) fun hle => .inr (Nat.le_trans x2.len hle), nu3, by rw [l4]; exact Nat.lt_of_lt_of_le l2 x3.len, b4.congr fun x => ?_⟩
    · rw [x4.get y (Nat.lt_of_lt_of_le hy (x2.trans x3).len) (by omega)]
      exact (x2.trans x3).get y hy hyM
    · constructor
      · rintro ((h | ⟨i, h1, h2⟩) | h)
        · exact .inl h
        · exact .inr ⟨i, by omega, h2⟩
        · exact .inr ⟨j, Nat.lt_succ_self _, h⟩
      · rintro (h | ⟨i, h1, h2⟩)
        · exact .inl (.inl h)
        · by_cases ei : i = j
          · subst ei; exact .inr h2
          · exact .inl (.inr ⟨i, by omega, h2⟩)
  · refine k u1 h2 v i0 m2 x2 s2 l0 nu (b2.congr fun x => ?_)
    constructor
    · rintro (⟨h1, rfl⟩ | ⟨i, _, h2⟩)
      · exact ⟨c.x.2.length, (Stw_iff _ _ _ _ _).2 (.inl ⟨rfl, h1, rfl⟩)⟩
      · exact ⟨i, h2⟩
    · rintro ⟨i, hi⟩
      rcases (Stw_iff _ _ _ _ _).1 hi with ⟨rfl, h1, h2⟩ | ⟨h0, _⟩
      · exact .inl ⟨h1, h2⟩
      · exact .inr ⟨i, by have : i < c.x.2.length := h0; omega, hi⟩
end Go.Proofs.Ytlenlhlipmkeeaa.W
end

section
/- Schema's laws: which words a schema has: what is known is looked up, and laid down. Conditions: none. -/
namespace Go.Proofs.Ytlenlhlipmkeeaa.W
open Go Go.AM SchM
set_option linter.unusedVariables false
set_option maxRecDepth 100000
mutual
theorem MH.fn {h : AH} {G G' : Nat → Prop} : ∀ (m m' : Mdl) (v : Value), MH h G m v → MH h G' m' v → m = m'
  | .mk k n l, .mk k' n' l', v, x, y => by
    unfold MH at x y
    obtain ⟨a, c, cs, rfl, sl, _, ml⟩ := x
    obtain ⟨a', c', cs', e, sl', _, ml'⟩ := y
    simp only [Value.agg.injEq, Array.mk.injEq, List.cons.injEq, Value.int.injEq, Value.string.injEq, Value.slice.injEq, bs_inj, and_true, true_and] at e
    obtain ⟨rfl, rfl, rfl, hl, rfl⟩ := e
    have hcs : cs = cs' := by
      obtain ⟨h1, h2⟩ := sl
      obtain ⟨h3, h4⟩ := sl'
      rw [← hl] at h3 h4
      by_cases h0 : l.length = 0
      · rw [List.eq_nil_of_length_eq_zero (by omega : cs.length = 0), List.eq_nil_of_length_eq_zero (by omega : cs'.length = 0)]
      · rcases h2 with ⟨_, h2⟩ | ⟨id, off, cap, e1, _, h2⟩
        · exact absurd h2 h0
        · rcases h4 with ⟨_, h4⟩ | ⟨id', off', cap', e2, _, h4⟩
          · exact absurd h4 h0
          · rw [e1] at e2
            simp only [Value.slice.injEq, Option.some.injEq, Addr.mk.injEq, and_true, true_and] at e2
            obtain ⟨⟨rfl, rfl⟩, rfl⟩ := e2
            rcases h2 with h2 | ⟨cc, w, g, _, t⟩
            · exact absurd h2 h0
            · rcases h4 with h4 | ⟨cc', w', g', _, t'⟩
              · exact absurd h4 h0
              · rw [g] at g'
                cases g'
                rw [← t, ← t']
    subst hcs
    rw [ML.fn l l' cs hl ml ml']
theorem ML.fn {h : AH} {G G' : Nat → Prop} : ∀ (l l' : List Mdl) (cs : List Value), l.length = l'.length → ML h G l cs → ML h G' l' cs → l = l'
  | [], [], cs, _, _, _ => rfl
  | [], _ :: _, cs, hl, _, _ => by simp at hl
  | _ :: _, [], cs, hl, _, _ => by simp at hl
  | m :: l, m' :: l', cs, hl, x, y => by
    unfold ML at x y
    obtain ⟨a1, a2, a3, r, rfl, m1, l1⟩ := x
    obtain ⟨b1, b2, b3, r', e, m2, l2⟩ := y
    simp only [List.cons.injEq] at e
    obtain ⟨rfl, rfl, rfl, rfl⟩ := e
    rw [MH.fn m m' _ m1 m2, ML.fn l l' r (by simpa using hl) l1 l2]
end
theorem PM.fn {c : Hc} {p o : Nat} {m m' : Mdl} (x : PM c p o m) (y : PM c p o m') : m = m' := by
  obtain ⟨cc, g, _, _, h1⟩ := x
  obtain ⟨cc', g', _, _, h2⟩ := y
  rw [g] at g'
  cases g'
  exact MH.fn _ _ _ h1 h2
theorem findP_spec {look : Nat → Option AObj} {q : Nat × Nat × Int} : ∀ (es : List Go.AM.Ent) (i : Nat), (∀ e ∈ es, ∃ q', keyP e.1 = some q' ∧ lwO (look q'.1) = true) →
    findP look q es i = some none ∨ ∃ j e, es[j]? = some e ∧ keyP e.1 = some q ∧ findP look q es i = some (some (i + j, e.2.1))
  | [], i, _ => .inl rfl
  | e :: es, i, he => by
    obtain ⟨q', h1, h2⟩ := he e (List.mem_cons_self ..)
    unfold findP
    rw [h1]
    dsimp only
    rw [h2]
    dsimp only
    cases h3 : eq3 q q' with
    | true =>
      rw [eq3_iff] at h3
      subst h3
      exact .inr ⟨0, e, rfl, h1, rfl⟩
    | false =>
      rcases findP_spec es (i + 1) (fun e he' => he e (List.mem_cons_of_mem _ he')) with h | ⟨j, e', h4, h5, h6⟩
      · exact .inl h
      · exact .inr ⟨j + 1, e', h4, h5, by rw [h6, Nat.add_assoc, Nat.add_comm 1 j]⟩
theorem mapT91 : ptrKeyT Try.prog 91 = true ∧ Try.prog.underlying 91 = some (.map 119 52) ∧ zeroV Try.prog 52 = some (.slice none 0 0) := by
  refine ⟨?_, ?_, ?_⟩ <;> kernel_rfl
section
variable {c : Hc} {u : Nat → Prop} {h : AH} {p o a : Nat} {md : Mdl}
theorem PM.lw (m : MI c u h) (pm : PM c p o md) : lwO h[p]? = true := by
  obtain ⟨cc, g, hp, _⟩ := pm
  rw [m.x.some g hp]
  rfl
theorem ents_ok (m : MI c u h) {es : List Go.AM.Ent} (he : ∀ e ∈ es, Ent c u h e) : ∀ e ∈ es, ∃ q', keyP e.1 = some q' ∧ lwO (h[q'.1]?) = true := by
  intro e hm
  obtain ⟨p, o, a, md, i, h1, h2, _⟩ := he e hm
  exact ⟨(p, o, (a : Int)), by rw [h1]; rfl, PM.lw m h2⟩
theorem Ent.of {e : Go.AM.Ent} (h1 : Ent c u h e) (h2 : keyP e.1 = some (p, o, ((a : Nat) : Int))) (pm : PM c p o md) : ∃ i, u i ∧ BR h i c.w.length e.2.1 (Rw c md a) := by
  obtain ⟨p', o', a', md', i, g1, g2, g3, g4, g5⟩ := h1
  rw [g1] at h2
  have h2 : some (p', o', ((a' : Nat) : Int)) = some (p, o, ((a : Nat) : Int)) := h2
  simp only [Option.some.injEq, Prod.mk.injEq] at h2
  obtain ⟨rfl, rfl, h2⟩ := h2
  have h2 : a' = a := by omega
  subst h2
  rw [PM.fn pm g2]
  exact ⟨i, g4, g5⟩
theorem look91 (m : MI c u h) (pm : PM c p o md) {K : Value → Prop} (hit : ∀ v i, u i → BR h i c.w.length v (Rw c md a) → K (.tuple #[v, .bool true])) (miss : ∀ z, K (.tuple #[z, .bool false])) :
    optW (pLook Try.prog 91 (.map (some c.M)) (.agg #[.pointer (some ⟨p, o, none⟩), .int .i64 (a : Nat)]) true h) K := by
  obtain ⟨es, ck, g, he⟩ := m.map
  unfold pLook
  rw [mapT91.1]
  dsimp only
  unfold pLookupP
  rw [mapT91.2.1]
  have hk : keyP (.agg #[.pointer (some ⟨p, o, none⟩), .int .i64 ((a : Nat) : Int)]) = some (p, o, ((a : Nat) : Int)) := rfl
  have hg : entsG (.map (some c.M)) (fun i => h[i]?) = some es := by
    show (match h[c.M]? with | some (.map es _) => some es | _ => none) = _
    rw [g]
  rw [hk, hg]
  dsimp only
  rw [mapT91.2.2, PM.lw m pm]
  dsimp only
  rcases findP_spec (look := fun i => h[i]?) (q := (p, o, ((a : Nat) : Int))) es 0 (ents_ok m he) with h1 | ⟨j, e, h1, h2, h3⟩
  · rw [h1]
    exact miss _
  · rw [h3]
    obtain ⟨i, h4, h5⟩ := Ent.of (he e (List.mem_of_getElem? h1)) h2 pm
    exact hit _ i h4 h5
theorem upd91 (ok : HcOK c) (m : MI c u h) (pm : PM c p o md) (ha : a ≤ c.w.length) {v : Value} {i : Nat} (hi : c.h0.length ≤ i) (b : BR h i c.w.length v (Rw c md a)) {K : AH → Prop}
    (k : ∀ h', Exx c.M h h' → h'.length = h.length → MI c (fun j => u j ∨ j = i) h' → BR h' i c.w.length v (Rw c md a) → K h') :
    optW (pMapU Try.prog 91 (.map (some c.M)) (.agg #[.pointer (some ⟨p, o, none⟩), .int .i64 (a : Nat)]) v h) K := by
  obtain ⟨es, ck, g, he⟩ := m.map
  have hM := ok.M
  have hl := m.x.len
  have hk : keyP (.agg #[.pointer (some ⟨p, o, none⟩), .int .i64 ((a : Nat) : Int)]) = some (p, o, ((a : Nat) : Int)) := rfl
  have fin : ∀ (es' : List Go.AM.Ent) (ck' : Nat), (∀ e ∈ es', e ∈ es ∨ (keyP e.1 = some (p, o, ((a : Nat) : Int)) ∧ (∃ e0 ∈ es, e.1 = e0.1) ∧ e.2.1 = v) ∨ (e.1 = .agg #[.pointer (some ⟨p, o, none⟩), .int .i64 ((a : Nat) : Int)] ∧ e.2.1 = v)) → K (h.set c.M (.map es' ck')) := by
    intro es' ck' hes
    have x' : Exx c.M h (h.set c.M (.map es' ck')) := ⟨by simp, fun j hj hji => get_ne (Ne.symm hji) _⟩
    have l' : (h.set c.M (.map es' ck')).length = h.length := by simp
    have gM : (h.set c.M (.map es' ck'))[c.M]? = some (.map es' ck') := get_set _ (by omega) _
    generalize h.set c.M (.map es' ck') = h' at *
    have b' := b.keep (x'.get i b.lt (by omega))
    refine k h' x' l' ⟨m.x.trans x', ⟨es', ck', gM, fun e hm => ?_⟩, fun j hj => ?_⟩ b'
    · rcases hes e hm with h1 | ⟨h1, ⟨e0, h2, h3⟩, h4⟩ | ⟨h1, h4⟩
      · obtain ⟨p', o', a', md', i', g1, g2, g3, g4, g5⟩ := he e h1
        exact ⟨p', o', a', md', i', g1, g2, g3, .inl g4, g5.keep (x'.get i' g5.lt (fun e => by have := (m.ub i' g4).1; omega))⟩
      · obtain ⟨p', o', a', md', i', g1, g2, g3, g4, g5⟩ := he e0 h2
        rw [← h3] at g1
        rw [g1] at h1
        have h1 : some (p', o', ((a' : Nat) : Int)) = some (p, o, ((a : Nat) : Int)) := h1
        simp only [Option.some.injEq, Prod.mk.injEq] at h1
        obtain ⟨rfl, rfl, h1⟩ := h1
        have h1 : a' = a := by omega
        subst h1
        exact ⟨p', o', a', md, i, g1, pm, ha, .inr rfl, by rw [h4]; exact b'⟩
      · exact ⟨p, o, a, md, i, h1, pm, ha, .inr rfl, by rw [h4]; exact b'⟩
    · rcases hj with hj | rfl
      · have := m.ub j hj; omega
      · have := b.lt; omega
  unfold pMapU
  rw [mapT91.1]
  dsimp only
  have hu : ∀ {x : Nat × AObj}, pMapUpdP Try.prog 91 (.map (some c.M)) (.agg #[.pointer (some ⟨p, o, none⟩), .int .i64 ((a : Nat) : Int)]) v (fun i => h[i]?) = some x → K (h.set x.1 x.2) → optW ((pMapUpdP Try.prog 91 (.map (some c.M)) (.agg #[.pointer (some ⟨p, o, none⟩), .int .i64 ((a : Nat) : Int)]) v (fun i => h[i]?)).map fun u => h.set u.1 u.2) K := by
    intro x hx hK
    rw [hx]
    exact hK
  have hpu : pMapUpdP Try.prog 91 (.map (some c.M)) (.agg #[.pointer (some ⟨p, o, none⟩), .int .i64 ((a : Nat) : Int)]) v (fun i => h[i]?) = match findP (fun i => h[i]?) (p, o, ((a : Nat) : Int)) es 0 with
      | some (some (i, _)) => some (c.M, .map (es.modify i fun e => (e.1, v, e.2.2)) ck)
      | some none => some (c.M, .map (es ++ [(.agg #[.pointer (some ⟨p, o, none⟩), .int .i64 ((a : Nat) : Int)], v, ck)]) (ck + 1))
      | none => none := by
    unfold pMapUpdP
    rw [mapT91.2.1, hk]
    dsimp only
    rw [g, PM.lw m pm]
    rfl
  rcases findP_spec (look := fun i => h[i]?) (q := (p, o, ((a : Nat) : Int))) es 0 (ents_ok m he) with h1 | ⟨j, e, h1, h2, h3⟩
  · rw [h1] at hpu
    refine hu hpu (fin _ _ fun e hm => ?_)
    rcases List.mem_append.1 hm with hm | hm
    · exact .inl hm
    · rw [List.mem_singleton] at hm
      subst hm
      exact .inr (.inr ⟨rfl, rfl⟩)
  · rw [h3] at hpu
    refine hu hpu (fin _ _ fun e' hm => ?_)
    obtain ⟨y, hy⟩ := List.mem_iff_getElem?.1 hm
    rw [Nat.zero_add, List.getElem?_modify] at hy
    by_cases ej : j = y
    · subst ej
      rw [h1] at hy
      simp at hy
      subst hy
      exact .inr (.inl ⟨h2, ⟨e, List.mem_of_getElem? h1, rfl⟩, rfl⟩)
    · refine .inl (List.mem_of_getElem? (i := y) ?_)
      cases hz : es[y]? with
      | none => rw [hz] at hy; cases hy
      | some z =>
        rw [hz] at hy
        simpa [ej] using hy
end
end Go.Proofs.Ytlenlhlipmkeeaa.W
end

section
/- Schema's laws: the document's reader: its words. Conditions: none. -/
namespace Go.Proofs.Ytlenlhlipmkeeaa.W
open Go Go.AM SchM
set_option linter.unusedVariables false
set_option maxRecDepth 100000
def rrow (s : W) (P e a D : Int) : List Value := [.string (bs s), .int .i64 P, .int .i64 e, .int .i64 a, .int .i64 D]
end Go.Proofs.Ytlenlhlipmkeeaa.W
end

section
/- Schema's laws: the document's reader: signs are taken. Conditions: none. -/
namespace Go.Proofs.Ytlenlhlipmkeeaa.W
open Go Go.AM SchM
set_option linter.unusedVariables false
set_option maxRecDepth 100000
structure RO (h : AH) (X : Nat) (s : W) (P D : Nat) : Prop where
  g : h[X]? = some (.row (rrow s P 0 0 D) true)
  p : P ≤ s.length
structure RE (h : AH) (X : Nat) (s : W) (D : Nat) (e : Int) (a : Nat) : Prop where
  g : ∃ P : Nat, h[X]? = some (.row (rrow s P e a D) true) ∧ P ≤ s.length
  e : e ≠ 0
theorem RO.ex {h h' : AH} {X : Nat} {s : W} {P D : Nat} (r : RO h X s P D) (x : Ex h h') : RO h' X s P D := ⟨x.some r.g, r.p⟩
theorem RE.ex {h h' : AH} {X : Nat} {s : W} {D : Nat} {e : Int} {a : Nat} (r : RE h X s D e a) (x : Ex h h') : RE h' X s D e a := by
  obtain ⟨P, g, hP⟩ := r.g
  exact ⟨⟨P, x.some g, hP⟩, r.e⟩
def Tk (w : W) (x : W × UInt8) : Prop := (x = (w, 0) ∧ 2 ≤ w.length ∧ w ≠ noneAt) ∨ ∃ c, w = [c] ∧ x = ([], c) ∧ low c = false ∧ c ≠ 0
section
variable {h : AH} {X P D : Nat} {s : W} {K : Value → AH → Prop}
end
end Go.Proofs.Ytlenlhlipmkeeaa.W
end

section
/- Schema's laws: the document's reader: rows of models. Conditions: none. -/
namespace Go.Proofs.Ytlenlhlipmkeeaa.W
open Go Go.AM SchM
set_option linter.unusedVariables false
set_option maxRecDepth 100000
end Go.Proofs.Ytlenlhlipmkeeaa.W
end

section
/- Schema's laws: the document's reader: models. Conditions: none. -/
namespace Go.Proofs.Ytlenlhlipmkeeaa.W
open Go Go.AM SchM
set_option linter.unusedVariables false
set_option maxRecDepth 100000
end Go.Proofs.Ytlenlhlipmkeeaa.W
end

section
/- Schema's laws: the document's reader: models, all of them. Conditions: none. -/
namespace Go.Proofs.Ytlenlhlipmkeeaa.W
open Go Go.AM SchM
set_option linter.unusedVariables false
set_option maxRecDepth 100000
end Go.Proofs.Ytlenlhlipmkeeaa.W
end

section
/- Schema's laws: the document's reader: elements. Conditions: none. -/
namespace Go.Proofs.Ytlenlhlipmkeeaa.W
open Go Go.AM SchM
set_option linter.unusedVariables false
set_option maxRecDepth 100000
theorem tkE : Tk wElement (wElement, 0) := .inl ⟨rfl, by decide, by decide⟩
end Go.Proofs.Ytlenlhlipmkeeaa.W
end

section
/- Schema's laws: the program's Parse: how a schema is read. Conditions: none. -/
namespace Go.Proofs.Ytlenlhlipmkeeaa.W
open Go Go.AM SchM
set_option linter.unusedVariables false
set_option maxRecDepth 100000
def ER (h4 : AH) (T X O : Nat) (s : W) (h : AH) : Prop := ∃ F er a w vl, PE h X F s 0 er a ∧ (∀ j, F j → j < h.length) ∧ BS h4 T X O h F w vl ∧ parse s = .bad er a
theorem ER.ex {h4 h h' : AH} {T X O : Nat} {s : W} (r : ER h4 T X O s h) (x : Ex h h') : ER h4 T X O s h' := by
  obtain ⟨F, er, a, w, vl, r, fb, b, hp⟩ := r
  exact ⟨F, er, a, w, vl, r.ex x, fun j hj => x.lt (fb j hj), b.ex x, hp⟩
end Go.Proofs.Ytlenlhlipmkeeaa.W
end

section
/- Schema's laws: the document's Parse: names. Conditions: none. -/
namespace Go.Proofs.Ytlenlhlipmkeeaa.W
open Go Go.AM SchM
set_option linter.unusedVariables false
set_option maxRecDepth 100000
theorem ML.get {h : AH} {G : Nat → Prop} : ∀ (l : List Mdl) (cs : List Value), ML h G l cs → ∀ i m, l[i]? = some m → ∃ x y z, (cs.drop (i * 3)).take 3 = [x, y, z] ∧ MH h G m (.agg #[x, y, z])
  | [], cs, _ => fun i m hi => by simp at hi
  | f :: l, cs, hx => fun i m hi => by
    unfold ML at hx
    obtain ⟨x, y, z, rest, e1, mm, r⟩ := hx
    subst e1
    cases i with
    | zero => cases hi; exact ⟨x, y, z, rfl, mm⟩
    | succ i =>
      obtain ⟨x', y', z', h1, h2⟩ := ML.get l rest r i m hi
      refine ⟨x', y', z', ?_, h2⟩
      have e2 : (i + 1) * 3 = i * 3 + 3 := by omega
      rw [e2]
      exact h1
end Go.Proofs.Ytlenlhlipmkeeaa.W
end

section
/- Schema's laws: which words a schema has: models' parts, their ways. Conditions: none. -/
namespace SchM
variable {fd : W → Int} {T : Nat} {S : Stp}
theorem MSeq_snoc : ∀ (l : List Mdl) (m : Mdl) (i j : Nat), MSeq fd T S (l ++ [m]) i j ↔ ∃ k, MSeq fd T S l i k ∧ MR fd T S m k j
  | [], m, i, j => by
    show MSeq fd T S [m] i j ↔ _
    unfold MSeq MSeq
    constructor
    · rintro ⟨k, h, rfl⟩
      exact ⟨i, rfl, h⟩
    · rintro ⟨k, rfl, h⟩
      exact ⟨j, h, rfl⟩
  | a :: l, m, i, j => by
    show MSeq fd T S (a :: (l ++ [m])) i j ↔ _
    unfold MSeq
    constructor
    · rintro ⟨k, h1, h2⟩
      obtain ⟨k', h3, h4⟩ := (MSeq_snoc l m k j).1 h2
      exact ⟨k', ⟨k, h1, h3⟩, h4⟩
    · rintro ⟨k', ⟨k, h1, h3⟩, h4⟩
      exact ⟨k, h1, (MSeq_snoc l m k j).2 ⟨k', h3, h4⟩⟩
theorem MOr_snoc : ∀ (l : List Mdl) (m : Mdl) (i j : Nat), MOr fd T S (l ++ [m]) i j ↔ MOr fd T S l i j ∨ MR fd T S m i j
  | [], m, i, j => by
    show MOr fd T S [m] i j ↔ _
    unfold MOr MOr
    constructor
    · rintro (h | h)
      · exact .inr h
      · exact h.elim
    · rintro (h | h)
      · exact h.elim
      · exact .inl h
  | a :: l, m, i, j => by
    show MOr fd T S (a :: (l ++ [m])) i j ↔ _
    unfold MOr
    rw [MOr_snoc l m i j, or_assoc]
theorem Any_le {s : Sc} {w : List Int} : ∀ a b, Any (Stw s w) a b → a ≤ b := fun a b ⟨c, hc⟩ => Nat.le_of_lt (Stw_lt hc).1
theorem MR_le {s : Sc} {w : List Int} {m : Mdl} {a b : Nat} (h : MR s.fd s.T (Stw s w) m a b) : a ≤ b := (MR_any m h).le Any_le
theorem MSeq_le {s : Sc} {w : List Int} {l : List Mdl} {a b : Nat} (h : MSeq s.fd s.T (Stw s w) l a b) : a ≤ b := (MSeq_any l h).le Any_le
end SchM
namespace Go.Proofs.Ytlenlhlipmkeeaa.W
open Go Go.AM SchM
set_option linter.unusedVariables false
set_option maxRecDepth 100000
theorem fd_iff {x : W × List (W × Mdl)} (nd : (x.2.map (·.1)).Nodup) (n : W) (c : Nat) : (scOf x).fd n = (c : Int) ↔ ∃ e, x.2[c]? = some e ∧ e.1 = n := by
  show (x.2.findIdx? (fun e => decide (e.1 = n))).elim (-1) (fun i => (i : Int)) = (c : Int) ↔ _
  cases hf : x.2.findIdx? (fun e => decide (e.1 = n)) with
  | none =>
    rw [List.findIdx?_eq_none_iff] at hf
    constructor
    · intro h
      have h : (-1 : Int) = (c : Int) := h
      omega
    · rintro ⟨e, h1, h2⟩
      have := hf e (List.mem_of_getElem? h1)
      simp [h2] at this
  | some i =>
    rw [List.findIdx?_eq_some_iff_getElem] at hf
    obtain ⟨hi, h1, h2⟩ := hf
    have h1 : (x.2[i]).1 = n := of_decide_eq_true h1
    constructor
    · intro h
      have h : (i : Int) = (c : Int) := h
      have : i = c := by omega
      subst this
      exact ⟨_, List.getElem?_eq_getElem hi, h1⟩
    · rintro ⟨e, h3, h4⟩
      show (i : Int) = (c : Int)
      have hc := get_lt h3
      have e1 : (x.2.map (·.1))[i]? = (x.2.map (·.1))[c]? := by
        rw [List.getElem?_map, List.getElem?_map, List.getElem?_eq_getElem hi, h3]
        simp [h1, h4]
      have := (List.getElem?_inj (by simpa using hi) nd).1 e1
      omega
section
variable {c : Hc}
theorem PM.sub {p o : Nat} {k : Int} {n : W} {l : List Mdl} (pm : PM c p o (.mk k n l)) : ∃ cc a cp, c.h0[p]? = some (.row cc true) ∧ p ≠ c.M ∧ o + 3 ≤ cc.length ∧ cc[o]? = some (.int .i64 k) ∧ cc[o + 1]? = some (.string (bs n)) ∧ cc[o + 2]? = some (.slice a l.length cp) ∧
    ∀ i m, l[i]? = some m → ∃ id off cap, Value.slice a l.length cp = .slice (some ⟨id, off, none⟩) l.length cap ∧ PM c id (off + i * 3) m := by
  obtain ⟨cc, g, hp, hle, mh⟩ := pm
  unfold MH at mh
  obtain ⟨a, cp, cs, e, sl, hG, ml⟩ := mh
  simp only [Value.agg.injEq, Array.mk.injEq] at e
  have at_ : ∀ j, j < 3 → cc[o + j]? = ([Value.int .i64 k, .string (bs n), .slice a l.length cp])[j]? := by
    intro j hj
    rw [← e, List.getElem?_take_of_lt hj, List.getElem?_drop]
  refine ⟨cc, a, cp, g, hp, hle, at_ 0 (by decide), at_ 1 (by decide), at_ 2 (by decide), fun i m hi => ?_⟩
  have hlt := get_lt hi
  obtain ⟨h1, ⟨_, h2⟩ | ⟨id, off, cap, h2, h3, h4⟩⟩ := sl
  · omega
  · rcases h4 with h4 | ⟨c2, w, g2, hle2, ht⟩
    · omega
    · have Gi := hG id (by rw [h2]; rfl)
      obtain ⟨c3, g3⟩ := Gi.2.2
      rw [g2] at g3
      cases g3
      obtain ⟨x, y, z, e1, mh⟩ := ML.get _ _ ml i m hi
      have e2 : (c2.drop (off + i * 3)).take 3 = [x, y, z] := by
        rw [← e1, ← ht, List.drop_take, List.drop_drop, List.take_take]
        congr 1
        omega
      exact ⟨id, off, cap, h2, c2, g2, Gi.1, by omega, by rw [e2]; exact mh⟩
theorem way80 (ok : HcOK c) {hb : AH} {lo : Nat} (he : ∀ k, lo ≤ k → k ≤ c.w.length → ∀ i, i < c.x.2.length → EC c i k) : WayOK c hb (.func (.func 80) #[.pointer (some ⟨c.r, 0, none⟩)] #[]) lo (Any (St c)) := by
  intro u h k K m x h1 h2 hk
  show callW Try.prog 80 [.pointer (some ⟨c.r, 0, none⟩), .int .i64 (k : Nat)] h K
  exact any80 ok h2 (he k h1 h2) m fun u' h' v j m' x' s' hj nu b => hk u' h' v j m' x' s' (.inr hj) b
theorem way78 {hb : AH} {lo b3 b2 p o : Nat} {md : Mdl} (g3 : hb[b3]? = some (.row [.pointer (some ⟨c.r, 0, none⟩)] true)) (g2 : hb[b2]? = some (.row [.pointer (some ⟨p, o, none⟩)] true)) (n3 : b3 ≠ c.M) (n2 : b2 ≠ c.M) (pm : PM c p o md)
    (hm : ∀ k, lo ≤ k → k ≤ c.w.length → MC c md k) : WayOK c hb (.func (.func 78) #[] #[.pointer (some ⟨b3, 0, none⟩), .pointer (some ⟨b2, 0, none⟩)]) lo (Rw c md) := by
  intro u h k K m x h1 h2 hk
  show callW Try.prog 78 [.int .i64 (k : Nat), .pointer (some ⟨b3, 0, none⟩), .pointer (some ⟨b2, 0, none⟩)] h K
  refine c78 ?_
  unfold s78
  refine w_rdP (x.some g3 n3) (v := .pointer (some ⟨c.r, 0, none⟩)) rfl ?_
  refine w_rdP (x.some g2 n2) (v := .pointer (some ⟨p, o, none⟩)) rfl ?_
  exact hm k h1 h2 u h p o _ m pm fun u' h' v i m' x' s' hu b => hk u' h' v i m' x' s' (.inl hu) b
theorem call77 {h : AH} {b3 p o : Nat} {K : Value → AH → Prop} (k : ∀ h', Ex h h' → h'.length = h.length + 1 → h'[h.length]? = some (.row [.pointer (some ⟨p, o, none⟩)] true) → K (.func (.func 78) #[] #[.pointer (some ⟨b3, 0, none⟩), .pointer (some ⟨h.length, 0, none⟩)]) h') :
    callV (callW Try.prog) (.func (.func 77) #[] #[.pointer (some ⟨b3, 0, none⟩)]) [.pointer (some ⟨p, o, none⟩)] h K := by
  show callW Try.prog 77 [.pointer (some ⟨p, o, none⟩), .pointer (some ⟨b3, 0, none⟩)] h K
  refine c77 ?_
  unfold s77
  exact n_boxv rfl fun h1 x1 l1 g1 => k h1 x1 l1 g1
end
end Go.Proofs.Ytlenlhlipmkeeaa.W
end

section
/- Schema's laws: the document's texts of models. Conditions: none. -/
namespace Go.Proofs.Ytlenlhlipmkeeaa.W
open Go Go.AM SchM
set_option linter.unusedVariables false
set_option maxRecDepth 100000
end Go.Proofs.Ytlenlhlipmkeeaa.W
end

section
/- Schema's laws: the document's text of a schema; schemas that are the same. Conditions: none. -/
namespace Go.Proofs.Ytlenlhlipmkeeaa.W
open Go Go.AM SchM
set_option linter.unusedVariables false
set_option maxRecDepth 100000
theorem nn {p : Prop} (h : p) : ¬ ¬ p := fun n => n h
end Go.Proofs.Ytlenlhlipmkeeaa.W
end

section
/- Schema's laws: schemas that are the same. Conditions: none. -/
namespace Go.Proofs.Ytlenlhlipmkeeaa.W
open Go Go.AM SchM
set_option linter.unusedVariables false
set_option maxRecDepth 100000
def SM (h : AH) (x : W × List (W × Mdl)) (v : Value) : Prop :=
  ∃ a c cs, v = .agg #[.string (bs x.1), .slice a x.2.length c] ∧ Sl 4 h (.slice a x.2.length c) x.2.length cs ∧ EL h (fun j => j < h.length) x.2 cs
theorem SM.ex {h h' : AH} {x : W × List (W × Mdl)} {v : Value} (s : SM h x v) (e : Ex h h') : SM h' x v := by
  obtain ⟨a, c, cs, ev, sl, el⟩ := s
  exact ⟨a, c, cs, ev, sl.ex e, EL.mono (fun j hj => ⟨e.get j hj, e.lt hj⟩) _ _ el⟩
theorem SH.sm {h : AH} {b : Nat} {x : W × List (W × Mdl)} {v : Value} (s : SH h b x v) : SM h x v := by
  obtain ⟨a, c, cs, ev, sl, on, el⟩ := s
  exact ⟨a, c, cs, ev, sl, EL.mono (fun j hj => ⟨rfl, hj.1.2⟩) _ _ el⟩
theorem SM.nil (h : AH) : SM h ([], []) (.agg #[.string (bs []), .slice none 0 0]) := ⟨none, 0, [], rfl, ⟨rfl, .inl ⟨rfl, rfl⟩⟩, rfl⟩
end Go.Proofs.Ytlenlhlipmkeeaa.W
end

section
/- Schema's laws: words for the document's fits. Conditions: none. -/
namespace Go.Proofs.Ytlenlhlipmkeeaa.W
open Go Go.AM SchM
set_option linter.unusedVariables false
set_option maxRecDepth 100000
theorem gd_un {b : Bool} {f : (Value → AH → HT → ST → Prop) → Prop} {h : AH} {H : HT} {S : ST} {K : Value → AH → HT → ST → Prop} (k : K undef h H S) : gopD (gB undef b) f h H S K := k
theorem SM.nm {h : AH} {x : W × List (W × Mdl)} {root : W} {a : Option Addr} {n c : Nat} (s : SM h x (.agg #[.string (bs root), .slice a n c])) : root = x.1 ∧ n = x.2.length ∧ Nm h (.slice a n c) (x.2.map (·.1)) := by
  obtain ⟨a', c', cs, e, sl, el⟩ := s
  simp only [Value.agg.injEq, Array.mk.injEq, List.cons.injEq, Value.string.injEq, Value.slice.injEq, bs_inj, and_true] at e
  obtain ⟨rfl, rfl, rfl, rfl⟩ := e
  refine ⟨rfl, rfl, ⟨cs, by rw [List.length_map]; exact sl, fun i w hw => ?_⟩⟩
  rw [List.getElem?_map] at hw
  cases hl : x.2[i]? with
  | none => rw [hl] at hw; cases hw
  | some e =>
    rw [hl] at hw
    cases hw
    obtain ⟨k, n, a, ll, c, h1, _⟩ := EL.get x.2 cs el i e hl
    exact ⟨k, n, a, ll, c, h1⟩
theorem find44x {h : AH} {x : W × List (W × Mdl)} {v : Value} {nm : W} {K : Value → AH → Prop} (s : SM h x v) (hn : x.2.length ≤ 100000000000) (k : ∀ h', Ex h h' → K (.int .i64 ((scOf x).fd nm)) h') : callW Try.prog 44 [v, .string (bs nm)] h K := by
  obtain ⟨a, c, cs, rfl, _, _⟩ := id s
  obtain ⟨_, _, nmx⟩ := s.nm
  obtain ⟨cs, sl, hc⟩ := nmx.ex
  rw [List.length_map] at sl
  refine c44 ?_
  unfold s44
  refine n_boxv rfl fun h1 x1 l1 g1 => ?_
  have g1' : h1[h.length]? = some (.row [.string (bs x.1), .slice a x.2.length c] true) := g1
  refine loopE_intro (fun m e h' => ∃ j : Nat, j ≤ x.2.length ∧ m = x.2.length - j ∧ e 1 = .string (bs nm) ∧ e 2 = .pointer (some ⟨h.length, 0, none⟩) ∧ e 5 = .int .i64 (j : Nat) ∧ h' = h1 ∧ ∀ i e', i < j → x.2[i]? = some e' → e'.1 ≠ nm) x.2.length
    ⟨0, Nat.zero_le _, rfl, rfl, rfl, rfl, rfl, fun i e' h => by omega⟩ ?_
  rintro I m e h2 ⟨j, hj, hm, e1, e2, e5, rfl, hni⟩ ih
  rw [e1, e2, e5]
  refine w_offP (w_rdP g1' (v := .slice a x.2.length c) rfl (w_lenSl (w_lss (c_dec (fun q => ?_) (fun q => ?_)))))
  · obtain ⟨w, hw⟩ := getElem?_of_lt (l := x.2) (i := j) (by omega)
    obtain ⟨k', nn, a', ll, c, ec⟩ := hc j w.1 (by rw [List.getElem?_map, hw]; rfl)
    refine w_offP (w_rdP g1' (v := .slice a x.2.length _) rfl (w_idx (sl.ex x1) (by omega) (by omega) fun p hp => ?_))
    rw [Int.toNat_natCast, ec] at hp
    refine w_off hp (Nat.zero_le _) fun p' hp' => w_rd1 hp' rfl (w_seql (c_dec (fun q2 => ?_) (fun q2 => ?_)))
    · have hf : x.2.findIdx? (fun e => decide (e.1 = nm)) = some j := by
        rw [List.findIdx?_eq_some_iff_getElem]
        have hjl := get_lt hw
        refine ⟨hjl, ?_, fun i hi => ?_⟩
        · rw [List.getElem?_eq_getElem hjl] at hw
          rw [Option.some.inj hw]
          exact decide_eq_true q2
        · have := hni i _ hi (List.getElem?_eq_getElem (by omega))
          simpa using this
      have e3 : (scOf x).fd nm = ((j : Nat) : Int) := by
        show (x.2.findIdx? (fun e => decide (e.1 = nm))).elim (-1) (fun i => (i : Int)) = _
        rw [hf]
        rfl
      rw [← e3]
      exact k h2 x1
    · refine w_add (by omega) (by omega) ?_
      refine ih (x.2.length - (j + 1)) _ _ (by omega) ⟨j + 1, by omega, rfl, e1, e2, rfl, rfl, fun i e' h1 h2 => ?_⟩
      by_cases ei : i = j
      · subst ei
        rw [hw] at h2
        cases h2
        exact q2
      · exact hni i e' (by omega) h2
  · have hf : x.2.findIdx? (fun e => decide (e.1 = nm)) = none := by
      rw [List.findIdx?_eq_none_iff]
      intro e' he'
      obtain ⟨i, hi⟩ := List.mem_iff_getElem?.1 he'
      have := hni i e' (by have := get_lt hi; omega) hi
      simpa using this
    have e3 : (scOf x).fd nm = -1 := by
      show (x.2.findIdx? (fun e => decide (e.1 = nm))).elim (-1) (fun i => (i : Int)) = _
      rw [hf]
      rfl
    rw [← e3]
    exact k h2 x1
theorem or_kind {b : Array Nat} {j : Nat} {t : Bool} {id : Nat} {kk cst : Int} {h : AH} {cc : List Value} {w : Bool} (g : h[id]? = some (.row cc w)) (hc : cc[0]? = some (.int .i64 kk)) {S : ST} {K : Value → Value → Value → Value → AH → HT → ST → Prop}
    (k : ∀ v1 v2 v3 S', (∀ i ∈ S'.map (·.1), i = j ∨ i ∈ S.map (·.1)) → K v1 v2 v3 (.bool (t || decide (kk = cst))) h [] S') :
    gopD (gB (.bool t) false) (fun k => optW (pOff 0 (.pointer (some ⟨id, 0, none⟩))) fun v => k v h [] S) h [] S fun v1 h1 H1 S1 =>
    gopD (gB (.bool t) false) (fun k => histC b j (ceOf 1 v1) H1 (optW (rdRow false 1 v1 h1) fun v => k v h1 H1 ((j, ceOf 1 v1) :: S1))) h1 H1 S1 fun v2 h2 H2 S2 =>
    gopD (gB (.bool t) false) (fun k => optW (pBin Try.prog .eql 3 v2 (.int .i64 cst)) fun v => k v h2 H2 S2) h2 H2 S2 fun v3 h3 H3 S3 =>
    optW (pPick (.bool t) (.bool true) v3) fun v4 => K v1 v2 v3 v4 h3 H3 S3 := by
  cases t with
  | true => exact gdc_ft (gdc_ft (gdc_ft (pk_t (k _ _ _ S fun i hi => .inr hi))))
  | false =>
    refine gdc_ff (w_offP (gdc_ff (hist_nil ?_)))
    refine w_rdP g (v := .int .i64 kk) hc ?_
    refine gdc_ff (w_eql (pk_f ?_))
    have := k (.pointer (some ⟨id, 0 + 0, none⟩)) (.int .i64 kk) (.bool (decide (kk = cst))) ((j, ceOf 1 (.pointer (some ⟨id, 0 + 0, none⟩))) :: S) (fun i hi => by
      rw [List.map_cons, List.mem_cons] at hi
      exact hi)
    rw [Bool.false_or] at this
    exact this
end Go.Proofs.Ytlenlhlipmkeeaa.W
end

section
/- Schema's laws: the document's fits: from which place to which a row of children is a model's. Conditions: none. -/
namespace Go.Proofs.Ytlenlhlipmkeeaa.W
open Go Go.AM SchM
set_option linter.unusedVariables false
set_option maxRecDepth 100000
abbrev Rr (x : W × List (W × Mdl)) (row : List Nat) (m : Mdl) : Nat → Nat → Prop := MR (scOf x).fd (scOf x).T (rowS row) m
theorem RTr_le {row : List Nat} {a b : Nat} (h : RT (Any (rowS row)) a b) : a ≤ row.length → b ≤ row.length := by
  induction h with
  | nil i => exact fun h => h
  | cons h1 _ ih => exact fun _ => ih (let ⟨c, hc⟩ := h1; (rowS_lt hc).2)
theorem Rr_in {x : W × List (W × Mdl)} {row : List Nat} {m : Mdl} {a b : Nat} (h : Rr x row m a b) (ha : a ≤ row.length) : b ≤ row.length := RTr_le (MR_any m h) ha
theorem Rr_mk {x : W × List (W × Mdl)} {row : List Nat} {k : Int} {n : W} {l : List Mdl} {i j : Nat} : Rr x row (.mk k n l) i j ↔ (k = 1 ∧ i = j) ∨ (k = 2 ∧ RT (Any (rowS row)) i j) ∨ (k = 3 ∧ rowS row (scOf x).T i j) ∨ (k = 4 ∧ ∃ c : Nat, (scOf x).fd n = c ∧ rowS row c i j) ∨ (k = 5 ∧ MSeq (scOf x).fd (scOf x).T (rowS row) l i j) ∨ (k = 6 ∧ MOr (scOf x).fd (scOf x).T (rowS row) l i j) ∨
      (k = 7 ∧ RT (MHd (scOf x).fd (scOf x).T (rowS row) l) i j) ∨ (k = 8 ∧ ∃ m, MHd (scOf x).fd (scOf x).T (rowS row) l i m ∧ RT (MHd (scOf x).fd (scOf x).T (rowS row) l) m j) ∨ (k = 9 ∧ (i = j ∨ MHd (scOf x).fd (scOf x).T (rowS row) l i j)) := by
  show MR _ _ _ (.mk k n l) i j ↔ _
  rw [MR]
theorem MHdr_one {x : W × List (W × Mdl)} {row : List Nat} {m : Mdl} : MHd (scOf x).fd (scOf x).T (rowS row) [m] = Rr x row m := by
  funext a b
  show MHd _ _ _ [m] a b = MR _ _ _ m a b
  rw [MHd]
def D0 (x : W × List (W × Mdl)) (row : List Nat) (kk : Int) (n : W) (i j : Nat) : Prop :=
  (j = i ∧ (kk = 1 ∨ kk = 7 ∨ kk = 9 ∨ kk = 5)) ∨ (i ≤ j ∧ j ≤ row.length ∧ kk = 2) ∨ (j = i + 1 ∧ ((kk = 3 ∧ row[i]? = some x.2.length) ∨ (kk = 4 ∧ ∃ c : Nat, row[i]? = some c ∧ (scOf x).fd n = c)))
set_option maxHeartbeats 8000000 in
theorem fits68 {x : W × List (W × Mdl)} {row : List Nat} (hT : x.2.length ≤ 100000000000) (hn : row.length ≤ 100000000000) : ∀ (N : Nat) (m : Mdl), sz m ≤ N → N ≤ 100000000000 → okM m = true → ∀ (h : AH) (sv mv rv : Value) (K : Value → AH → Prop), SM h x sv → MH h (fun j => j < h.length) m mv → SlT 1 eI h rv (row.map fun c : Nat => (c : Int)) →
    (∀ v h', Ex h h' → MT h' h.length row.length v (Rr x row m) → K v h') → callW Try.prog 68 [sv, mv, rv] h K
  | 0, m, hN, _, _, _, _, _, _, _, _, _, _, _ => by have := sz_pos m; omega
  | N + 1, .mk kk n l, hN, hN2, hok, h, sv, mv, rv, K, hs, hm, hr, k => by
    obtain ⟨okl, cases_⟩ := okM_cases hok
    have hszl : ∀ i m', l[i]? = some m' → sz m' ≤ N := fun i m' hi => by
      have := sz_get l i m' hi
      have h2 : sz (.mk kk n l) = 1 + szL l := rfl
      omega
    have hln : l.length ≤ 100000000000 := by
      have h1 := szL_len l
      have h2 : sz (.mk kk n l) = 1 + szL l := rfl
      omega
    obtain ⟨La, Lc, Lcs, rfl, Lsl, _⟩ := id hs
    unfold MH at hm
    obtain ⟨a, cp, cs, rfl, sl, _, ml⟩ := hm
    obtain ⟨ra, rc, hrv⟩ := hr.shape
    rw [List.length_map] at hrv
    subst hrv
    refine c68 ?_
    unfold s68
    refine n_boxv rfl fun h1 x1 l1 g1 => ?_
    refine n_boxv rfl fun h2 x2 l2 g2 => ?_
    have g1 : h2[h.length]? = some (.row [.string (bs x.1), .slice La x.2.length Lc] true) := x2.some g1
    have g2 : h2[h1.length]? = some (.row [.int .i64 kk, .string (bs n), .slice a l.length cp] true) := g2
    have e1 : ((row.length : Nat) : Int) + 1 = ((row.length + 1 : Nat) : Int) := by omega
    refine w_lenSl (w_add (by omega) (by omega) ?_)
    rw [e1]
    refine mkNil (by omega) fun vals hvl => ?_
    refine n_newv fun h3 x3 l3 g3 => ?_
    have X3 : Ex h h3 := x1.trans (x2.trans x3)
    have G1 := x3.some g1
    have G2 := x3.some g2
    refine loopE_intro (fun mm e h4 => ∃ y : Nat, y ≤ row.length + 1 ∧ mm = row.length + 1 - y ∧ e 2 = .slice ra row.length rc ∧ e 3 = .pointer (some ⟨h.length, 0, none⟩) ∧ e 4 = .pointer (some ⟨h1.length, 0, none⟩) ∧ e 7 = .int .i64 ((row.length : Nat) : Int) ∧ e 8 = .slice (some ⟨h2.length, 0, none⟩) (row.length + 1) (row.length + 1) ∧ e 9 = .int .i64 (y : Nat) ∧ Exx h2.length h3 h4 ∧
        UT h4 h2.length h2.length y row.length (D0 x row kk n)) (row.length + 1)
      ⟨0, Nat.zero_le _, rfl, rfl, rfl, rfl, rfl, rfl, rfl, .refl _ _, UT.start g3 hvl⟩ ?_
    rintro I mm e h4 ⟨y, hy, hmm, e2, e3, e4, e7, e8, e9, x4, t⟩ ih
    rw [e7, e9]
    refine w_leq (c_dec (fun q => ?_) (fun q => ?_))
    · refine w_add (by omega) (by omega) ?_
      rw [e1, e4, e8]
      refine t.row (by omega) (by omega) fun h5 x5 l5 cu => ?_
      have X5 : Exx h2.length h3 h5 := x4.trans x5
      have hl4 := x4.len
      have G25 := X5.some G2 (by omega)
      have G15 := X5.some G1 (by omega)
      refine cu.rdT (by omega) ?_
      refine w_offP (w_rdP G25 (v := .int .i64 kk) rfl (w_eql ?_))
      refine or_kind G25 rfl fun v1 v2 v3 S1 hS1 => ?_
      refine or_kind G25 rfl fun v4 v5 v6 S2 hS2 => ?_
      refine or_kind G25 rfl fun v7 v8 v9 S3 hS3 => ?_
      generalize hz : (((decide (kk = 1) || decide (kk = 7)) || decide (kk = 9)) || decide (kk = 5)) = z
      have hz' : z = true ↔ (kk = 1 ∨ kk = 7 ∨ kk = 9 ∨ kk = 5) := by
        rw [← hz]
        simp [or_assoc]
      have put : ∀ {h6 : AH} {Q : Nat → Prop} {j jj : Nat} {b : Array Nat} {zz : Bool} {S : ST} {H : HT} {K2 : Value → AH → Prop}, CU h6 h2.length h2.length y row.length (D0 x row kk n) h4.length (.slice (some ⟨h4.length, 0, none⟩) (row.length + 1) (row.length + 1)) Q → j ≤ row.length →
          (∀ t ∈ H, ∀ x ∈ obOf (.pointer (some ⟨h4.length, j, none⟩)), vw x t.2.1 = vw x t.2.2) → (S.map (·.1)).all (fun i => !(free b i jj && Nat.blt i jj)) = true → Exx h2.length h3 h6 → h4.length ≤ h6.length →
          (∀ h7, CU h7 h2.length h2.length y row.length (D0 x row kk n) h4.length (.slice (some ⟨h4.length, 0, none⟩) (row.length + 1) (row.length + 1)) (fun w => (w = j ∧ zz = true) ∨ (w ≠ j ∧ Q w)) → Exx h2.length h3 h7 → h6.length = h7.length → K2 (.pointer (some ⟨h4.length, j, none⟩)) h7) →
          optW (pIdxS 1 (.slice (some ⟨h4.length, 0, none⟩) (row.length + 1) (row.length + 1)) (.int .i64 (j : Nat))) fun v => histC b jj (obOf v) H (optW (pStore 1 v (.bool zz) h6) fun h' => readC b jj h6 h' S (K2 v h')) := by
        intro h6 Q j jj b zz S H K2 cu6 hj hH hS X6 hl6 k2
        obtain ⟨cap, bl, eb, hb2, hb3, hb4, hb5⟩ := cu6.b.ex
        have hlo := cu6.lo
        refine ix1 (by omega) (hist_all ?_ hH)
        refine w_stP hb3 (by rw [flat_length eBo_len]; omega) rfl rfl (read_dep hS ?_)
        have xx : Exx h4.length h6 (h6.set h4.length (.row ((flat eBo bl).set j (.bool zz)) true)) := ⟨by simp, fun y hy hyi => get_ne (Ne.symm hyi) _⟩
        refine k2 _ (cu6.keep xx ⟨cap, bl.set j zz, eb, hb2, by rw [get_set _ (lt_of_get hb3), flat_eBo_set], by simpa using hb4, fun w => ?_⟩) ⟨Nat.le_trans X6.len xx.len, fun w hw hwi => ?_⟩ (by simp)
        · by_cases e : j = w
          · subst e
            rw [List.getElem?_set_self (by omega)]
            simp
          · rw [List.getElem?_set_ne e, hb5 w]
            have : w ≠ j := fun h => e h.symm
            simp [this]
        · rw [xx.get w (Nat.lt_of_lt_of_le hw X6.len) (by omega)]
          exact X6.get w hw hwi
      refine put cu (by omega) (fun t ht => by cases ht) ?_ X5 (by omega) fun h6 cu6 X6 l6 => ?_
      · refine List.all_eq_true.2 fun i hi => ?_
        have : i = 20 ∨ i = 15 ∨ i = 10 ∨ i = 6 ∨ i = 3 := by
          rcases hS3 i hi with h | h
          · exact .inl h
          · rcases hS2 i h with h | h
            · exact .inr (.inl h)
            · rcases hS1 i h with h | h
              · exact .inr (.inr (.inl h))
              · have h : i ∈ [6, 3] := h
                simp at h
                omega
        rcases this with rfl | rfl | rfl | rfl | rfl <;> decide +kernel
      refine loopE_intro (fun mm e h7 => ∃ j : Nat, y ≤ j ∧ j ≤ row.length + 1 ∧ mm = row.length + 1 - j ∧ e 2 = .slice ra row.length rc ∧ e 3 = .pointer (some ⟨h.length, 0, none⟩) ∧ e 4 = .pointer (some ⟨h1.length, 0, none⟩) ∧ e 7 = .int .i64 ((row.length : Nat) : Int) ∧ e 8 = .slice (some ⟨h2.length, 0, none⟩) (row.length + 1) (row.length + 1) ∧ e 9 = .int .i64 (y : Nat) ∧ e 10 = .int .i64 (j : Nat) ∧ Exx h2.length h3 h7 ∧ h4.length < h7.length ∧
          CU h7 h2.length h2.length y row.length (D0 x row kk n) h4.length (.slice (some ⟨h4.length, 0, none⟩) (row.length + 1) (row.length + 1)) (fun w => (w = y ∧ z = true) ∨ (y ≤ w ∧ w < j ∧ kk = 2))) (row.length + 1 - y)
        ⟨y, Nat.le_refl _, hy, rfl, e2, e3, e4, e7, e8, e9, rfl, X6, by omega, cu6.congr fun w => ?_⟩ ?_
      · constructor
        · rintro (h | ⟨_, h⟩)
          · exact .inl h
          · exact h.elim
        · rintro (h | ⟨h1, h2, _⟩)
          · exact .inl h
          · omega
      rintro I1 mm1 e' h7 ⟨j, hyj, hj, hmm1, f2, f3, f4, f7, f8, f9, f10, x7, l7, cu7⟩ ih1
      rw [f7, f9, f10]
      have G27 := x7.some G2 (by omega)
      have G17 := x7.some G1 (by omega)
      refine w_leq (c_dec (fun q2 => ?_) (fun q2 => ?_))
      · rw [f4, f8]
        have hlt2 : row.length + 1 - (j + 1) < mm1 := by omega
        have hj1 : y ≤ j + 1 := by omega
        have hj2 : j + 1 ≤ row.length + 1 := by omega
        have hj0 : j ≤ row.length := by omega
        refine cu7.rdT (by omega) ?_
        refine cu7.rdT (by omega) ?_
        refine cu7.b.rd hj0 fun t ht => ?_
        refine or_kind G27 rfl fun v1 v2 v3 S1 hS1 => ?_
        refine put cu7 hj0 (fun t ht => by cases ht) ?_ x7 (by omega) fun h8 cu8 X8 l8 => ?_
        · refine List.all_eq_true.2 fun i hi => ?_
          have : i = 14 ∨ i = 11 ∨ i = 8 ∨ i = 3 := by
            rcases hS1 i hi with h | h
            · exact .inl h
            · have h : i ∈ [11, 8, 3] := h
              simp at h
              omega
          rcases this with rfl | rfl | rfl | rfl <;> decide +kernel
        · refine w_add (by omega) (by omega) (ih1 (row.length + 1 - (j + 1)) _ _ hlt2 ⟨j + 1, hj1, hj2, rfl, f2, f3, f4, f7, f8, f9, rfl, X8, by omega, cu8.congr fun w => ?_⟩)
          by_cases ew : w = j
          · subst ew
            simp only [Bool.or_eq_true, decide_eq_true_eq, true_and, ne_eq, not_true_eq_false, false_and, or_false, ht]
            constructor
            · rintro ((h | ⟨h1, h2, h3⟩) | h)
              · exact .inl h
              · omega
              · exact .inr ⟨hyj, Nat.lt_succ_self _, h⟩
            · rintro (h | ⟨h1, h2, h3⟩)
              · exact .inl (.inl h)
              · exact .inr h3
          · constructor
            · rintro (⟨h, _⟩ | ⟨_, h | ⟨h1, h2, h3⟩⟩)
              · exact absurd h ew
              · exact .inl h
              · exact .inr ⟨h1, by omega, h3⟩
            · rintro (h | ⟨h1, h2, h3⟩)
              · exact .inr ⟨ew, .inl h⟩
              · exact .inr ⟨ew, .inr ⟨h1, by omega, h3⟩⟩
      · have ej : j = row.length + 1 := by omega
        subst ej
        refine w_lss ?_
        by_cases q3 : ((y : Nat) : Int) < ((row.length : Nat) : Int)
        · refine c_tt q3 ?_
          rw [f2, f3, f4, f8]
          refine cu7.rdT (by omega) ?_
          refine w_add (by omega) (by omega) ?_
          refine cu7.rdT (by omega) ?_
          refine w_add (by omega) (by omega) ?_
          have ey1 : ((y : Nat) : Int) + 1 = ((y + 1 : Nat) : Int) := by omega
          rw [ey1]
          obtain ⟨rw_, hrw⟩ := getElem?_of_lt (l := row) (i := y) (by omega)
          have hr7 : SlT 1 eI h7 (.slice ra row.length rc) (row.map fun c : Nat => (c : Int)) := hr.ex (Exx.base X3 x7 (by omega))
          have hrw' : (row.map fun c : Nat => (c : Int))[y]? = some ((rw_ : Nat) : Int) := by rw [List.getElem?_map, hrw]; rfl
          have fin : ∀ {h8 : AH} {zz : Bool} {S : ST} {H : HT} {K2 : Value → AH → Prop}, CU h8 h2.length h2.length y row.length (D0 x row kk n) h4.length (.slice (some ⟨h4.length, 0, none⟩) (row.length + 1) (row.length + 1)) (fun w => (w = y ∧ z = true) ∨ (y ≤ w ∧ w < row.length + 1 ∧ kk = 2)) →
              (zz = true ↔ ((y + 1 = y ∧ z = true) ∨ (y ≤ y + 1 ∧ y + 1 < row.length + 1 ∧ kk = 2)) ∨ (kk = 3 ∧ rw_ = x.2.length) ∨ (kk = 4 ∧ (scOf x).fd n = (rw_ : Int))) →
              (∀ t ∈ H, ∀ x ∈ obOf (.pointer (some ⟨h4.length, y + 1, none⟩)), vw x t.2.1 = vw x t.2.2) → (S.map (·.1)).all (fun i => !(free #[0, 0, 3, 7, 0, 16, 0, 0, 192, 448, 0, 1024, 4032, 8128, 16320, 32704, 65472, 131008, 262080, 524224, 524224, 2097088, 4194240, 524224, 8912832, 25690048, 67108800, 134217664, 268435392, 536870848, 1073741760, 2147483584, 4294967232, 8589934528, 17179869120, 17179869120, 68719476672, 137438953408, 17179869120, 17179869120, 566935683008, 1941325217728, 4398046511040, 8796093022144, 17592186044352, 35184372088831, 70368744177663] i 46 && Nat.blt i 46)) = true → Exx h2.length h3 h8 → h4.length ≤ h8.length →
              (∀ h9, UT h9 h2.length h2.length (y + 1) row.length (D0 x row kk n) → Exx h2.length h3 h9 → K2 (.pointer (some ⟨h4.length, y + 1, none⟩)) h9) →
              optW (pIdxS 1 (.slice (some ⟨h4.length, 0, none⟩) (row.length + 1) (row.length + 1)) (.int .i64 ((y + 1 : Nat) : Int))) fun v => histC #[0, 0, 3, 7, 0, 16, 0, 0, 192, 448, 0, 1024, 4032, 8128, 16320, 32704, 65472, 131008, 262080, 524224, 524224, 2097088, 4194240, 524224, 8912832, 25690048, 67108800, 134217664, 268435392, 536870848, 1073741760, 2147483584, 4294967232, 8589934528, 17179869120, 17179869120, 68719476672, 137438953408, 17179869120, 17179869120, 566935683008, 1941325217728, 4398046511040, 8796093022144, 17592186044352, 35184372088831, 70368744177663] 46 (obOf v) H (optW (pStore 1 v (.bool zz) h8) fun h' => readC #[0, 0, 3, 7, 0, 16, 0, 0, 192, 448, 0, 1024, 4032, 8128, 16320, 32704, 65472, 131008, 262080, 524224, 524224, 2097088, 4194240, 524224, 8912832, 25690048, 67108800, 134217664, 268435392, 536870848, 1073741760, 2147483584, 4294967232, 8589934528, 17179869120, 17179869120, 68719476672, 137438953408, 17179869120, 17179869120, 566935683008, 1941325217728, 4398046511040, 8796093022144, 17592186044352, 35184372088831, 70368744177663] 46 h8 h' S (K2 v h')) := by
            intro h8 zz S H K2 cu8 hzz hH hS X8 l8 k2
            refine put cu8 (by omega) hH hS X8 l8 fun h9 cu9 X9 l9 => k2 h9 (cu9.done fun w => ?_) X9
            rw [hzz]
            unfold D0
            rw [hrw, ← hz']
            constructor
            · rintro (⟨rfl, (⟨h, _⟩ | ⟨h1, h2, h3⟩) | h | ⟨h3, h4⟩⟩ | ⟨h, h1 | ⟨h1, h2, h3⟩⟩)
              · omega
              · exact .inr (.inl ⟨h1, by omega, h3⟩)
              · exact .inr (.inr ⟨rfl, .inl ⟨h.1, by rw [h.2]⟩⟩)
              · exact .inr (.inr ⟨rfl, .inr ⟨h3, rw_, rfl, h4⟩⟩)
              · exact .inl h1
              · exact .inr (.inl ⟨h1, by omega, h3⟩)
            · rintro (⟨h1, h2⟩ | ⟨h1, h2, h3⟩ | ⟨rfl, ⟨h1, h2⟩ | ⟨h1, c, h2, h3⟩⟩)
              · exact .inr ⟨by omega, .inl ⟨h1, h2⟩⟩
              · by_cases ew : w = y + 1
                · subst ew
                  exact .inl ⟨rfl, .inl (.inr ⟨by omega, by omega, h3⟩)⟩
                · exact .inr ⟨ew, .inr ⟨h1, by omega, h3⟩⟩
              · exact .inl ⟨rfl, .inr (.inl ⟨h1, Option.some.inj h2⟩)⟩
              · rw [← Option.some.inj h2] at h3
                exact .inl ⟨rfl, .inr (.inr ⟨h1, h3⟩)⟩
          have nxt : ∀ (E : Env) (h9 : AH), UT h9 h2.length h2.length (y + 1) row.length (D0 x row kk n) → Exx h2.length h3 h9 → E 2 = .slice ra row.length rc → E 3 = .pointer (some ⟨h.length, 0, none⟩) → E 4 = .pointer (some ⟨h1.length, 0, none⟩) → E 7 = .int .i64 ((row.length : Nat) : Int) → E 8 = .slice (some ⟨h2.length, 0, none⟩) (row.length + 1) (row.length + 1) → E 9 = .int .i64 ((y + 1 : Nat) : Int) → I E h9 := by
            intro E h9 ut9 X9 F2 F3 F4 F7 F8 F9
            exact ih (row.length + 1 - (y + 1)) _ _ (by omega) ⟨y + 1, by omega, rfl, F2, F3, F4, F7, F8, F9, X9, ut9⟩
          refine cu7.b.rd (j := y + 1) (by omega) fun b5 hb5 => ?_
          cases b5 with
          | true =>
            refine gdc_ft (gdc_ft (gdc_ft (gdc_ft (gd_un (gd_un (gd_un (gd_un (gd_un (gd_un (gd_un (gd_un (gdc_ft (pk_t ?_)))))))))))))
            refine gdc_ft (gdc_ft (gdc_ft (gdc_ft (gd_un (gd_un (gd_un (gd_un (gd_un (gd_un (gd_un (gd_un (gd_un (gdc_ft (pk_t ?_))))))))))))))
            refine fin (zz := true) cu7 ⟨fun _ => .inl (hb5.1 rfl), fun _ => rfl⟩ (fun t ht => by cases ht) ?_ x7 (by omega) fun h9 ut9 X9 => w_add (by omega) (by omega) ?_
            · show List.all [13, 9, 3] _ = true
              decide +kernel
            exact nxt _ h9 ut9 X9 f2 f3 f4 f7 f8 rfl
          | false =>
            have hb5' : ¬ ((y + 1 = y ∧ z = true) ∨ (y ≤ y + 1 ∧ y + 1 < row.length + 1 ∧ kk = 2)) := fun h => absurd (hb5.2 h) Bool.false_ne_true
            refine gdc_ff (w_offP (gdc_ff (hist_nil ?_)))
            refine w_rdP G27 (v := .int .i64 kk) rfl ?_
            refine gdc_ff (w_eql (gdc_ff ?_))
            by_cases q4 : kk = 3
            · refine gd_tt q4 (gd_tt q4 (gd_tt q4 ?_))
              refine w_idxN (enc := eI) eI_len hr7 hrw' fun pp hpp => ?_
              refine gd_tt q4 (hist_nil ?_)
              refine w_rd1 hpp (x := .int .i64 ((rw_ : Nat) : Int)) rfl ?_
              refine gd_tt q4 (w_offP (gd_tt q4 (hist_nil ?_)))
              refine w_rdP G17 (v := .slice La x.2.length Lc) rfl ?_
              refine gd_tt q4 (w_lenSl (gd_tt q4 (w_eql (gdc_ff (pk_tt q4 (pk_f ?_))))))
              by_cases q5 : ((rw_ : Nat) : Int) = ((x.2.length : Nat) : Int)
              · rw [decide_eq_true q5]
                refine gdc_ft (gdc_ft (gdc_ft (gdc_ft (gd_un (gd_un (gd_un (gd_un (gd_un (gd_un (gd_un (gd_un (gd_un (gdc_ft (pk_t ?_))))))))))))))
                refine fin (zz := true) cu7 ⟨fun _ => .inr (.inl ⟨q4, by omega⟩), fun _ => rfl⟩ (fun t ht => by cases ht) ?_ x7 (by omega) fun h9 ut9 X9 => w_add (by omega) (by omega) ?_
                · show List.all [24, 22, 16, 13, 9, 3] _ = true
                  decide +kernel
                exact nxt _ h9 ut9 X9 f2 f3 f4 f7 f8 rfl
              · rw [decide_eq_false q5]
                refine gdc_ff (w_offP (gdc_ff (hist_nil ?_)))
                refine w_rdP G27 (v := .int .i64 kk) rfl ?_
                have q6 : ¬ kk = 4 := by omega
                refine gdc_ff (w_eql (gdc_ff (gd_tf q6 (gd_tf q6 (gd_tf q6 (gd_tf q6 (gd_tf q6 (gd_tf q6 (gd_tf q6 (gd_tf q6 (gd_tf q6 (gdc_ff (pk_ff q6 (pk_f ?_))))))))))))))
                refine fin (zz := false) cu7 ⟨fun h => absurd h Bool.false_ne_true, fun h => h.elim (fun h => absurd h hb5') fun h => h.elim (fun h => by omega) fun h => by omega⟩ (fun t ht => by cases ht) ?_ x7 (by omega) fun h9 ut9 X9 => w_add (by omega) (by omega) ?_
                · show List.all [31, 24, 22, 16, 13, 9, 3] _ = true
                  decide +kernel
                exact nxt _ h9 ut9 X9 f2 f3 f4 f7 f8 rfl
            · refine gd_tf q4 (gd_tf q4 (gd_tf q4 (gd_tf q4 (gd_tf q4 (gd_tf q4 (gd_tf q4 (gd_tf q4 (gdc_ff (pk_ff q4 (pk_f ?_))))))))))
              refine gdc_ff (w_offP (gdc_ff (hist_nil ?_)))
              refine w_rdP G27 (v := .int .i64 kk) rfl ?_
              refine gdc_ff (w_eql (gdc_ff ?_))
              by_cases q6 : kk = 4
              · refine gd_tt q6 (gd_tt q6 (gd_tt q6 ?_))
                refine w_idxN (enc := eI) eI_len hr7 hrw' fun pp hpp => ?_
                refine gd_tt q6 (hist_nil ?_)
                refine w_rd1 hpp (x := .int .i64 ((rw_ : Nat) : Int)) rfl ?_
                refine gd_tt q6 (hist_nil ?_)
                refine w_rdPA G17 (Nat.le_refl 2) ?_
                refine gd_tt q6 (w_offP (gd_tt q6 (hist_nil ?_)))
                refine w_rdP G27 (v := .string (bs n)) rfl ?_
                refine gd_tt q6 ?_
                refine find44x (hs.ex (Exx.base X3 x7 (by omega))) hT fun h8 x8 => ?_
                have lz := x7.len
                have lc := cu7.b.lt
                refine read_all ?_ ?_
                · refine gd_tt q6 (w_eql (gdc_ff (pk_tt q6 (pk_f ?_))))
                  generalize hzz : decide (((rw_ : Nat) : Int) = (scOf x).fd n) = zz
                  have hzz' : zz = true ↔ ((rw_ : Nat) : Int) = (scOf x).fd n := by rw [← hzz]; exact decide_eq_true_iff
                  refine fin (zz := zz) (cu7.ext x8) ⟨fun h => .inr (.inr ⟨q6, (hzz'.1 h).symm⟩), fun h => h.elim (fun h => absurd h hb5') fun h => h.elim (fun h => absurd h.1 q4) fun h => hzz'.2 h.2.symm⟩ ?_ ?_ (x7.ex x8) (by have := x8.len; omega) fun h9 ut9 X9 => w_add (by omega) (by omega) ?_
                  · intro t ht x hx
                    rw [List.mem_singleton] at ht
                    subst ht
                    have hx : x ∈ [Go.AM.Loc.obj h4.length] := hx
                    rw [List.mem_singleton] at hx
                    subst hx
                    exact vw_eq (x8.get h4.length lc).symm
                  · show List.all [40, 38, 37, 31, 16, 13, 9, 3] _ = true
                    decide +kernel
                  exact nxt _ h9 ut9 X9 f2 f3 f4 f7 f8 rfl
                · have ok8 : ∀ (n i off : Nat), i < h7.length → ∀ z ∈ ceOf n (.pointer (some ⟨i, off, none⟩)), vw z h7 = vw z h8 := fun n i off hi z hz => by
                    rw [ce_id hz]
                    exact vw_eq (x8.get i hi).symm
                  have okp := PtrTo.ids (n := 1) hpp (Ex.refl _) x8
                  intro t ht z hz
                  simp only [List.mem_cons, List.not_mem_nil, or_false] at ht
                  rcases ht with rfl | rfl | rfl | rfl | rfl | rfl | rfl | rfl
                  · exact ok8 _ _ _ (by omega) z hz
                  · exact ok8 _ _ _ (by omega) z hz
                  · exact okp z hz
                  · exact ok8 _ _ _ (by omega) z hz
                  · exact ok8 _ _ _ (by omega) z hz
                  · exact ok8 _ _ _ (by omega) z hz
                  · exact ok8 _ _ _ (by omega) z hz
                  · exact ok8 _ _ _ (by omega) z hz
              · refine gd_tf q6 (gd_tf q6 (gd_tf q6 (gd_tf q6 (gd_tf q6 (gd_tf q6 (gd_tf q6 (gd_tf q6 (gd_tf q6 (gdc_ff (pk_ff q6 (pk_f ?_)))))))))))
                refine fin (zz := false) cu7 ⟨fun h => absurd h Bool.false_ne_true, fun h => h.elim (fun h => absurd h hb5') fun h => h.elim (fun h => absurd h.1 q4) fun h => absurd h.1 q6⟩ (fun t ht => by cases ht) ?_ x7 (by omega) fun h9 ut9 X9 => w_add (by omega) (by omega) ?_
                · show List.all [31, 16, 13, 9, 3] _ = true
                  decide +kernel
                exact nxt _ h9 ut9 X9 f2 f3 f4 f7 f8 rfl
        · refine c_ff q3 (w_add (by omega) (by omega) ?_)
          refine ih (row.length + 1 - (y + 1)) _ _ (by omega) ⟨y + 1, by omega, rfl, f2, f3, f4, f7, f8, rfl, x7, cu7.done fun w => ?_⟩
          unfold D0
          rw [← hz', List.getElem?_eq_none (by omega)]
          constructor
          · rintro (h | ⟨h1, h2, h3⟩)
            · exact .inl h
            · exact .inr (.inl ⟨h1, by omega, h3⟩)
          · rintro (h | ⟨h1, h2, h3⟩ | ⟨_, ⟨_, h⟩ | ⟨_, c, h, _⟩⟩)
            · exact .inl h
            · exact .inr ⟨h1, by omega, h3⟩
            · cases h
            · cases h
    · have ey : y = row.length + 1 := by omega
      subst ey
      have hl4 := x4.len
      have X4 : Ex h h4 := Exx.base X3 x4 (by omega)
      have G24 := x4.some G2 (by omega)
      have G14 := x4.some G1 (by omega)
      have tm := t.mt.low (show h.length ≤ h2.length by omega)
      have sub : ∀ {h5 : AH} {j : Nat} {m' : Mdl} {K2 : Value → Value → Prop}, Ex h h5 → l[j]? = some m' → (∀ p mv', MH h5 (fun j => j < h5.length) m' mv' → K2 p mv') →
          optW (pIdxS 3 (.slice a l.length cp) (.int .i64 (j : Nat))) fun p => optW (rdRow true 3 p h5) fun mv' => K2 p mv' := by
        intro h5 j m' K2 X5 hj k2
        have hlt := get_lt hj
        obtain ⟨cx, cy, cz, ec, mh⟩ := ML.get l cs ml j m' hj
        refine w_idx (sl.ex X5) (by omega) (by omega) fun p hp => ?_
        rw [Int.toNat_natCast, ec] at hp
        exact w_rdA hp rfl (k2 _ _ (MH.mono (fun j hj => ⟨X5.get j hj, X5.lt hj⟩) _ _ mh))
      have rec_ : ∀ {h5 : AH} {j : Nat} {m' : Mdl} {mv' : Value} {K2 : Value → AH → Prop}, Ex h h5 → l[j]? = some m' → MH h5 (fun j => j < h5.length) m' mv' → (∀ v h6, Ex h5 h6 → MT h6 h5.length row.length v (Rr x row m') → K2 v h6) →
          callW Try.prog 68 [.agg #[.string (bs x.1), .slice La x.2.length Lc], mv', .slice ra row.length rc] h5 K2 := by
        intro h5 j m' mv' K2 X5 hj mh k2
        exact fits68 hT hn N m' (hszl j m' hj) (by omega) (okML_get l okl m' (List.mem_of_getElem? hj)) h5 _ _ _ K2 (hs.ex X5) mh (hr.ex X5) k2
      rw [e4]
      refine w_offP (w_rdP G24 (v := .int .i64 kk) rfl (w_eql ?_))
      refine c_dec (fun q5 => ?_) (fun q5 => ?_)
      · refine loopE_intro (fun mm e h5 => ∃ (j : Nat) (v5 : Value), j ≤ l.length ∧ mm = l.length - j ∧ e 2 = .slice ra row.length rc ∧ e 3 = .pointer (some ⟨h.length, 0, none⟩) ∧ e 4 = .pointer (some ⟨h1.length, 0, none⟩) ∧ e 8 = v5 ∧ e 11 = .int .i64 (j : Nat) ∧ Ex h4 h5 ∧ MT h5 h.length row.length v5 (MSeq (scOf x).fd (scOf x).T (rowS row) (l.take j))) l.length
          ⟨0, _, Nat.zero_le _, rfl, e2, e3, e4, e8, rfl, Ex.refl _, tm.congr fun i j hi => ?_⟩ ?_
        · rw [List.take_zero, MSeq]
          unfold D0
          constructor
          · rintro (⟨h, _⟩ | ⟨_, _, h⟩ | ⟨_, ⟨h, _⟩ | ⟨h, _⟩⟩)
            · exact h.symm
            all_goals omega
          · exact fun h => .inl ⟨h.symm, by omega⟩
        rintro I2 mm2 e' h5 ⟨j, v5, hj, hmm2, f2, f3, f4, f8, f11, x5, t5⟩ ih2
        rw [f2, f3, f4, f8, f11]
        refine w_offP (w_rdP (x5.some G24) (v := .slice a l.length cp) rfl (w_lenSl (w_lss (c_dec (fun r => ?_) (fun r => ?_)))))
        · obtain ⟨m', hm'⟩ := getElem?_of_lt (l := l) (i := j) (by omega)
          refine w_rdPA (x5.some G14) (Nat.le_refl 2) (w_offP (w_rdP (x5.some G24) (v := .slice a l.length cp) rfl ?_))
          refine sub (X4.trans x5) hm' fun p mv' mh => ?_
          refine rec_ (X4.trans x5) hm' mh fun v6 h6 x6 t6 => ?_
          refine behind85 (t5.ex' x6) t6 hn fun v7 h7 x7 t7 => w_add (by omega) (by omega) ?_
          refine ih2 (l.length - (j + 1)) _ _ (by omega) ⟨j + 1, v7, by omega, rfl, f2, f3, f4, rfl, rfl, x5.trans (x6.trans x7), (t7.low (by have := (X4.trans (x5.trans x6)).len; omega)).congr fun i w hi => ?_⟩
          rw [take_succ_get hm', MSeq_snoc]
          constructor
          · rintro ⟨z, _, _, h1, h2⟩
            exact ⟨z, h1, h2⟩
          · rintro ⟨z, h1, h2⟩
            exact ⟨z, MSeqr_le h1, MRr_le h2, h1, h2⟩
        · have ej : l.take j = l := List.take_of_length_le (by omega)
          rw [ej] at t5
          refine k _ h5 (X4.trans x5) (t5.congr fun i w hi => ?_)
          rw [Rr_mk]
          constructor
          · exact fun h => .inr (.inr (.inr (.inr (.inl ⟨q5, h⟩))))
          · intro hr
            rcases hr with ⟨h, _⟩ | ⟨h, _⟩ | ⟨h, _⟩ | ⟨h, _⟩ | ⟨_, h⟩ | ⟨h, _⟩ | ⟨h, _⟩ | ⟨h, _⟩ | ⟨h, _⟩
            case inr.inr.inr.inr.inl => exact h
            all_goals omega
      refine w_eql (c_dec (fun q6 => ?_) (fun q6 => ?_))
      · refine loopE_intro (fun mm e h5 => ∃ (j : Nat) (v5 : Value), j ≤ l.length ∧ mm = l.length - j ∧ e 2 = .slice ra row.length rc ∧ e 3 = .pointer (some ⟨h.length, 0, none⟩) ∧ e 4 = .pointer (some ⟨h1.length, 0, none⟩) ∧ e 8 = v5 ∧ e 12 = .int .i64 (j : Nat) ∧ Ex h4 h5 ∧ MT h5 h.length row.length v5 (MOr (scOf x).fd (scOf x).T (rowS row) (l.take j))) l.length
          ⟨0, _, Nat.zero_le _, rfl, e2, e3, e4, e8, rfl, Ex.refl _, tm.congr fun i j hi => ?_⟩ ?_
        · rw [List.take_zero, MOr]
          unfold D0
          constructor
          · rintro (⟨_, h⟩ | ⟨_, _, h⟩ | ⟨_, ⟨h, _⟩ | ⟨h, _⟩⟩) <;> omega
          · exact fun h => h.elim
        rintro I2 mm2 e' h5 ⟨j, v5, hj, hmm2, f2, f3, f4, f8, f11, x5, t5⟩ ih2
        rw [f2, f3, f4, f8, f11]
        refine w_offP (w_rdP (x5.some G24) (v := .slice a l.length cp) rfl (w_lenSl (w_lss (c_dec (fun r => ?_) (fun r => ?_)))))
        · obtain ⟨m', hm'⟩ := getElem?_of_lt (l := l) (i := j) (by omega)
          refine w_rdPA (x5.some G14) (Nat.le_refl 2) (w_offP (w_rdP (x5.some G24) (v := .slice a l.length cp) rfl ?_))
          refine sub (X4.trans x5) hm' fun p mv' mh => ?_
          refine rec_ (X4.trans x5) hm' mh fun v6 h6 x6 t6 => ?_
          refine either86 (t5.ex' x6) t6 hn fun v7 h7 x7 t7 => w_add (by omega) (by omega) ?_
          refine ih2 (l.length - (j + 1)) _ _ (by omega) ⟨j + 1, v7, by omega, rfl, f2, f3, f4, rfl, rfl, x5.trans (x6.trans x7), (t7.low (by have := (X4.trans (x5.trans x6)).len; omega)).congr fun i w hi => ?_⟩
          rw [take_succ_get hm', MOr_snoc]
        · have ej : l.take j = l := List.take_of_length_le (by omega)
          rw [ej] at t5
          refine k _ h5 (X4.trans x5) (t5.congr fun i w hi => ?_)
          rw [Rr_mk]
          constructor
          · exact fun h => .inr (.inr (.inr (.inr (.inr (.inl ⟨q6, h⟩)))))
          · intro hr
            rcases hr with ⟨h, _⟩ | ⟨h, _⟩ | ⟨h, _⟩ | ⟨h, _⟩ | ⟨h, _⟩ | ⟨_, h⟩ | ⟨h, _⟩ | ⟨h, _⟩ | ⟨h, _⟩
            case inr.inr.inr.inr.inr.inl => exact h
            all_goals omega
      have one : (kk = 7 ∨ kk = 8 ∨ kk = 9) → ∃ m0, l = [m0] := by
        intro hk
        rcases cases_ with ⟨h, _⟩ | ⟨h, _⟩ | ⟨h, _⟩ | ⟨_, h, _⟩
        case inr.inr.inr => exact h
        all_goals omega
      have rwv : ∀ m0, l = [m0] → ∀ i w, Rr x row (.mk kk n l) i w ↔ (kk = 1 ∧ i = w) ∨ (kk = 2 ∧ RT (Any (rowS row)) i w) ∨ (kk = 3 ∧ rowS row (scOf x).T i w) ∨ (kk = 4 ∧ ∃ c : Nat, (scOf x).fd n = c ∧ rowS row c i w) ∨ (kk = 5 ∧ MSeq (scOf x).fd (scOf x).T (rowS row) l i w) ∨ (kk = 6 ∧ MOr (scOf x).fd (scOf x).T (rowS row) l i w) ∨
          (kk = 7 ∧ RT (Rr x row m0) i w) ∨ (kk = 8 ∧ ∃ m, Rr x row m0 i m ∧ RT (Rr x row m0) m w) ∨ (kk = 9 ∧ (i = w ∨ Rr x row m0 i w)) := by
        rintro m0 rfl i w
        rw [Rr_mk, MHdr_one]
      refine w_eql (c_dec (fun q9 => ?_) (fun q9 => ?_))
      · obtain ⟨m0, hm0⟩ := one (by omega)
        have h0 : l[0]? = some m0 := by rw [hm0]; rfl
        rw [e3, e2, e8]
        refine w_rdPA G14 (Nat.le_refl 2) (w_offP (w_rdP G24 (v := .slice a l.length cp) rfl ?_))
        refine sub (j := 0) X4 h0 fun p mv' mh => ?_
        refine rec_ X4 h0 mh fun v6 h6 x6 t6 => ?_
        refine either86 (tm.ex' x6) t6 hn fun v7 h7 x7 t7 => ?_
        refine k _ h7 (X4.trans (x6.trans x7)) ((t7.low (by have := (X4.trans x6).len; omega)).congr fun i w hi => ?_)
        rw [rwv m0 hm0]
        unfold D0
        constructor
        · rintro ((⟨h, _⟩ | ⟨_, _, h⟩ | ⟨_, ⟨h, _⟩ | ⟨h, _⟩⟩) | h)
          · exact .inr (.inr (.inr (.inr (.inr (.inr (.inr (.inr ⟨q9, .inl h.symm⟩)))))))
          · omega
          · omega
          · omega
          · exact .inr (.inr (.inr (.inr (.inr (.inr (.inr (.inr ⟨q9, .inr h⟩)))))))
        · intro hr
          rcases hr with ⟨h, _⟩ | ⟨h, _⟩ | ⟨h, _⟩ | ⟨h, _⟩ | ⟨h, _⟩ | ⟨h, _⟩ | ⟨h, _⟩ | ⟨h, _⟩ | ⟨_, h | h⟩
          case inr.inr.inr.inr.inr.inr.inr.inr.inl => exact .inl (.inl ⟨h.symm, by omega⟩)
          case inr.inr.inr.inr.inr.inr.inr.inr.inr => exact .inr h
          all_goals omega
      have loop : ∀ (m0 : Mdl), l = [m0] → (kk = 7 ∨ kk = 8) → ∀ {h6 : AH} {vB vX : Value}, Ex h h6 → MT h6 h.length row.length vB (fun i j => D0 x row kk n i j ∨ Rr x row m0 i j) → MT h6 h.length row.length vX (Rr x row m0) →
          (∀ v h7, Ex h6 h7 → MT h7 h.length row.length v (itR (Rr x row m0) (fun i j => D0 x row kk n i j ∨ Rr x row m0 i j) row.length) → K v h7) := by
        intro m0 hm0 hk h6 vB vX X6 tB tX v h7 x7 t7
        refine k v h7 (X6.trans x7) (t7.congr fun i w hi => ?_)
        have hX : ∀ a b, Rr x row m0 a b → a ≤ b := fun a b h => MRr_le h
        have hD : ∀ a b, D0 x row kk n a b ↔ (kk = 7 ∧ a = b) := by
          intro a b
          unfold D0
          constructor
          · rintro (⟨h, h2⟩ | ⟨_, _, h⟩ | ⟨_, ⟨h, _⟩ | ⟨h, _⟩⟩)
            · exact ⟨by omega, h.symm⟩
            all_goals omega
          · rintro ⟨h1, h2⟩
            exact .inl ⟨h2.symm, by omega⟩
        have hB : ∀ a b, (D0 x row kk n a b ∨ Rr x row m0 a b) → a ≤ b := by
          rintro a b (h | h)
          · have := ((hD a b).1 h).2
            omega
          · exact hX a b h
        rw [rwv m0 hm0]
        constructor
        · intro h
          obtain ⟨z, h1, h2⟩ := itR_sound h
          rcases hk with hk | hk
          · refine .inr (.inr (.inr (.inr (.inr (.inr (.inl ⟨hk, ?_⟩))))))
            rcases h1 with h1 | h1
            · rw [((hD i z).1 h1).2]; exact h2
            · exact .cons h1 h2
          · refine .inr (.inr (.inr (.inr (.inr (.inr (.inr (.inl ⟨hk, z, ?_, h2⟩)))))))
            exact h1.resolve_left fun h => by have := ((hD i z).1 h).1; omega
        · intro hr
          have bd : ∀ {z : Nat}, RT (Rr x row m0) z w → z ≤ row.length → w ≤ row.length := by
            intro z hz
            have : RT (Any (rowS row)) z w := (hz.mono fun a b h => MR_any m0 h).flat
            exact RTr_le this
          rcases hr with ⟨h, _⟩ | ⟨h, _⟩ | ⟨h, _⟩ | ⟨h, _⟩ | ⟨h, _⟩ | ⟨h, _⟩ | ⟨h7, h⟩ | ⟨h8, z, h1, h2⟩ | ⟨h, _⟩
          case inr.inr.inr.inr.inr.inr.inl => exact (itR_iff hX hB (bd h hi)).2 ⟨i, .inl ((hD i i).2 ⟨h7, rfl⟩), h⟩
          case inr.inr.inr.inr.inr.inr.inr.inl => exact (itR_iff hX hB (bd h2 (Rr_in h1 hi))).2 ⟨z, .inr h1, h2⟩
          all_goals omega
      refine w_eql (c_dec (fun q7 => ?_) (fun q7 => ?_))
      · obtain ⟨m0, hm0⟩ := one (by omega)
        have h0 : l[0]? = some m0 := by rw [hm0]; rfl
        rw [e3, e2, e8]
        refine c_tt q7 ?_
        refine w_rdPA G14 (Nat.le_refl 2) (w_offP (w_rdP G24 (v := .slice a l.length cp) rfl ?_))
        refine sub (j := 0) X4 h0 fun p mv' mh => ?_
        refine rec_ X4 h0 mh fun v6 h6 x6 t6 => ?_
        refine either86 (tm.ex' x6) t6 hn fun v7 h7 x7 t7 => ?_
        have lx := (X4.trans x6).len
        have tX : MT h7 h.length row.length v6 (Rr x row m0) := (t6.low X4.len).ex' x7
        have X7 : Ex h h7 := X4.trans (x6.trans x7)
        have tB := t7.low (show h.length ≤ h6.length by omega)
        refine loopE_intro (fun mm e h8 => ∃ (j : Nat) (v8 : Value), j ≤ row.length ∧ mm = row.length - j ∧ e 7 = .int .i64 ((row.length : Nat) : Int) ∧ e 8 = v8 ∧ e 13 = v6 ∧ e 14 = .int .i64 (j : Nat) ∧ Ex h7 h8 ∧ MT h8 h.length row.length v8 (itR (Rr x row m0) (fun i j => D0 x row kk n i j ∨ Rr x row m0 i j) j)) row.length
          ⟨0, v7, Nat.zero_le _, rfl, e7, rfl, rfl, rfl, Ex.refl _, tB⟩ ?_
        rintro I2 mm2 e' h8 ⟨j, v8, hj, hmm2, f7, f8, f13, f14, x8, t8⟩ ih2
        rw [f7, f8, f13, f14]
        refine w_lss (c_dec (fun r => ?_) (fun r => ?_))
        · refine behind85 t8 (tX.ex' x8) hn fun v9 h9 x9 t9 => ?_
          refine either86 (t8.ex' x9) t9 hn fun v10 h10 x10 t10 => w_add (by omega) (by omega) ?_
          exact ih2 (row.length - (j + 1)) _ _ (by omega) ⟨j + 1, v10, by omega, rfl, f7, rfl, f13, rfl, x8.trans (x9.trans x10), t10.low (by have := (X7.trans (x8.trans x9)).len; omega)⟩
        · have ej : j = row.length := by omega
          subst ej
          exact loop m0 hm0 (by omega) X7 tB tX v8 h8 x8 t8
      refine w_eql (c_dec (fun q8 => ?_) (fun q8 => ?_))
      · obtain ⟨m0, hm0⟩ := one (by omega)
        have h0 : l[0]? = some m0 := by rw [hm0]; rfl
        rw [e3, e2, e8]
        refine w_rdPA G14 (Nat.le_refl 2) (w_offP (w_rdP G24 (v := .slice a l.length cp) rfl ?_))
        refine sub (j := 0) X4 h0 fun p mv' mh => ?_
        refine rec_ X4 h0 mh fun v6 h6 x6 t6 => ?_
        refine either86 (tm.ex' x6) t6 hn fun v7 h7 x7 t7 => ?_
        have lx := (X4.trans x6).len
        have tX : MT h7 h.length row.length v6 (Rr x row m0) := (t6.low X4.len).ex' x7
        have X7 : Ex h h7 := X4.trans (x6.trans x7)
        have tB := t7.low (show h.length ≤ h6.length by omega)
        refine loopE_intro (fun mm e h8 => ∃ (j : Nat) (v8 : Value), j ≤ row.length ∧ mm = row.length - j ∧ e 7 = .int .i64 ((row.length : Nat) : Int) ∧ e 8 = v8 ∧ e 13 = v6 ∧ e 14 = .int .i64 (j : Nat) ∧ Ex h7 h8 ∧ MT h8 h.length row.length v8 (itR (Rr x row m0) (fun i j => D0 x row kk n i j ∨ Rr x row m0 i j) j)) row.length
          ⟨0, v7, Nat.zero_le _, rfl, e7, rfl, rfl, rfl, Ex.refl _, tB⟩ ?_
        rintro I2 mm2 e' h8 ⟨j, v8, hj, hmm2, f7, f8, f13, f14, x8, t8⟩ ih2
        rw [f7, f8, f13, f14]
        refine w_lss (c_dec (fun r => ?_) (fun r => ?_))
        · refine behind85 t8 (tX.ex' x8) hn fun v9 h9 x9 t9 => ?_
          refine either86 (t8.ex' x9) t9 hn fun v10 h10 x10 t10 => w_add (by omega) (by omega) ?_
          exact ih2 (row.length - (j + 1)) _ _ (by omega) ⟨j + 1, v10, by omega, rfl, f7, rfl, f13, rfl, x8.trans (x9.trans x10), t10.low (by have := (X7.trans (x8.trans x9)).len; omega)⟩
        · have ej : j = row.length := by omega
          subst ej
          exact loop m0 hm0 (by omega) X7 tB tX v8 h8 x8 t8
      · rw [e8]
        refine k _ h4 X4 (tm.congr fun i w hi => ?_)
        rw [Rr_mk]
        unfold D0
        constructor
        · rintro (⟨h, h2⟩ | ⟨h1, h2, h⟩ | ⟨h1, ⟨h, h2⟩ | ⟨h, c, h2, h3⟩⟩)
          · exact .inl ⟨by omega, h.symm⟩
          · exact .inr (.inl ⟨h, (RT_any.2 ⟨h1, h2⟩).1⟩)
          · exact .inr (.inr (.inl ⟨h, h2, h1⟩))
          · exact .inr (.inr (.inr (.inl ⟨h, c, h3, h2, h1⟩)))
        · intro hr
          rcases hr with ⟨h, h2⟩ | ⟨h, h2⟩ | ⟨h, h2, h3⟩ | ⟨h, c, h2, h3, h4⟩ | ⟨h, _⟩ | ⟨h, _⟩ | ⟨h, _⟩ | ⟨h, _⟩ | ⟨h, _⟩
          case inl => exact .inl ⟨h2.symm, .inl h⟩
          case inr.inl => exact .inr (.inl ⟨h2.le rowS_le, RTr_le h2 hi, h⟩)
          case inr.inr.inl => exact .inr (.inr ⟨h3, .inl ⟨h, h2⟩⟩)
          case inr.inr.inr.inl => exact .inr (.inr ⟨h4, .inr ⟨h, c, h3, h2⟩⟩)
          all_goals omega
end Go.Proofs.Ytlenlhlipmkeeaa.W
end

section
/- Schema's laws: the document's symbols, and a word's partners. Conditions: none. -/
namespace Go.Proofs.Ytlenlhlipmkeeaa.W
open Go Go.AM SchM
set_option linter.unusedVariables false
set_option maxRecDepth 100000
def eSy (s : W × Int) : List Value := [.string (bs s.1), .int .i64 s.2]
theorem eSy_len (s : W × Int) : (eSy s).length = 2 := rfl
def symsL (l : List (W × Mdl)) : List (W × Int) := l.flatMap fun e => [(e.1, 1), (e.1, 2)]
def symsOf (x : W × List (W × Mdl)) : List (W × Int) := symsL x.2 ++ [(wText, 3)]
theorem symsL_len (l : List (W × Mdl)) : (symsL l).length = 2 * l.length := by
  induction l with
  | nil => rfl
  | cons a l ih =>
    show ([(a.1, (1 : Int)), (a.1, 2)] ++ symsL l).length = _
    rw [List.length_append, ih]
    simp
    omega
theorem symsOf_len (x : W × List (W × Mdl)) : (symsOf x).length = 2 * x.2.length + 1 := by
  unfold symsOf
  rw [List.length_append, symsL_len]
  rfl
theorem symsL_get : ∀ (l : List (W × Mdl)) (i : Nat) (e : W × Mdl), l[i]? = some e → (symsL l)[2 * i]? = some (e.1, 1) ∧ (symsL l)[2 * i + 1]? = some (e.1, 2)
  | [], i, e, h => by simp at h
  | a :: l, 0, e, h => by cases h; exact ⟨rfl, rfl⟩
  | a :: l, i + 1, e, h => by
    obtain ⟨h1, h2⟩ := symsL_get l i e h
    exact ⟨h1, h2⟩
theorem symsOf_get {x : W × List (W × Mdl)} {i : Nat} {e : W × Mdl} (h : x.2[i]? = some e) : (symsOf x)[2 * i]? = some (e.1, 1) ∧ (symsOf x)[2 * i + 1]? = some (e.1, 2) := by
  obtain ⟨h1, h2⟩ := symsL_get x.2 i e h
  have hl := symsL_len x.2
  have hi := get_lt h
  unfold symsOf
  rw [List.getElem?_append_left (by omega), List.getElem?_append_left (by omega)]
  exact ⟨h1, h2⟩
theorem symsOf_text (x : W × List (W × Mdl)) : (symsOf x)[2 * x.2.length]? = some (wText, 3) := by
  unfold symsOf
  rw [← symsL_len, List.getElem?_append_right (Nat.le_refl _), Nat.sub_self]
  rfl
theorem bld22 (a : ByteArray) : bldSl 2 [(.string (bs [])), (.int .i64 0)] 2 [(0, .agg #[.string a, .int .i64 1]), (1, .agg #[.string a, .int .i64 2])] = some [.string a, .int .i64 1, .string a, .int .i64 2] := by kernel_rfl
theorem bld21 : bldSl 2 [(.string (bs [])), (.int .i64 0)] 1 [(0, .agg #[.string (bs [116, 101, 120, 116]), .int .i64 3])] = some [.string (bs wText), .int .i64 3] := by kernel_rfl
set_option maxHeartbeats 1000000 in
theorem syms20 {h : AH} {x : W × List (W × Mdl)} {v : Value} {K : Value → AH → Prop} (s : SM h x v) (hT : x.2.length ≤ 100000000000) (k : ∀ v h', Ex h h' → OwnG 2 (fun j => h.length ≤ j) h' v (symsOf x).length (flat eSy (symsOf x)) → K v h') : callW Try.prog 20 [v] h K := by
  obtain ⟨a, c, cs0, rfl, _, _⟩ := id s
  obtain ⟨_, _, nmx⟩ := s.nm
  obtain ⟨cs, sl, hc⟩ := nmx.ex
  rw [List.length_map] at sl
  have hr40 : (1000000000000 : Nat) < room40 := by decide
  refine c20 ?_
  unfold s20
  refine n_boxv rfl fun h1 x1 l1 g1 => ?_
  have g1' : h1[h.length]? = some (.row [.string (bs x.1), .slice a x.2.length c] true) := g1
  refine loopE_intro (fun m e h2 => ∃ (j : Nat) (v3 : Value), j ≤ x.2.length ∧ m = x.2.length - j ∧ e 1 = .pointer (some ⟨h.length, 0, none⟩) ∧ e 3 = v3 ∧ e 4 = .int .i64 (j : Nat) ∧ Ex h1 h2 ∧ OwnG 2 (fun j => h1.length ≤ j) h2 v3 (symsL (x.2.take j)).length (flat eSy (symsL (x.2.take j)))) x.2.length
    ⟨0, _, Nat.zero_le _, rfl, rfl, rfl, rfl, Ex.refl _, OwnG.nil _ _ _⟩ ?_
  rintro I m e h2 ⟨j, v3, hj, hm, e1, e3, e4, x2, o⟩ ih
  rw [e1, e3, e4]
  have g2 := x2.some g1'
  refine w_offP (w_rdP g2 (v := .slice a x.2.length c) rfl (w_lenSl (w_lss (c_dec (fun q => ?_) (fun q => ?_)))))
  · obtain ⟨w, hw⟩ := getElem?_of_lt (l := x.2) (i := j) (by omega)
    obtain ⟨k', nn, a', ll, c', ec⟩ := hc j w.1 (by rw [List.getElem?_map, hw]; rfl)
    have xr := Ex.res h2
    have xx := (x1.trans x2).trans xr
    have rd : ∀ {K2 : Value → Value → Value → Value → Value → Prop}, (∀ v13 v14 p p', K2 v13 v14 p p' (.string (bs w.1))) → optW (pOff 1 (.pointer (some ⟨h.length, 0, none⟩))) fun v13 => optW (rdRow false 1 v13 (reserve 1 h2)) fun v14 => optW (pIdxS 4 v14 (.int .i64 (j : Nat))) fun p => optW (pOff 0 p) fun p' => optW (rdRow false 1 p' (reserve 1 h2)) fun s => K2 v13 v14 p p' s := by
      intro K2 k2
      refine w_offP (w_rdP (xr.some g2) (v := .slice a x.2.length c) rfl (w_idx (sl.ex xx) (by omega) (by omega) fun p hp => ?_))
      rw [Int.toNat_natCast, ec] at hp
      exact w_off hp (Nat.zero_le _) fun p' hp' => w_rd1 hp' rfl (k2 _ _ _ _)
    refine rd fun _ _ _ _ => w_some (v := .agg #[.string (bs w.1), .int .i64 1]) rfl ?_
    refine rd fun _ _ _ _ => w_some (v := .agg #[.string (bs w.1), .int .i64 2]) rfl ?_
    refine w_some (bld22 _) ?_
    refine n_slot ?_
    rw [reserve_set]
    have x3 : Ex h2 (h2 ++ [AObj.row [.string (bs w.1), .int .i64 1, .string (bs w.1), .int .i64 2] true]) := .app _ _
    have g3 : (h2 ++ [AObj.row [.string (bs w.1), .int .i64 1, .string (bs w.1), .int .i64 2] true])[h2.length]? = some (.row [.string (bs w.1), .int .i64 1, .string (bs w.1), .int .i64 2] true) := get_new _ _
    have l3 : (h2 ++ [AObj.row [.string (bs w.1), .int .i64 1, .string (bs w.1), .int .i64 2] true]).length = h2.length + 1 := by simp
    generalize h2 ++ [AObj.row [.string (bs w.1), .int .i64 1, .string (bs w.1), .int .i64 2] true] = h3 at *
    have o3 := o.mono (F' := fun j => h1.length ≤ j) (h' := h3) (fun _ _ h => h) fun j hj _ => x3.get j (o.on hj).2
    have hlen := symsL_len (x.2.take j)
    rw [List.length_take, Nat.min_eq_left hj] at hlen
    refine appSl_of (app_g (by decide) o3 (srcL_new (n := 2) (s := 2) g3 (by decide) rfl) rfl (by omega) fun v' h4 a1 a2 a3 a4 => w_add (by omega) (by omega) ?_)
    refine ih (x.2.length - (j + 1)) _ _ (by omega) ⟨j + 1, v', by omega, rfl, e1, rfl, rfl, ⟨by have := x2.len; omega, fun y hy => ?_⟩, ?_⟩
    · rw [a3 y (by have := x2.len; omega) (fun hon => by have := (o.on hon).1; omega), x3.get y (x2.lt hy)]
      exact x2.get y hy
    · have e5 : symsL (x.2.take (j + 1)) = symsL (x.2.take j) ++ [(w.1, 1), (w.1, 2)] := by
        rw [take_succ_get hw]
        simp [symsL]
      rw [e5, flat_append, List.length_append]
      exact a1.mono (fun y hy hF => hF.elim (fun h => h) fun h => by have := x2.len; omega) fun _ _ _ => rfl
  · have ej : j = x.2.length := by omega
    subst ej
    rw [List.take_length] at o
    refine w_some (v := .agg #[.string (bs [116, 101, 120, 116]), .int .i64 3]) rfl ?_
    refine w_some bld21 ?_
    refine n_newv fun h3 x3 l3 g3 => ?_
    have o3 := o.mono (F' := fun j => h1.length ≤ j) (h' := h3) (fun _ _ h => h) fun j hj _ => x3.get j (o.on hj).2
    have hlen := symsL_len x.2
    refine appSl_of (app_g (by decide) o3 (srcL_new (n := 1) (s := 2) g3 (by decide) rfl) rfl (by omega) fun v' h4 a1 a2 a3 a4 => ?_)
    refine k v' h4 ⟨by have := (x1.trans x2).len; omega, fun y hy => ?_⟩ ?_
    · have h5 := x1.len
      have h6 := x2.len
      rw [a3 y (by omega) (fun hon => by have := (o.on hon).1; omega), x3.get y (by omega)]
      exact (x1.trans x2).get y hy
    · unfold symsOf
      rw [flat_append, List.length_append]
      exact a1.mono (fun y hy hF => by
        have h5 := x1.len
        have h6 := x2.len
        rcases hF with hh | hh
        · show h.length ≤ y
          omega
        · show h.length ≤ y
          omega) fun _ _ _ => rfl
theorem sym_kind {x : W × List (W × Mdl)} {c : Int} (h0 : 0 ≤ c) (h1 : c ≤ 2 * (x.2.length : Int)) : ∃ nm kd, (symsOf x)[c.toNat]? = some (nm, kd) ∧ (kd = if c = 2 * (x.2.length : Int) then 3 else if c % 2 = 0 then 1 else 2) ∧ (c < 2 * (x.2.length : Int) → ∃ e, x.2[(c / 2).toNat]? = some e ∧ e.1 = nm) := by
  by_cases e : c = 2 * (x.2.length : Int)
  · refine ⟨wText, 3, ?_, by rw [if_pos e], fun h => by omega⟩
    rw [show c.toNat = 2 * x.2.length by omega]
    exact symsOf_text x
  · obtain ⟨el, hel⟩ := getElem?_of_lt (l := x.2) (i := (c / 2).toNat) (by omega)
    obtain ⟨h2, h3⟩ := symsOf_get hel
    by_cases e2 : c % 2 = 0
    · refine ⟨el.1, 1, ?_, by rw [if_neg e, if_pos e2], fun _ => ⟨el, hel, rfl⟩⟩
      rw [show c.toNat = 2 * (c / 2).toNat by omega]
      exact h2
    · refine ⟨el.1, 2, ?_, by rw [if_neg e, if_neg e2], fun _ => ⟨el, hel, rfl⟩⟩
      rw [show c.toNat = 2 * (c / 2).toNat + 1 by omega]
      exact h3
theorem flat_eI_set : ∀ (l : List Int) (j : Nat) (c : Int), (flat eI l).set j (.int .i64 c) = flat eI (l.set j c)
  | [], j, c => by simp [flat]
  | b :: l, 0, c => rfl
  | b :: l, j + 1, c => congrArg (Value.int .i64 b :: ·) (flat_eI_set l j c)
theorem repL_zero (k : Nat) : repL [.int .i64 0] k = flat eI (List.replicate k 0) := by
  induction k with
  | zero => rfl
  | succ k ih =>
    show [.int .i64 0] ++ repL [.int .i64 0] k = _
    rw [ih]
    rfl
def partners (T : Nat) (w : List Int) : List Int := (List.range w.length).map (mrun T w w.length).1
set_option maxHeartbeats 2000000 in
theorem match50 {h : AH} {x : W × List (W × Mdl)} {vl vw_ : Value} {w : List Int} {K : Value → AH → Prop} (hl : SlT 2 eSy h vl (symsOf x)) (hw : SlT 1 eI h vw_ w) (hn : w.length ≤ 100000000000) (hT : x.2.length ≤ 100000000000) (hin : ∀ c ∈ w, 0 ≤ c ∧ c ≤ 2 * (x.2.length : Int))
    (k : ∀ v h', Ex h h' → SlT 1 eI h' v (partners x.2.length w) → K v h') : callW Try.prog 50 [vl, vw_] h K := by
  obtain ⟨wa, wc, rfl⟩ := hw.shape
  have hr40 : (1000000000000 : Nat) < room40 := by decide
  have ho40 : (100000000000 : Nat) < openCap := by decide
  refine c50 ?_
  unfold s50
  refine w_lenSl ?_
  refine w_some (v := (w.length, w.length, repL [.int .i64 0] w.length)) ?_ ?_
  · unfold mkSl
    dsimp only
    rw [if_pos ⟨by omega, by omega, by omega, by decide, rfl⟩, Int.toNat_natCast]
  refine n_newv fun h1 x1 l1 g1 => ?_
  rw [repL_zero] at g1
  refine loopE_intro (fun mm e h2 => ∃ (y : Nat) (cl : List Int) (v6 : Value), y ≤ w.length ∧ mm = w.length - y ∧ e 0 = vl ∧ e 1 = .slice wa w.length wc ∧ e 5 = .slice (some ⟨h.length, 0, none⟩) w.length w.length ∧ e 6 = v6 ∧ e 7 = .int .i64 (y : Nat) ∧ Ex h h2 ∧ h1.length ≤ h2.length ∧
      h2[h.length]? = some (.row (flat eI cl) true) ∧ cl.length = w.length ∧ (∀ z, z < y → cl[z]? = some ((mrun x.2.length w y).1 z)) ∧ OwnG 1 (fun j => h1.length ≤ j) h2 v6 (mrun x.2.length w y).2.length (flat eI ((mrun x.2.length w y).2.reverse.map fun c : Nat => (c : Int))) ∧ (mrun x.2.length w y).2.length ≤ y) w.length
    ⟨0, _, _, Nat.zero_le _, rfl, rfl, rfl, rfl, rfl, rfl, x1, Nat.le_refl _, g1, by simp, fun z hz => by omega, OwnG.nil _ _ _, Nat.le_refl _⟩ ?_
  rintro I mm e h2 ⟨y, cl, v6, hy, hmm, e0, e1, e5, e6, e7, x2, l2, g2, hcl, hz, o, hst⟩ ih
  rw [e0, e1, e5, e6, e7]
  refine w_lenSl (w_lss (c_dec (fun q => ?_) (fun q => ?_)))
  · obtain ⟨c, hc⟩ := getElem?_of_lt (l := w) (i := y) (by omega)
    obtain ⟨hc0, hc1⟩ := hin c (List.mem_of_getElem? hc)
    have hmr : mrun x.2.length w (y + 1) = mstep x.2.length c y (mrun x.2.length w y) := by
      show (match w[y]? with | some c => mstep x.2.length c y (mrun x.2.length w y) | none => mrun x.2.length w y) = _
      rw [hc]
    refine ix1 (by omega) (w_stP g2 (by rw [flat_length eI_len]; omega) rfl rfl ?_)
    have g3 : (h2.set h.length (.row ((flat eI cl).set y (.int .i64 (-1))) true))[h.length]? = some (.row (flat eI (cl.set y (-1))) true) := by rw [get_set _ (lt_of_get g2), flat_eI_set]
    have x3 : Exx h.length h2 (h2.set h.length (.row ((flat eI cl).set y (.int .i64 (-1))) true)) := ⟨by simp, fun j hj hji => get_ne (Ne.symm hji) _⟩
    have l3 : (h2.set h.length (.row ((flat eI cl).set y (.int .i64 (-1))) true)).length = h2.length := by simp
    generalize h2.set h.length (.row ((flat eI cl).set y (.int .i64 (-1))) true) = h3 at *
    have X3 : Ex h h3 := Exx.base x2 x3 (Nat.le_refl _)
    have o3 : OwnG 1 (fun j => h1.length ≤ j) h3 v6 (mrun x.2.length w y).2.length (flat eI ((mrun x.2.length w y).2.reverse.map fun c : Nat => (c : Int))) := o.mono (fun _ _ h => h) fun j hj hF => x3.get j (o.on hj).2 (by omega)
    have hz3 : ∀ z, z < y + 1 → (cl.set y (-1))[z]? = some (put (mrun x.2.length w y).1 y (-1) z) := by
      intro z hz'
      by_cases ez : z = y
      · subst ez
        rw [put_same, List.getElem?_set_self (by omega)]
      · rw [put_ne ez, List.getElem?_set_ne (Ne.symm ez)]
        exact hz z (by omega)
    refine w_idxN (enc := eI) eI_len (hw.ex X3) hc fun pp hpp => w_rd1 hpp (x := .int .i64 c) rfl ?_
    obtain ⟨nm, kd, hs1, hs2, _⟩ := sym_kind hc0 hc1
    refine w_idxT (enc := eSy) eSy_len (hl.ex X3) hc0 hs1 fun p hp => ?_
    refine w_off hp (by show 1 ≤ 2; decide) fun p2 hp2 => w_rd1 hp2 (x := .int .i64 kd) rfl ?_
    refine w_eql (c_dec (fun r => ?_) (fun r => ?_))
    · have c1 : ¬ c = 2 * (x.2.length : Int) := fun h => by rw [if_pos h] at hs2; omega
      have c2 : c % 2 = 0 := Classical.byContradiction fun h => by rw [if_neg c1, if_neg h] at hs2; omega
      have hm1 : mrun x.2.length w (y + 1) = (put (mrun x.2.length w y).1 y (-1), y :: (mrun x.2.length w y).2) := by rw [hmr]; unfold mstep; rw [if_neg c1, if_pos c2]
      refine w_some (bldSl_one (v := .int .i64 ((y : Nat) : Int)) rfl (by decide) rfl rfl) ?_
      refine n_newv fun h4 x4 l4 g4 => ?_
      refine appSl_of (app_g (by decide) (o3.mono (F' := fun j => h1.length ≤ j) (h' := h4) (fun _ _ h => h) fun j hj _ => x4.get j (o3.on hj).2) (srcL_new (n := 1) (s := 1) g4 (by decide) rfl) rfl (by omega) fun v' h5 a1 a2 a3 a4 => w_add (by omega) (by omega) ?_)
      have non : ∀ j, j < h1.length → ¬ onId v6 j := fun j hj hon => by have := (o.on hon).1; omega
      refine ih (w.length - (y + 1)) _ _ (by omega) ⟨y + 1, cl.set y (-1), v', by omega, rfl, e0, e1, e5, rfl, rfl, ⟨by have := X3.len; omega, fun j hj => ?_⟩, by omega, ?_, by simpa using hcl, ?_, ?_, ?_⟩
      · have := X3.len
        rw [a3 j (by omega) (non j (by omega)), x4.get j (by omega)]
        exact X3.get j hj
      · rw [a3 _ (by omega) (non _ (by omega)), x4.get _ (by omega)]
        exact g3
      · rw [hm1]; exact hz3
      · rw [hm1]
        have e8 : flat eI ((y :: (mrun x.2.length w y).2).reverse.map fun c : Nat => (c : Int)) = flat eI ((mrun x.2.length w y).2.reverse.map fun c : Nat => (c : Int)) ++ [.int .i64 ((y : Nat) : Int)] := by
          rw [List.reverse_cons, List.map_append, flat_append]
          rfl
        show OwnG 1 _ h5 v' ((mrun x.2.length w y).2.length + 1) (flat eI ((y :: (mrun x.2.length w y).2).reverse.map fun c : Nat => (c : Int)))
        rw [e8]
        exact a1.mono (fun j hj hF => hF.elim (fun h => h) fun h => by show h1.length ≤ j; omega) fun _ _ _ => rfl
      · rw [hm1]; simp; omega
    · refine w_eql (c_dec (fun r2 => ?_) (fun r2 => ?_))
      · have c1 : ¬ c = 2 * (x.2.length : Int) := fun h => by rw [if_pos h] at hs2; omega
        have c2 : ¬ c % 2 = 0 := fun h => by rw [if_neg c1, if_pos h] at hs2; exact r hs2
        refine w_len o3.sl (w_gtr (c_dec (fun r3 => ?_) (fun r3 => ?_)))
        · cases hst2 : (mrun x.2.length w y).2 with
          | nil => rw [hst2] at r3; exact absurd r3 (by decide)
          | cons k0 r0 =>
            rw [hst2] at o3 r3 hst
            have hk0 : k0 < y := mrun_lt x.2.length w y k0 (by rw [hst2]; simp)
            have hm1 : mrun x.2.length w (y + 1) = (put (put (put (mrun x.2.length w y).1 y (-1)) y k0) k0 y, r0) := by
              rw [hmr]
              unfold mstep
              rw [if_neg c1, if_neg c2, hst2]
            have hlen : (k0 :: r0).length = r0.length + 1 := rfl
            have eS : (((k0 :: r0).length : Nat) : Int) - 1 = (r0.length : Nat) := by rw [hlen]; omega
            refine w_len o3.sl (w_sub (by omega) (by omega) ?_)
            rw [eS]
            have osl : SlT 1 eI h3 v6 ((k0 :: r0).reverse.map fun c : Nat => (c : Int)) := by
              have := o3.sl
              unfold SlT
              rw [List.length_map, List.length_reverse]
              exact this
            have hlast : ((k0 :: r0).reverse.map fun c : Nat => (c : Int))[r0.length]? = some ((k0 : Nat) : Int) := by
              rw [List.getElem?_map, List.reverse_cons, List.getElem?_append_right (by simp)]
              simp
            refine w_idxN (enc := eI) eI_len osl hlast fun pp hpp => w_rd1 hpp (x := .int .i64 ((k0 : Nat) : Int)) rfl ?_
            refine w_len o3.sl (w_sub (by omega) (by omega) ?_)
            rw [eS]
            refine cut_g o3 (by omega) fun v' oc hon => ?_
            refine ix1 (by omega) (w_stP g3 (by rw [flat_length eI_len]; simp; omega) rfl rfl ?_)
            have g4 : (h3.set h.length (.row ((flat eI (cl.set y (-1))).set y (.int .i64 ((k0 : Nat) : Int))) true))[h.length]? = some (.row (flat eI ((cl.set y (-1)).set y (k0 : Int))) true) := by rw [get_set _ (lt_of_get g3), flat_eI_set]
            have x4 : Exx h.length h3 (h3.set h.length (.row ((flat eI (cl.set y (-1))).set y (.int .i64 ((k0 : Nat) : Int))) true)) := ⟨by simp, fun j hj hji => get_ne (Ne.symm hji) _⟩
            have l4 : (h3.set h.length (.row ((flat eI (cl.set y (-1))).set y (.int .i64 ((k0 : Nat) : Int))) true)).length = h3.length := by simp
            generalize h3.set h.length (.row ((flat eI (cl.set y (-1))).set y (.int .i64 ((k0 : Nat) : Int))) true) = h4 at *
            refine ix1 (by omega) (w_stP g4 (by rw [flat_length eI_len]; simp; omega) rfl rfl ?_)
            have g5 : (h4.set h.length (.row ((flat eI ((cl.set y (-1)).set y (k0 : Int))).set k0 (.int .i64 ((y : Nat) : Int))) true))[h.length]? = some (.row (flat eI (((cl.set y (-1)).set y (k0 : Int)).set k0 (y : Int))) true) := by rw [get_set _ (lt_of_get g4), flat_eI_set]
            have x5 : Exx h.length h4 (h4.set h.length (.row ((flat eI ((cl.set y (-1)).set y (k0 : Int))).set k0 (.int .i64 ((y : Nat) : Int))) true)) := ⟨by simp, fun j hj hji => get_ne (Ne.symm hji) _⟩
            have l5 : (h4.set h.length (.row ((flat eI ((cl.set y (-1)).set y (k0 : Int))).set k0 (.int .i64 ((y : Nat) : Int))) true)).length = h4.length := by simp
            generalize h4.set h.length (.row ((flat eI ((cl.set y (-1)).set y (k0 : Int))).set k0 (.int .i64 ((y : Nat) : Int))) true) = h5 at *
            have x35 := x4.trans x5
            refine w_add (by omega) (by omega) ?_
            refine ih (w.length - (y + 1)) _ _ (by omega) ⟨y + 1, _, v', by omega, rfl, e0, e1, e5, rfl, rfl, Exx.base X3 x35 (Nat.le_refl _), by omega, g5, by simpa using hcl, fun z hz' => ?_, ?_, ?_⟩
            · rw [hm1]
              dsimp only
              by_cases ez : z = k0
              · subst ez
                rw [put_same, List.getElem?_set_self (by simp; omega)]
              · rw [put_ne ez, List.getElem?_set_ne (Ne.symm ez)]
                by_cases ez2 : z = y
                · subst ez2
                  rw [put_same, List.getElem?_set_self (by simp; omega)]
                · rw [put_ne ez2, List.getElem?_set_ne (Ne.symm ez2)]
                  exact hz3 z hz'
            · rw [hm1]
              have e9 : (flat eI ((k0 :: r0).reverse.map fun c : Nat => (c : Int))).take (r0.length * 1) = flat eI (r0.reverse.map fun c : Nat => (c : Int)) := by
                rw [flat_take eI_len, List.reverse_cons, List.map_append, List.take_append_of_le_length (by simp), List.take_of_length_le (by simp)]
              rw [e9] at oc
              exact oc.mono (fun _ _ h => h) fun j hj hF => x35.get j (oc.on hj).2 (by have : h1.length ≤ j := hF; omega)
            · rw [hm1]
              dsimp only
              omega
        · have hst2 : (mrun x.2.length w y).2 = [] := List.eq_nil_of_length_eq_zero (by omega)
          have hm1 : mrun x.2.length w (y + 1) = (put (mrun x.2.length w y).1 y (-1), []) := by
            rw [hmr]
            unfold mstep
            rw [if_neg c1, if_neg c2, hst2]
          refine w_add (by omega) (by omega) (ih (w.length - (y + 1)) _ _ (by omega) ⟨y + 1, _, v6, by omega, rfl, e0, e1, e5, e6, rfl, X3, by omega, g3, by simpa using hcl, ?_, ?_, ?_⟩)
          · rw [hm1]; exact hz3
          · rw [hm1]; rw [hst2] at o3; exact o3
          · rw [hm1]; exact Nat.zero_le _
      · have c1 : c = 2 * (x.2.length : Int) := Classical.byContradiction fun h => by
          rw [if_neg h] at hs2
          by_cases c2 : c % 2 = 0
          · rw [if_pos c2] at hs2; exact r hs2
          · rw [if_neg c2] at hs2; exact r2 hs2
        have hm1 : mrun x.2.length w (y + 1) = (put (mrun x.2.length w y).1 y (-1), (mrun x.2.length w y).2) := by
          rw [hmr]
          unfold mstep
          rw [if_pos c1]
        refine w_add (by omega) (by omega) (ih (w.length - (y + 1)) _ _ (by omega) ⟨y + 1, _, v6, by omega, rfl, e0, e1, e5, e6, rfl, X3, by omega, g3, by simpa using hcl, ?_, ?_, ?_⟩)
        · rw [hm1]; exact hz3
        · rw [hm1]; exact o3
        · rw [hm1]; dsimp only; omega
  · have ey : y = w.length := by omega
    subst ey
    have ecl : cl = partners x.2.length w := by
      apply List.ext_getElem?
      intro z
      unfold partners
      by_cases hz' : z < w.length
      · rw [hz z hz', List.getElem?_map, List.getElem?_range hz']
        rfl
      · rw [List.getElem?_eq_none (by omega), List.getElem?_eq_none (by simp; omega)]
    rw [ecl] at g2
    have hpl : (partners x.2.length w).length = w.length := by unfold partners; simp
    refine k _ h2 x2 ⟨flat_length eI_len _, .inr ⟨h.length, 0, w.length, by rw [hpl], .inl ⟨by omega, by omega⟩, .inr ⟨_, true, g2, by rw [flat_length eI_len]; omega, ?_⟩⟩⟩
    rw [List.drop_zero, ← flat_length eI_len, List.take_length]
end Go.Proofs.Ytlenlhlipmkeeaa.W
end

section
/- Schema's laws: which words a schema has: where a model's word may end. Conditions: none. -/
namespace Go.Proofs.Ytlenlhlipmkeeaa.W
open Go Go.AM SchM
set_option linter.unusedVariables false
set_option maxRecDepth 100000
theorem Rw_mk {c : Hc} {k : Int} {n : W} {l : List Mdl} {a x : Nat} : Rw c (.mk k n l) a x ↔ (k = 1 ∧ a = x) ∨ (k = 2 ∧ RT (Any (St c)) a x) ∨ (k = 3 ∧ St c (scOf c.x).T a x) ∨ (k = 4 ∧ ∃ i : Nat, (scOf c.x).fd n = i ∧ St c i a x) ∨ (k = 5 ∧ MSeq (scOf c.x).fd (scOf c.x).T (St c) l a x) ∨ (k = 6 ∧ MOr (scOf c.x).fd (scOf c.x).T (St c) l a x) ∨
      (k = 7 ∧ RT (MHd (scOf c.x).fd (scOf c.x).T (St c) l) a x) ∨ (k = 8 ∧ ∃ m, MHd (scOf c.x).fd (scOf c.x).T (St c) l a m ∧ RT (MHd (scOf c.x).fd (scOf c.x).T (St c) l) m x) ∨ (k = 9 ∧ (a = x ∨ MHd (scOf c.x).fd (scOf c.x).T (St c) l a x)) := by
  show MR _ _ _ (.mk k n l) a x ↔ _
  rw [MR]
theorem MHd_one {c : Hc} {m : Mdl} : MHd (scOf c.x).fd (scOf c.x).T (St c) [m] = Rw c m := by
  funext a x
  show MHd _ _ _ [m] a x = MR _ _ _ m a x
  rw [MHd]
set_option maxHeartbeats 4000000 in
theorem model67 {c : Hc} (ok : HcOK c) (nd : (c.x.2.map (·.1)).Nodup) (ho : ∀ e ∈ c.x.2, okM e.2 = true ∧ sz e.2 ≤ 100000000000) : ∀ (N a : Nat), c.w.length - a = N → a ≤ c.w.length → ∀ (s : Nat) (md : Mdl), sz md = s → s ≤ 100000000000 → okM md = true → MC c md a := by
  intro N
  induction N using Nat.strongRecOn with
  | ind N ihN =>
  intro a haN ha s
  induction s using Nat.strongRecOn with
  | ind s ihS =>
  intro md hs hs6 hok u h p o K m pm k
  have hn := ok.n
  have hT := ok.T
  have hM := ok.M
  have hl := m.x.len
  have low : ∀ md' k, a ≤ k → k ≤ c.w.length → okM md' = true → sz md' ≤ 100000000000 → (a < k ∨ sz md' < sz md) → MC c md' k := by
    intro md' k h1 h2 h3 h6 h4
    by_cases e : k = a
    · subst e
      exact ihS (sz md') (by omega) md' rfl h6 h3
    · exact ihN (c.w.length - k) (by omega) k rfl h2 (sz md') md' rfl h6 h3
  have hEC : ∀ k, a ≤ k → k ≤ c.w.length → ∀ i, i < c.x.2.length → EC c i k := by
    intro k h1 h2 i hi
    obtain ⟨e, he⟩ := getElem?_of_lt hi
    exact element48 ok he h2 fun hlt => low e.2 (k + 1) (by omega) (by omega) (ho e (List.mem_of_getElem? he)).1 (ho e (List.mem_of_getElem? he)).2 (.inl (by omega))
  obtain ⟨wa, wc, hws⟩ := ok.ws.shape
  obtain ⟨kk, n, l⟩ := md
  obtain ⟨okl, cases_⟩ := okM_cases hok
  have hszl : ∀ i m', l[i]? = some m' → sz m' < sz (.mk kk n l) := fun i m' hi => by
    have := sz_get l i m' hi
    show _ < 1 + szL l
    omega
  have hln : l.length ≤ 100000000000 := by
    have h1 := szL_len l
    have h2 : sz (.mk kk n l) = 1 + szL l := rfl
    omega
  obtain ⟨cc, sa, scp, gp, hpM, hp3, c0, c1, c2, hsub⟩ := pm.sub
  refine c67 ?_
  unfold s67
  refine n_boxv rfl fun h1 x1 l1 g1 => ?_
  have g1 : h1[h.length]? = some (.row [.pointer (some ⟨c.r, 0, none⟩)] true) := g1
  have m1 := m.ext ok x1
  have gr := m1.rdr ok
  refine w_rdP g1 (v := .pointer (some ⟨c.r, 0, none⟩)) rfl (w_nilc (w_offP (w_rdP gr (v := .map (some c.M)) rfl ?_)))
  refine w_some (v := .agg #[.pointer (some ⟨p, o, none⟩), .int .i64 (a : Nat)]) rfl ?_
  refine look91 m1 pm (fun v i hu b => ?_) (fun z => ?_)
  · refine w_some (v := v) rfl ?_
    refine w_some (v := .bool true) rfl ?_
    refine c_t ?_
    exact k u h1 v i m1 ((Exx.refl _ _).ex x1) (fun i hi => .inl hi) hu b
  refine w_some (v := z) rfl ?_
  refine w_some (v := .bool false) rfl ?_
  refine c_f ?_
  refine w_rdP g1 (v := .pointer (some ⟨c.r, 0, none⟩)) rfl ?_
  have gr' := gr
  rw [hws] at gr'
  refine row66 gr' (by omega) fun v30 h2 x2 l2 b2 => ?_
  refine b2.st (j := a) ha fun h3 x3 l3 bb => ?_
  have m2 := m1.ext ok x2
  have nu1 : ¬ u h1.length := fun hu => by have := (m1.ub _ hu).2; omega
  have m3 : MI c u h3 := m2.set ok (by omega) nu1 x3
  have X3 : Exx c.M h1 h3 := ⟨by omega, fun y hy hyM => (x3.get y (by omega) (by omega)).trans (x2.get y hy)⟩
  have b0 : BR h3 h1.length c.w.length v30 (fun x => x = a) := bb.congr fun x => by simp
  clear bb
  have pM : h.length ≠ c.M := by omega
  refine joinE_intro (fun e h4 => e 1 = .pointer (some ⟨p, o, none⟩) ∧ e 2 = .int .i64 (a : Nat) ∧ e 3 = .pointer (some ⟨h.length, 0, none⟩) ∧ ∃ u1 v i, e 9 = v ∧ MI c u1 h4 ∧ Exx c.M h1 h4 ∧ (∀ j, u1 j → u j ∨ h1.length ≤ j) ∧ h1.length ≤ i ∧ BR h4 i c.w.length v (Rw c (.mk kk n l) a)) ?_ ?_
  · rintro e h4 ⟨e1, e2, e3, u1, v, i, e9, m4, x4, s4, hi, b4⟩
    rw [e1, e2, e3, e9]
    refine w_rdP (x4.some g1 pM) (v := .pointer (some ⟨c.r, 0, none⟩)) rfl (w_nilc (w_offP (w_rdP (m4.rdr ok) (v := .map (some c.M)) rfl ?_)))
    refine w_some (v := .agg #[.pointer (some ⟨p, o, none⟩), .int .i64 (a : Nat)]) rfl ?_
    refine upd91 ok m4 pm ha (by omega) b4 fun h5 x5 l5 m5 b5 => k _ h5 v i m5 ?_ (fun j hj => ?_) (.inr rfl) b5
    · exact ((Exx.refl _ _).ex x1).trans (x4.trans x5)
    · rcases hj with hj | rfl
      · exact (s4 j hj).imp (fun h => h) fun h => by omega
      · exact .inr (by omega)
  intro J hJ
  have hj : ∀ (E : Env) (h4 : AH) (u1 : Nat → Prop) (v : Value) (i : Nat), E 1 = .pointer (some ⟨p, o, none⟩) → E 2 = .int .i64 (a : Nat) → E 3 = .pointer (some ⟨h.length, 0, none⟩) → E 9 = v → MI c u1 h4 → Exx c.M h1 h4 → (∀ j, u1 j → u j ∨ h1.length ≤ j) → h1.length ≤ i → BR h4 i c.w.length v (Rw c (.mk kk n l) a) → J E h4 :=
    fun E h4 u1 v i f1 f2 f3 f9 mm xx ss hi b => hJ _ _ ⟨f1, f2, f3, u1, v, i, f9, mm, xx, ss, hi, b⟩
  clear hJ
  have gp3 := m3.x.some gp hpM
  have g13 := X3.some g1 pM
  refine w_nilc (w_offP (w_rdP gp3 (v := .int .i64 kk) c0 (w_eql ?_)))
  refine c_dec (fun q => ?_) (fun q2 => ?_)
  · refine w_rdP g13 (v := .pointer (some ⟨c.r, 0, none⟩)) rfl (w_rdP g13 (v := .pointer (some ⟨c.r, 0, none⟩)) rfl ?_)
    refine often79 ok m3 b0 (lo := a) (fun j hj => by omega) (way80 ok hEC) (fun a' j _ hj => Any_le _ _ hj) fun u4 h4 v4 i4 m4 x4 s4 hi4 nu4 b4 => ?_
    refine hj _ h4 u4 v4 i4 rfl rfl rfl rfl m4 (X3.trans x4) (fun j hj => (s4 j hj).imp (fun h => h) fun h => by omega) (by omega) (b4.congr fun x => ?_)
    rw [Rw_mk]
    constructor
    · rintro ⟨_, rfl, hr⟩
      exact .inr (.inl ⟨q, hr⟩)
    · intro hr
      refine ⟨a, rfl, ?_⟩
      rcases hr with ⟨h, _⟩ | ⟨_, h⟩ | ⟨h, _⟩ | ⟨h, _⟩ | ⟨h, _⟩ | ⟨h, _⟩ | ⟨h, _⟩ | ⟨h, _⟩ | ⟨h, _⟩
      case inr.inl => exact h
      all_goals omega
  refine w_eql (c_dec (fun q => ?_) (fun q3 => ?_))
  · refine w_rdP g13 (v := .pointer (some ⟨c.r, 0, none⟩)) rfl ?_
    refine words81 ok m3 ha fun v4 i4 h4 x4 l40 l41 b4 => ?_
    refine hj _ h4 u v4 i4 rfl rfl rfl rfl (m3.ext ok x4) (X3.ex x4) (fun j hj => .inl hj) (by omega) (b4.congr fun x => ?_)
    rw [Rw_mk]
    constructor
    · rintro ⟨h1, rfl⟩
      exact .inr (.inr (.inl ⟨q, (Stw_iff _ _ _ _ _).2 (.inl ⟨rfl, h1, rfl⟩)⟩))
    · intro hr
      rcases hr with ⟨h, _⟩ | ⟨h, _⟩ | ⟨_, h⟩ | ⟨h, _⟩ | ⟨h, _⟩ | ⟨h, _⟩ | ⟨h, _⟩ | ⟨h, _⟩ | ⟨h, _⟩
      case inr.inr.inl =>
        rcases (Stw_iff _ _ _ _ _).1 h with ⟨_, h1, h2⟩ | ⟨h1, _⟩
        · exact ⟨h1, h2⟩
        · exact absurd h1 (Nat.lt_irrefl _)
      all_goals omega
  refine w_eql (c_dec (fun q => ?_) (fun q4 => ?_))
  · refine w_rdP g13 (v := .pointer (some ⟨c.r, 0, none⟩)) rfl ?_
    have gr3 := m3.rdr ok
    have gr3' := gr3
    rw [hws] at gr3'
    refine row66 gr3' (by omega) fun v5 h5 x5 l5 b5 => ?_
    have m5 := m3.ext ok x5
    refine w_rdP (x5.some g13) (v := .pointer (some ⟨c.r, 0, none⟩)) rfl (w_nilc (w_offP (w_offP (w_rdP (m5.rdr ok) (v := c.L) rfl ?_))))
    have X5 : Exx c.M h1 h5 := X3.ex x5
    obtain ⟨La, Lc, Lcs, hL, _⟩ := ok.ls
    rw [hL]
    refine w_lenSl ?_
    refine loopE_intro (fun mm e h6 => ∃ (j : Nat) (u6 : Nat → Prop) (v6 : Value) (i6 : Nat), j ≤ c.x.2.length ∧ mm = c.x.2.length - j ∧ e 1 = .pointer (some ⟨p, o, none⟩) ∧ e 2 = .int .i64 (a : Nat) ∧ e 3 = .pointer (some ⟨h.length, 0, none⟩) ∧ e 9 = v6 ∧ e 59 = c.L ∧ e 60 = .int .i64 ((c.x.2.length : Nat) : Int) ∧ e 61 = .int .i64 (j : Nat) ∧
      MI c u6 h6 ∧ Exx c.M h1 h6 ∧ (∀ j, u6 j → u j ∨ h1.length ≤ j) ∧ h1.length ≤ i6 ∧ BR h6 i6 c.w.length v6 (fun x => ∃ j' e', j' < j ∧ c.x.2[j']? = some e' ∧ e'.1 = n ∧ St c j' a x)) c.x.2.length
      ⟨0, u, v5, h3.length, Nat.zero_le _, rfl, rfl, rfl, rfl, rfl, hL.symm, rfl, rfl, m5, X5, fun j hj => .inl hj, by omega, b5.congr fun x => ⟨fun h => h.elim, fun ⟨j', e', h, _⟩ => by omega⟩⟩ ?_
    rintro I mm e h6 ⟨j, u6, v6, i6, hj6, hmm, f1, f2, f3, f9, f59, f60, f61, m6, x6, s6, hi6, b6⟩ ih
    rw [f1, f2, f3, f59, f60, f61]
    refine w_lss (c_dec (fun r => ?_) (fun r => ?_))
    · obtain ⟨el, hel⟩ := getElem?_of_lt (l := c.x.2) (i := j) (by omega)
      obtain ⟨id, off, cap, cc', k', n', a', l', cp', hL', gid, idM, hle', ht4, pm'⟩ := elAt ok hel
      have gid6 := m6.x.some gid idM
      rw [hL']
      refine w_some (v := .pointer (some ⟨id, off + j * 4, none⟩)) ?_ ?_
      · show (if 0 ≤ ((j : Nat) : Int) ∧ ((j : Nat) : Int) < ((c.x.2.length : Nat) : Int) then some (Value.pointer (some ⟨id, off + ((j : Nat) : Int).toNat * 4, none⟩)) else none) = _
        rw [if_pos (by omega)]
        simp
      refine w_rdPA gid6 hle' ?_
      rw [ht4]
      refine n_var rfl rfl rfl fun h7 x7 l7 g7 => ?_
      have g7 : h7[h6.length]? = some (.row [.string (bs el.1), .int .i64 k', .string (bs n'), .slice a' l' cp'] true) := g7
      have m7 := m6.ext ok x7
      refine w_offP (w_rdP g7 (v := .string (bs el.1)) rfl (w_nilc (w_offP (w_rdP (m7.x.some gp hpM) (v := .string (bs n)) c1 (w_seql ?_)))))
      refine c_dec (fun r2 => ?_) (fun r2 => ?_)
      · refine w_rdP ((x6.ex x7).some g1 pM) (v := .pointer (some ⟨c.r, 0, none⟩)) rfl ?_
        refine hEC a (Nat.le_refl _) ha j (by omega) u6 h7 _ m7 fun u8 h8 v8 i8 m8 x8 s8 hi8 nu8 b8 => w_add (by omega) (by omega) ?_
        refine ih (c.x.2.length - (j + 1)) _ _ (by omega) ⟨j + 1, u8, v8, i8, by omega, rfl, f1, f2, f3, rfl, f59, f60, rfl, m8, (x6.ex x7).trans x8, fun y hy => (s8 y hy).elim (s6 y) fun h => .inr (by have := (x6.ex x7).len; omega), by have := (x6.ex x7).len; omega, b8.congr fun x => ?_⟩
        constructor
        · intro h
          exact ⟨j, el, Nat.lt_succ_self _, hel, r2, h⟩
        · rintro ⟨j', e', h1, h2, h3, h4⟩
          have e1 : (c.x.2.map (·.1))[j']? = (c.x.2.map (·.1))[j]? := by
            rw [List.getElem?_map, List.getElem?_map, h2, hel]
            simp [h3, r2]
          have := (List.getElem?_inj (by rw [List.length_map]; exact get_lt h2) nd).1 e1
          subst this
          exact h4
      · refine w_add (by omega) (by omega) ?_
        refine ih (c.x.2.length - (j + 1)) _ _ (by omega) ⟨j + 1, u6, v6, i6, by omega, rfl, f1, f2, f3, f9, f59, f60, rfl, m7, x6.ex x7, s6, hi6, (b6.keep (x7.get _ b6.lt)).congr fun x => ?_⟩
        constructor
        · rintro ⟨j', e', h1, h2⟩
          exact ⟨j', e', by omega, h2⟩
        · rintro ⟨j', e', h1, h2, h3, h4⟩
          by_cases ej : j' = j
          · subst ej
            rw [hel] at h2
            cases h2
            exact absurd h3 r2
          · exact ⟨j', e', by omega, h2, h3, h4⟩
    · refine hj _ h6 u6 v6 i6 f1 f2 f3 f9 m6 x6 s6 hi6 (b6.congr fun x => ?_)
      rw [Rw_mk]
      constructor
      · rintro ⟨j', e', h1, h2, h3, h4⟩
        exact .inr (.inr (.inr (.inl ⟨q, j', (fd_iff nd n j').2 ⟨e', h2, h3⟩, h4⟩)))
      · intro hr
        rcases hr with ⟨h, _⟩ | ⟨h, _⟩ | ⟨h, _⟩ | ⟨_, i', h, h4⟩ | ⟨h, _⟩ | ⟨h, _⟩ | ⟨h, _⟩ | ⟨h, _⟩ | ⟨h, _⟩
        case inr.inr.inr.inl =>
          obtain ⟨e', h2, h3⟩ := (fd_iff nd n i').1 h
          exact ⟨i', e', by have := get_lt h2; omega, h2, h3, h4⟩
        all_goals omega
  refine w_eql (c_dec (fun q => ?_) (fun q5 => ?_))
  · refine w_nilc (w_offP (w_rdP gp3 (v := .slice sa l.length scp) c2 (w_lenSl ?_)))
    refine loopE_intro (fun mm e h6 => ∃ (j : Nat) (u6 : Nat → Prop) (v6 : Value) (i6 : Nat), j ≤ l.length ∧ mm = l.length - j ∧ e 1 = .pointer (some ⟨p, o, none⟩) ∧ e 2 = .int .i64 (a : Nat) ∧ e 3 = .pointer (some ⟨h.length, 0, none⟩) ∧ e 9 = v6 ∧ e 10 = .func (.func 77) #[] #[.pointer (some ⟨h.length, 0, none⟩)] ∧ e 84 = .int .i64 ((l.length : Nat) : Int) ∧ e 85 = .int .i64 (j : Nat) ∧
      MI c u6 h6 ∧ Exx c.M h1 h6 ∧ (∀ j, u6 j → u j ∨ h1.length ≤ j) ∧ h1.length ≤ i6 ∧ BR h6 i6 c.w.length v6 (MSeq (scOf c.x).fd (scOf c.x).T (St c) (l.take j) a)) l.length
      ⟨0, u, v30, h1.length, Nat.zero_le _, rfl, rfl, rfl, rfl, rfl, rfl, rfl, rfl, m3, X3, fun j hj => .inl hj, Nat.le_refl _, b0.congr fun x => by rw [List.take_zero, MSeq]; exact ⟨fun h => h.symm, fun h => h.symm⟩⟩ ?_
    rintro I mm e h6 ⟨j, u6, v6, i6, hj6, hmm, f1, f2, f3, f9, f10, f84, f85, m6, x6, s6, hi6, b6⟩ ih
    rw [f1, f3, f9, f10, f84, f85]
    refine w_lss (c_dec (fun r => ?_) (fun r => ?_))
    · obtain ⟨mj, hmj⟩ := getElem?_of_lt (l := l) (i := j) (by omega)
      obtain ⟨id, off, cap, hsl, pmj⟩ := hsub j mj hmj
      have g16 := x6.some g1 pM
      refine w_rdP g16 (v := .pointer (some ⟨c.r, 0, none⟩)) rfl (w_nilc (w_offP (w_rdP (m6.x.some gp hpM) (v := .slice sa l.length scp) c2 ?_)))
      rw [hsl]
      refine w_some (v := .pointer (some ⟨id, off + j * 3, none⟩)) ?_ ?_
      · show (if 0 ≤ ((j : Nat) : Int) ∧ ((j : Nat) : Int) < ((l.length : Nat) : Int) then some (Value.pointer (some ⟨id, off + ((j : Nat) : Int).toNat * 3, none⟩)) else none) = _
        rw [if_pos (by omega)]
        simp
      refine call77 fun h7 x7 l7 g7 => ⟨idrow g16 (x7.some g16), ?_⟩
      have m7 := m6.ext ok x7
      have hl6 := x6.len
      have hmm2 : ∀ k, a ≤ k → k ≤ c.w.length → MC c mj k := fun k h1 h2 => low mj k h1 h2 (okML_get l okl mj (List.mem_of_getElem? hmj)) (by have := hszl j mj hmj; omega) (.inr (hszl j mj hmj))
      refine on82 ok m7 (b6.keep (x7.get _ b6.lt)) (lo := a) (fun y hy => MSeq_le hy) (way78 (x7.some g16) g7 pM (by omega) pmj hmm2) fun u8 h8 v8 i8 m8 x8 s8 hi8 nu8 b8 => w_add (by omega) (by omega) ?_
      refine ih (l.length - (j + 1)) _ _ (by omega) ⟨j + 1, u8, v8, i8, by omega, rfl, f1, f2, f3, rfl, f10, f84, rfl, m8, (x6.ex x7).trans x8, fun y hy => (s8 y hy).elim (s6 y) fun h => .inr (by omega), by omega, b8.congr fun x => ?_⟩
      rw [take_succ_get hmj]
      exact (MSeq_snoc _ _ _ _).symm
    · refine hj _ h6 u6 v6 i6 f1 f2 f3 f9 m6 x6 s6 hi6 (b6.congr fun x => ?_)
      rw [Rw_mk, List.take_of_length_le (by omega)]
      constructor
      · exact fun h => .inr (.inr (.inr (.inr (.inl ⟨q, h⟩))))
      · intro hr
        rcases hr with ⟨h, _⟩ | ⟨h, _⟩ | ⟨h, _⟩ | ⟨h, _⟩ | ⟨_, h⟩ | ⟨h, _⟩ | ⟨h, _⟩ | ⟨h, _⟩ | ⟨h, _⟩
        case inr.inr.inr.inr.inl => exact h
        all_goals omega
  refine w_eql (c_dec (fun q => ?_) (fun q6 => ?_))
  · refine w_rdP g13 (v := .pointer (some ⟨c.r, 0, none⟩)) rfl ?_
    have gr3 := m3.rdr ok
    rw [hws] at gr3
    refine row66 gr3 (by omega) fun v5 h5 x5 l5 b5 => ?_
    have m5 := m3.ext ok x5
    have X5 : Exx c.M h1 h5 := X3.ex x5
    refine w_nilc (w_offP (w_rdP (m5.x.some gp hpM) (v := .slice sa l.length scp) c2 (w_lenSl ?_)))
    refine loopE_intro (fun mm e h6 => ∃ (j : Nat) (u6 : Nat → Prop), j ≤ l.length ∧ mm = l.length - j ∧ e 1 = .pointer (some ⟨p, o, none⟩) ∧ e 2 = .int .i64 (a : Nat) ∧ e 3 = .pointer (some ⟨h.length, 0, none⟩) ∧ e 9 = v5 ∧ e 108 = .int .i64 ((l.length : Nat) : Int) ∧ e 109 = .int .i64 (j : Nat) ∧
      MI c u6 h6 ∧ Exx c.M h1 h6 ∧ h3.length < h6.length ∧ (∀ j, u6 j → u j ∨ h1.length ≤ j) ∧ ¬ u6 h3.length ∧ BR h6 h3.length c.w.length v5 (MOr (scOf c.x).fd (scOf c.x).T (St c) (l.take j) a)) l.length
      ⟨0, u, Nat.zero_le _, rfl, rfl, rfl, rfl, rfl, rfl, rfl, m5, X5, by omega, fun j hj => .inl hj, fun hu => by have := (m3.ub _ hu).2; omega, b5.congr fun x => by rw [List.take_zero, MOr]⟩ ?_
    rintro I mm e h6 ⟨j, u6, hj6, hmm, f1, f2, f3, f9, f108, f109, m6, x6, l6, s6, nu6, b6⟩ ih
    rw [f1, f2, f3, f9, f108, f109]
    refine w_lss (c_dec (fun r => ?_) (fun r => ?_))
    · obtain ⟨mj, hmj⟩ := getElem?_of_lt (l := l) (i := j) (by omega)
      obtain ⟨id, off, cap, hsl, pmj⟩ := hsub j mj hmj
      have g16 := x6.some g1 pM
      refine w_rdP g16 (v := .pointer (some ⟨c.r, 0, none⟩)) rfl (w_nilc (w_offP (w_rdP (m6.x.some gp hpM) (v := .slice sa l.length scp) c2 ?_)))
      rw [hsl]
      refine w_some (v := .pointer (some ⟨id, off + j * 3, none⟩)) ?_ ?_
      · show (if 0 ≤ ((j : Nat) : Int) ∧ ((j : Nat) : Int) < ((l.length : Nat) : Int) then some (Value.pointer (some ⟨id, off + ((j : Nat) : Int).toNat * 3, none⟩)) else none) = _
        rw [if_pos (by omega)]
        simp
      refine low mj a (Nat.le_refl _) ha (okML_get l okl mj (List.mem_of_getElem? hmj)) (by have := hszl j mj hmj; omega) (.inr (hszl j mj hmj)) u6 h6 _ _ _ m6 pmj fun u7 h7 v7 i7 m7 x7 s7 hu7 b7 => ?_
      have nu7 : ¬ u7 h3.length := fun hu => (s7 _ hu).elim nu6 fun h => by omega
      refine join83 (b6.keep (x7.get _ b6.lt (by omega))) b7 (fun e => nu7 (by rw [e]; exact hu7)) (by omega) fun h8 x8 l8 b8 => w_add (by omega) (by omega) ?_
      have X8 := x6.trans x7
      refine ih (l.length - (j + 1)) _ _ (by omega) ⟨j + 1, u7, by omega, rfl, f1, f2, f3, f9, f108, rfl, m7.set ok (by omega) nu7 x8, ⟨Nat.le_trans X8.len x8.len, fun y hy hyM => ?_⟩, by have := x7.len; omega, fun y hy => (s7 y hy).elim (s6 y) fun h => .inr (by have := x6.len; omega), nu7, b8.congr fun x => ?_⟩
      · rw [x8.get y (Nat.lt_of_lt_of_le hy X8.len) (by omega)]
        exact X8.get y hy hyM
      · rw [take_succ_get hmj]
        exact (MOr_snoc _ _ _ _).symm
    · refine hj _ h6 u6 v5 h3.length f1 f2 f3 f9 m6 x6 s6 (by omega) (b6.congr fun x => ?_)
      rw [Rw_mk, List.take_of_length_le (by omega)]
      constructor
      · exact fun h => .inr (.inr (.inr (.inr (.inr (.inl ⟨q, h⟩)))))
      · intro hr
        rcases hr with ⟨h, _⟩ | ⟨h, _⟩ | ⟨h, _⟩ | ⟨h, _⟩ | ⟨h, _⟩ | ⟨_, h⟩ | ⟨h, _⟩ | ⟨h, _⟩ | ⟨h, _⟩
        case inr.inr.inr.inr.inr.inl => exact h
        all_goals omega
  refine joinE_intro (fun e h4 => e 1 = .pointer (some ⟨p, o, none⟩) ∧ e 2 = .int .i64 (a : Nat) ∧ e 3 = .pointer (some ⟨h.length, 0, none⟩) ∧ e 9 = v30 ∧ e 10 = .func (.func 77) #[] #[.pointer (some ⟨h.length, 0, none⟩)] ∧ e 124 = .bool (decide (kk = 7 ∨ kk = 8 ∨ kk = 9)) ∧ h3 = h4) ?_ ?_
  case refine_2 =>
    intro J1 hJ1
    refine w_eql (c_dec (fun q7 => hJ1 _ _ ⟨rfl, rfl, rfl, rfl, rfl, congrArg Value.bool (decide_eq_decide.2 ⟨fun _ => by omega, fun _ => by omega⟩), rfl⟩) (fun q7 => ?_))
    refine w_eql (c_dec (fun q8 => hJ1 _ _ ⟨rfl, rfl, rfl, rfl, rfl, congrArg Value.bool (decide_eq_decide.2 ⟨fun _ => by omega, fun _ => by omega⟩), rfl⟩) (fun q8 => ?_))
    exact w_eql (hJ1 _ _ ⟨rfl, rfl, rfl, rfl, rfl, congrArg Value.bool (decide_eq_decide.2 ⟨fun _ => by omega, fun _ => by omega⟩), rfl⟩)
  rintro e h4 ⟨f1, f2, f3, f9, f10, f124, rfl⟩
  rw [f124]
  refine c_dec (fun q => ?_) (fun q => ?_)
  rotate_left
  · refine hj _ h3 u v30 h1.length f1 f2 f3 f9 m3 X3 (fun j hj => .inl hj) (Nat.le_refl _) (b0.congr fun x => ?_)
    rw [Rw_mk]
    constructor
    · rintro rfl
      exact .inl ⟨by omega, rfl⟩
    · intro hr
      rcases hr with ⟨_, h⟩ | ⟨h, _⟩ | ⟨h, _⟩ | ⟨h, _⟩ | ⟨h, _⟩ | ⟨h, _⟩ | ⟨h, _⟩ | ⟨h, _⟩ | ⟨h, _⟩
      case inl => exact h.symm
      all_goals omega
  obtain ⟨m0, rfl⟩ : ∃ m0, l = [m0] := by
    rcases cases_ with ⟨h, _⟩ | ⟨h, _⟩ | ⟨h, _⟩ | ⟨_, h, _⟩
    case inr.inr.inr => exact h
    all_goals omega
  have hmj : [m0][0]? = some m0 := rfl
  obtain ⟨id, off, cap, hsl, pmj⟩ := hsub 0 m0 hmj
  have okm0 := okML_get [m0] okl m0 (List.mem_of_getElem? hmj)
  have szm0 := hszl 0 m0 hmj
  have hMC : ∀ k, a ≤ k → k ≤ c.w.length → MC c m0 k := fun k h1 h2 => low m0 k h1 h2 okm0 (by omega) (.inr szm0)
  have rw_ : ∀ x, Rw c (.mk kk n [m0]) a x ↔ (kk = 7 ∧ RT (Rw c m0) a x) ∨ (kk = 8 ∧ ∃ y, Rw c m0 a y ∧ RT (Rw c m0) y x) ∨ (kk = 9 ∧ (a = x ∨ Rw c m0 a x)) := by
    intro x
    rw [Rw_mk, MHd_one]
    constructor
    · intro hr
      rcases hr with ⟨h, _⟩ | ⟨h, _⟩ | ⟨h, _⟩ | ⟨h, _⟩ | ⟨h, _⟩ | ⟨h, _⟩ | h | h | h
      case inr.inr.inr.inr.inr.inr.inl => exact .inl h
      case inr.inr.inr.inr.inr.inr.inr.inl => exact .inr (.inl h)
      case inr.inr.inr.inr.inr.inr.inr.inr => exact .inr (.inr h)
      all_goals omega
    · rintro (h | h | h)
      · exact .inr (.inr (.inr (.inr (.inr (.inr (.inl h))))))
      · exact .inr (.inr (.inr (.inr (.inr (.inr (.inr (.inl h)))))))
      · exact .inr (.inr (.inr (.inr (.inr (.inr (.inr (.inr h)))))))
  rw [f1, f2, f3, f9, f10]
  have t1 : ¬ ¬ (((([m0] : List Mdl).length : Nat) : Int) = 1) := fun h => h rfl
  refine w_nilc (w_offP (w_rdP gp3 (v := .slice sa ([m0] : List Mdl).length scp) c2 (w_lenSl (w_neq (c_ff t1 ?_)))))
  refine w_rdP g13 (v := .pointer (some ⟨c.r, 0, none⟩)) rfl (w_nilc (w_offP (w_rdP gp3 (v := .slice sa ([m0] : List Mdl).length scp) c2 ?_)))
  rw [hsl]
  have ix : pIdxS 3 (.slice (some ⟨id, off, none⟩) ([m0] : List Mdl).length cap) (.int .i64 0) = some (.pointer (some ⟨id, off + 0 * 3, none⟩)) := rfl
  refine w_some ix ?_
  refine hMC a (Nat.le_refl _) ha u h3 _ _ _ m3 pmj fun u5 h5 v5 i5 m5 x5 s5 hu5 b5 => ?_
  refine clone84 b5 (by omega) fun v6 i6 h6 x6 l60 l61 b6 => ?_
  have m6 := m5.ext ok x6
  have X6 : Exx c.M h1 h6 := (X3.trans x5).ex x6
  have l15 := (X3.trans x5).len
  have s6 : ∀ j, u5 j → u j ∨ h1.length ≤ j := fun j hj => (s5 j hj).imp (fun h => h) fun h => by omega
  have nu6 : ¬ u5 i6 := fun hu => by have := (m5.ub _ hu).2; omega
  have b06 : BR h6 h1.length c.w.length v30 (fun x => x = a) := (b0.keep (x5.get _ b0.lt (by omega))).keep (x6.get _ (by have := b0.lt; have := x5.len; omega))
  have nu61 : ¬ u5 h1.length := fun hu => (s5 _ hu).elim nu1 fun h => by omega
  refine w_nilc (w_offP (w_rdP (m6.x.some gp hpM) (v := .int .i64 kk) c0 (w_neq ?_)))
  refine c_dec (fun r9 => ?_) (fun r9 => ?_)
  · have g16 := X6.some g1 pM
    refine w_rdP g16 (v := .pointer (some ⟨c.r, 0, none⟩)) rfl (w_nilc (w_offP (w_rdP (m6.x.some gp hpM) (v := .slice sa ([m0] : List Mdl).length scp) c2 ?_)))
    rw [hsl]
    refine w_some ix ?_
    refine call77 fun h7 x7 l7 g7 => ⟨idrow g16 (x7.some g16), ?_⟩
    have m7 := m6.ext ok x7
    refine often79 ok m7 (b6.keep (x7.get _ l61)) (lo := a) (fun y hy => MR_le hy) (way78 (x7.some g16) g7 pM (by have := X6.len; omega) pmj hMC) (fun a' y _ hy => MR_le hy) fun u8 h8 v8 i8 m8 x8 s8 hi8 nu8 b8 => ?_
    have X8 : Exx c.M h1 h8 := (X6.ex x7).trans x8
    have s8' : ∀ j, u8 j → u j ∨ h1.length ≤ j := fun j hj => (s8 j hj).elim (s6 j) fun h => .inr (by have := X6.len; omega)
    refine w_nilc (w_offP (w_rdP (m8.x.some gp hpM) (v := .int .i64 kk) c0 (w_neq ?_)))
    refine c_dec (fun r8 => ?_) (fun r8 => ?_)
    · have b08 : BR h8 h1.length c.w.length v30 (fun x => x = a) := b06.keep ((x8.get _ (by have := b06.lt; omega) (by omega)).trans (x7.get _ b06.lt))
      refine join83 b8 b08 (by have := X6.len; have := b06.lt; omega) (by omega) fun h9 x9 l9 b9 => ?_
      refine hj _ h9 u8 v8 i8 f1 f2 f3 rfl (m8.set ok (by omega) nu8 x9) ⟨Nat.le_trans X8.len x9.len, fun y hy hyM => ?_⟩ s8' (by have := X6.len; omega) (b9.congr fun x => ?_)
      · rw [x9.get y (Nat.lt_of_lt_of_le hy X8.len) (by have := X6.len; omega)]
        exact X8.get y hy hyM
      · rw [rw_]
        constructor
        · rintro (⟨y, h1, h2⟩ | rfl)
          · exact .inl ⟨by omega, .cons h1 h2⟩
          · exact .inl ⟨by omega, .nil _⟩
        · rintro (⟨_, h⟩ | ⟨h, _⟩ | ⟨h, _⟩)
          · cases h with
            | nil => exact .inr rfl
            | cons h1 h2 => exact .inl ⟨_, h1, h2⟩
          · exact absurd h r8
          · exact absurd h r9
    · have e8 : kk = 8 := Classical.not_not.1 r8
      refine hj _ h8 u8 v8 i8 f1 f2 f3 rfl m8 X8 s8' (by have := X6.len; omega) (b8.congr fun x => ?_)
      rw [rw_]
      constructor
      · exact fun h => .inr (.inl ⟨e8, h⟩)
      · rintro (⟨h, _⟩ | ⟨_, h⟩ | ⟨h, _⟩)
        · omega
        · exact h
        · omega
  · have e9 : kk = 9 := Classical.not_not.1 r9
    have t8 : ¬ (kk = 8) := by omega
    refine w_nilc (w_offP (w_rdP (m6.x.some gp hpM) (v := .int .i64 kk) c0 (w_neq (c_tt t8 ?_))))
    refine join83 b6 b06 (by have := b0.lt; have := x5.len; have := x3.len; omega) (by omega) fun h9 x9 l9 b9 => ?_
    refine hj _ h9 u5 v6 i6 f1 f2 f3 rfl (m6.set ok (by omega) nu6 x9) ⟨Nat.le_trans X6.len x9.len, fun y hy hyM => ?_⟩ s6 (by omega) (b9.congr fun x => ?_)
    · rw [x9.get y (Nat.lt_of_lt_of_le hy X6.len) (by omega)]
      exact X6.get y hy hyM
    · rw [rw_]
      constructor
      · rintro (h | rfl)
        · exact .inr (.inr ⟨e9, .inr h⟩)
        · exact .inr (.inr ⟨e9, .inl rfl⟩)
      · rintro (⟨h, _⟩ | ⟨h, _⟩ | ⟨_, rfl | h⟩)
        · omega
        · omega
        · exact .inr rfl
        · exact .inl h
end Go.Proofs.Ytlenlhlipmkeeaa.W
end

section
/- Schema's laws: the program's Has: whether a schema has a word. Conditions: none. -/
namespace Go.Proofs.Ytlenlhlipmkeeaa.W
open Go Go.AM SchM
set_option linter.unusedVariables false
set_option maxRecDepth 100000
structure Hok (x : W × List (W × Mdl)) : Prop where
  nd : (x.2.map (·.1)).Nodup
  ok : ∀ e ∈ x.2, okM e.2 = true ∧ sz e.2 ≤ 100000000000
  T : x.2.length ≤ 100000000000
abbrev Hs (x : W × List (W × Mdl)) (w : List Int) : Prop := HasW (scOf x) x.1 w
set_option maxHeartbeats 2000000 in
theorem has22 {h : AH} {b : Nat} {x : W × List (W × Mdl)} {v wv : Value} {w : List Int} {K : Value → AH → Prop} (hx : Hok x) (s : SH h b x v) (hw : SlT 1 eI h wv w) (hn : w.length ≤ 100000000000)
    (k : ∀ (t : Bool) h', Ex h h' → (t = true ↔ Hs x w) → K (.bool t) h') : callW Try.prog 22 [v, wv] h K := by
  obtain ⟨root, l⟩ := x
  obtain ⟨a, cp, cs, rfl, sl, on, el⟩ := s
  obtain ⟨wa, wc, rfl⟩ := hw.shape
  have hT := hx.T
  dsimp only at sl on el hT
  refine c22 ?_
  unfold s22
  refine n_boxv rfl fun h1 x1 l1 g1 => ?_
  have g1 : h1[h.length]? = some (.row [.string (bs root), .slice a l.length cp] true) := g1
  refine w_rdPA g1 (Nat.le_refl 2) ?_
  refine n_newv fun h2 x2 l2 g2 => ?_
  refine w_some (v := .agg #[.string (bs root), .slice a l.length cp, .slice wa w.length wc, .map (some h1.length)]) rfl ?_
  refine n_boxv rfl fun h3 x3 l3 g3 => ?_
  have g3 : h3[h2.length]? = some (rdr (.string (bs root)) (.slice a l.length cp) (.slice wa w.length wc) h1.length) := g3
  have X3 : Ex h h3 := x1.trans (x2.trans x3)
  let c : Hc := ⟨h3, h2.length, h1.length, .slice a l.length cp, .slice wa w.length wc, w, (root, l)⟩
  have hG : ∀ j, (b ≤ j ∧ j < h.length) ∧ Wr h j → c.G j := fun j hj => ⟨by show j ≠ h1.length; omega, X3.lt hj.1.2, hj.2.keep (X3.get j hj.1.2)⟩
  have ok : HcOK c := {
    rd := g3
    ls := ⟨a, cp, cs, rfl, sl.ex X3, fun j hj => hG j (on j hj), EL.mono (fun j hj => ⟨X3.get j hj.1.2, hG j hj⟩) _ _ el⟩
    ws := hw.ex X3
    n := hn
    T := hT
    mp := ⟨[], 0, x3.some g2⟩ }
  have m3 : MI c (fun _ => False) h3 := ⟨.refl _ _, ⟨[], 0, x3.some g2, fun e he => by cases he⟩, fun i hi => hi.elim⟩
  have g13 := (x2.trans x3).some g1
  refine w_offP (w_rdP g13 (v := .slice a l.length cp) rfl (w_lenSl ?_))
  refine loopE_intro (fun mm e h4 => ∃ j : Nat, j ≤ l.length ∧ mm = l.length - j ∧ e 1 = .slice wa w.length wc ∧ e 2 = .pointer (some ⟨h.length, 0, none⟩) ∧ e 5 = .pointer (some ⟨h2.length, 0, none⟩) ∧ e 14 = .slice a l.length cp ∧ e 15 = .int .i64 ((l.length : Nat) : Int) ∧ e 16 = .int .i64 (j : Nat) ∧ Ex h3 h4 ∧ ∀ j' e', j' < j → l[j']? = some e' → e'.1 ≠ root) l.length
    ⟨0, Nat.zero_le _, rfl, rfl, rfl, rfl, rfl, rfl, rfl, Ex.refl _, fun j' e' h => by omega⟩ ?_
  rintro I mm e h4 ⟨j, hj, hmm, e1, e2, e5, e14, e15, e16, x4, hno⟩ ih
  rw [e1, e2, e5, e14, e15, e16]
  refine w_lss (c_dec (fun r => ?_) (fun r => ?_))
  · obtain ⟨ee, hel⟩ := getElem?_of_lt (l := l) (i := j) (by omega)
    obtain ⟨id, off, cap, cc, k', n', a', l', cp', hL', gid, idM, hle', ht4, pm'⟩ := elAt (c := c) ok hel
    have hL' : Value.slice a l.length cp = .slice (some ⟨id, off, none⟩) l.length cap := hL'
    rw [hL']
    refine w_some (v := .pointer (some ⟨id, off + j * 4, none⟩)) ?_ ?_
    · show (if 0 ≤ ((j : Nat) : Int) ∧ ((j : Nat) : Int) < ((l.length : Nat) : Int) then some (Value.pointer (some ⟨id, off + ((j : Nat) : Int).toNat * 4, none⟩)) else none) = _
      rw [if_pos (by omega)]
      simp
    refine w_rdPA (x4.some gid) hle' ?_
    rw [ht4]
    refine n_var rfl rfl rfl fun h5 x5 l5 g5 => ?_
    have g5 : h5[h4.length]? = some (.row [.string (bs ee.1), .int .i64 k', .string (bs n'), .slice a' l' cp'] true) := g5
    refine w_offP (w_rdP g5 (v := .string (bs ee.1)) rfl (w_offP (w_rdP ((x4.trans x5).some g13) (v := .string (bs root)) rfl (w_seql ?_))))
    refine c_dec (fun r2 => ?_) (fun r2 => ?_)
    · have m5 := m3.ext ok (x4.trans x5)
      have hmc : 0 < w.length → MC c ee.2 (0 + 1) := fun hlt => model67 ok hx.nd hx.ok _ 1 rfl hlt _ ee.2 rfl (hx.ok ee (List.mem_of_getElem? hel)).2 (hx.ok ee (List.mem_of_getElem? hel)).1
      refine element48 (c := c) ok hel (a := 0) (Nat.zero_le _) hmc _ h5 _ m5 fun u6 h6 v6 i6 m6 x6 s6 hi6 nu6 b6 => ?_
      refine w_lenSl ?_
      refine b6.rd (j := w.length) (Nat.le_refl _) fun t ht => ?_
      refine k t h6 ⟨Nat.le_trans (X3.trans (x4.trans x5)).len x6.len, fun y hy => ?_⟩ (ht.trans ?_)
      · rw [x6.get y (Nat.lt_of_lt_of_le hy (X3.trans (x4.trans x5)).len) (by show y ≠ h1.length; omega)]
        exact (X3.trans (x4.trans x5)).get y hy
      · constructor
        · intro hst
          exact ⟨j, (fd_iff hx.nd root j).2 ⟨ee, hel, r2⟩, by show j < l.length; omega, hst⟩
        · rintro ⟨k1, hf, _, hst⟩
          have := (fd_iff hx.nd root j).2 ⟨ee, hel, r2⟩
          have : (k1 : Int) = (j : Int) := hf.symm.trans this
          have : k1 = j := by omega
          subst this
          exact hst
    · refine w_add (by omega) (by omega) (ih (l.length - (j + 1)) _ _ (by omega) ⟨j + 1, by omega, rfl, e1, e2, e5, e14, e15, rfl, x4.trans x5, fun j' e' h1 h2 => ?_⟩)
      by_cases ej : j' = j
      · subst ej
        rw [hel] at h2
        cases h2
        exact r2
      · exact hno j' e' (by omega) h2
  · refine k false h4 (X3.trans x4) ⟨fun h => absurd h Bool.false_ne_true, ?_⟩
    rintro ⟨k1, hf, _, _⟩
    obtain ⟨e', h1, h2⟩ := (fd_iff hx.nd root k1).1 hf
    have : k1 < l.length := get_lt h1
    exact absurd h2 (hno k1 e' (by omega) h1)
end Go.Proofs.Ytlenlhlipmkeeaa.W
end
