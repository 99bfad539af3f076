/- Rows of truths, by pairs of states. Conditions: none. -/
import Derived.Test.YtebbjimmgblcpaaQF35
namespace Go.Proofs.Ytebbjimmgblcpaa.W
open Go Go.AM FeedM
set_option linter.unusedVariables false
set_option maxRecDepth 100000

abbrev N3 (n : Int) : Prop := 1 ≤ n ∧ n ≤ 3
theorem n3 {n : Int} (h : N3 n) : n = 1 ∨ n = 2 ∨ n = 3 := by have := h.1; have := h.2; omega
theorem pq_in {n p q : Int} (h : N3 n) (hp : 0 ≤ p ∧ p < n) (hq : 0 ≤ q ∧ q < n) : 0 ≤ p * n + q ∧ p * n + q < n * n := by
  rcases n3 h with rfl | rfl | rfl <;> omega
theorem pq_inj {n p q p' q' : Int} (h : N3 n) (hp : 0 ≤ p ∧ p < n) (hq : 0 ≤ q ∧ q < n) (hp' : 0 ≤ p' ∧ p' < n) (hq' : 0 ≤ q' ∧ q' < n) (he : (p * n + q).toNat = (p' * n + q').toNat) : p = p' ∧ q = q' := by
  rcases n3 h with rfl | rfl | rfl <;> omega
theorem nn_b {n : Int} (h : N3 n) : 1 ≤ n * n ∧ n * n ≤ 9 := by rcases n3 h with rfl | rfl | rfl <;> omega
theorem pn_b {n p : Int} (h : N3 n) (hp : 0 ≤ p ∧ p < n) : 0 ≤ p * n ∧ p * n ≤ 9 := by rcases n3 h with rfl | rfl | rfl <;> omega

def slB (i : Nat) (n : Int) : Value := .slice (some ⟨i, 0, none⟩) (n * n).toNat (n * n).toNat
/-- a row of truths tells a set of pairs. -/
def RowAt (h : AH) (i : Nat) (n : Int) (D : Row) : Prop := ∃ bl : List Bool, h[i]? = some (.row (flat eBo bl) true) ∧ bl.length = (n * n).toNat ∧ ∀ p q : Int, (0 ≤ p ∧ p < n) → (0 ≤ q ∧ q < n) → (bl[(p * n + q).toNat]? = some true ↔ D (p, q))

theorem RowAt.keep {h h' : AH} {i : Nat} {n : Int} {D : Row} (r : RowAt h i n D) (hh : h'[i]? = h[i]?) : RowAt h' i n D := by
  obtain ⟨bl, h1, h2⟩ := r
  exact ⟨bl, hh.trans h1, h2⟩
theorem RowAt.ex {h h' : AH} {i : Nat} {n : Int} {D : Row} (r : RowAt h i n D) (x : Ex h h') : RowAt h' i n D := by
  obtain ⟨bl, h1, h2⟩ := r
  exact ⟨bl, x.some h1, h2⟩
theorem RowAt.lt {h : AH} {i : Nat} {n : Int} {D : Row} (r : RowAt h i n D) : i < h.length := by
  obtain ⟨bl, h1, h2⟩ := r
  exact lt_of_get h1
theorem RowAt.imp {h : AH} {i : Nat} {n : Int} {D D' : Row} (r : RowAt h i n D) (hd : ∀ p q : Int, (0 ≤ p ∧ p < n) → (0 ≤ q ∧ q < n) → (D (p, q) ↔ D' (p, q))) : RowAt h i n D' := by
  obtain ⟨bl, h1, h2, h3⟩ := r
  exact ⟨bl, h1, h2, fun p q hp hq => (h3 p q hp hq).trans (hd p q hp hq)⟩

theorem RowAt.get {h : AH} {i : Nat} {n : Int} {D : Row} (hN : N3 n) (r : RowAt h i n D) {p q : Int} (hp : 0 ≤ p ∧ p < n) (hq : 0 ≤ q ∧ q < n) :
    ∃ bl b, SlT 1 eBo h (slB i n) bl ∧ bl[(p * n + q).toNat]? = some b ∧ (b = true ↔ D (p, q)) := by
  obtain ⟨bl, h1, h2, h3⟩ := r
  have hin := pq_in hN hp hq
  have nb := nn_b hN
  obtain ⟨b, hb⟩ := getElem?_of_lt (l := bl) (i := (p * n + q).toNat) (by omega)
  refine ⟨bl, b, ⟨flat_length eBo_len bl, .inr ⟨i, 0, (n * n).toNat, by unfold slB; rw [h2], .inl ⟨?_, by omega⟩, .inr ⟨_, true, h1, ?_, ?_⟩⟩⟩, hb, ?_⟩
  · have : (100 : Nat) < openCap := by decide
    omega
  · rw [flat_length eBo_len]; omega
  · rw [List.drop_zero, ← flat_length eBo_len bl, List.take_length]
  · rw [← h3 p q hp hq, hb]
    constructor
    · rintro rfl; rfl
    · intro h; exact Option.some.inj h

/-- all but one object stay. -/
structure Exx (i : Nat) (a b : AH) : Prop where
  len : a.length ≤ b.length
  get : ∀ j, j < a.length → j ≠ i → b[j]? = a[j]?
theorem Exx.refl (i : Nat) (a : AH) : Exx i a a := ⟨Nat.le_refl _, fun _ _ _ => rfl⟩
theorem Exx.ex {i : Nat} {a b c : AH} (x : Exx i a b) (y : Ex b c) : Exx i a c := ⟨Nat.le_trans x.len y.len, fun j hj hi => (y.get j (Nat.lt_of_lt_of_le hj x.len)).trans (x.get j hj hi)⟩
theorem Exx.trans {i : Nat} {a b c : AH} (x : Exx i a b) (y : Exx i b c) : Exx i a c := ⟨Nat.le_trans x.len y.len, fun j hj hi => (y.get j (Nat.lt_of_lt_of_le hj x.len) hi).trans (x.get j hj hi)⟩
theorem Exx.base {i : Nat} {h a b : AH} (x : Ex h a) (y : Exx i a b) (hi : h.length ≤ i) : Ex h b := ⟨Nat.le_trans x.len y.len, fun j hj => (y.get j (Nat.lt_of_lt_of_le hj x.len) (by omega)).trans (x.get j hj)⟩
theorem Exx.some {i : Nat} {a b : AH} (x : Exx i a b) {j : Nat} {o : AObj} (h : a[j]? = some o) (hj : j ≠ i) : b[j]? = some o := (x.get j (lt_of_get h) hj).trans h

theorem w_idxP {i : Nat} {n : Int} {kd : IntKind} {k : Int} {K : Value → Prop} (h0 : 0 ≤ k) (h1 : k < n * n) (hk : K (.pointer (some ⟨i, k.toNat, none⟩))) : optW (pIdxS 1 (slB i n) (.int kd k)) K := by
  refine w_some (v := .pointer (some ⟨i, 0 + k.toNat * 1, none⟩)) ?_ ?_
  · unfold pIdxS slB
    dsimp only
    rw [if_pos ⟨h0, by omega⟩]
  · have : 0 + k.toNat * 1 = k.toNat := by omega
    rw [this]
    exact hk

theorem flat_set (bl : List Bool) (k : Nat) : (flat eBo bl).set k (.bool true) = flat eBo (bl.set k true) := by
  induction bl generalizing k with
  | nil => cases k <;> rfl
  | cons b bl ih =>
    cases k with
    | zero => rfl
    | succ k => exact congrArg (Value.bool b :: ·) (ih k)

theorem RowAt.put {h : AH} {i : Nat} {n : Int} {D : Row} {K : AH → Prop} (hN : N3 n) (r : RowAt h i n D) {p q : Int} (hp : 0 ≤ p ∧ p < n) (hq : 0 ≤ q ∧ q < n)
    (k : ∀ h', Exx i h h' → h'.length = h.length → RowAt h' i n (fun x => D x ∨ x = (p, q)) → K h') : optW (pStore 1 (.pointer (some ⟨i, (p * n + q).toNat, none⟩)) (.bool true) h) K := by
  obtain ⟨bl, h1, h2, h3⟩ := r
  have hin := pq_in hN hp hq
  have hl := lt_of_get h1
  refine w_stP h1 (by rw [flat_length eBo_len]; omega) rfl rfl ?_
  refine k _ ⟨by simp, fun j hj hji => get_ne (Ne.symm hji) _⟩ (by simp) ⟨bl.set (p * n + q).toNat true, by rw [get_set _ hl, flat_set], by simpa using h2, fun p' q' hp' hq' => ?_⟩
  by_cases e : (p * n + q).toNat = (p' * n + q').toNat
  · obtain ⟨rfl, rfl⟩ := pq_inj hN hp hq hp' hq' e
    rw [List.getElem?_set_self (by omega)]
    exact ⟨fun _ => .inr rfl, fun _ => rfl⟩
  · rw [List.getElem?_set_ne e, h3 p' q' hp' hq']
    constructor
    · exact .inl
    · rintro (h | h)
      · exact h
      · have e1 : p' = p := congrArg Prod.fst h
        have e2 : q' = q := congrArg Prod.snd h
        subst e1 e2
        exact (e rfl).elim

theorem repL_false (k : Nat) : repL [.bool false] k = flat eBo (List.replicate k false) := by
  induction k with
  | zero => rfl
  | succ k ih =>
    show [.bool false] ++ repL [.bool false] k = _
    rw [ih]
    rfl

theorem w_mkB {n : Int} {K : Nat × Nat × List Value → Prop} (hN : N3 n) (k : K ((n * n).toNat, (n * n).toNat, flat eBo (List.replicate (n * n).toNat false))) : optW (mkSl 1 1 [(.bool false)] (.int .i64 (n * n)) (.int .i64 (n * n))) K := by
  have nb := nn_b hN
  have hr : (1000000 : Nat) < room40 := by decide
  refine w_some (v := ((n * n).toNat, (n * n).toNat, repL [.bool false] (n * n).toNat)) ?_ (by rw [repL_false]; exact k)
  unfold mkSl
  dsimp only
  rw [if_pos ⟨by omega, by omega, by omega, by decide, rfl⟩]

theorem RowAt.zero {h : AH} {i : Nat} {n : Int} (h1 : h[i]? = some (.row (flat eBo (List.replicate (n * n).toNat false)) true)) : RowAt h i n (fun _ => False) :=
  ⟨_, h1, by simp, fun p q hp hq => by
    constructor
    · intro h
      rw [List.getElem?_replicate] at h
      split at h
      · cases h
      · cases h
    · exact False.elim⟩
end Go.Proofs.Ytebbjimmgblcpaa.W
