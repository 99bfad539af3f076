/- The document's back: the walk. Conditions: none. -/
import Derived.Test.YtebbjimmgblcpaaQF36
namespace Go.Proofs.Ytebbjimmgblcpaa.W
open Go Go.AM FeedM
set_option linter.unusedVariables false
set_option maxRecDepth 100000

theorem ex_take {α : Type} {l : List α} {i : Nat} {x : α} (h : l[i]? = some x) {P : α → Prop} : (∃ y ∈ l.take (i + 1), P y) ↔ (∃ y ∈ l.take i, P y) ∨ P x := by
  rw [take_succ_get h]
  constructor
  · rintro ⟨y, hy, hp⟩
    rcases List.mem_append.1 hy with hy | hy
    · exact .inl ⟨y, hy, hp⟩
    · rw [List.mem_singleton.1 hy] at hp; exact .inr hp
  · rintro (⟨y, hy, hp⟩ | hp)
    · exact ⟨y, List.mem_append.2 (.inl hy), hp⟩
    · exact ⟨x, by simp, hp⟩
theorem ex_lt {P : Int → Prop} {k : Int} (h : 0 ≤ k) : (∃ p, (0 ≤ p ∧ p < k + 1) ∧ P p) ↔ (∃ p, (0 ≤ p ∧ p < k) ∧ P p) ∨ P k := by
  constructor
  · rintro ⟨p, hp, hP⟩
    by_cases e : p = k
    · exact .inr (e ▸ hP)
    · exact .inl ⟨p, ⟨hp.1, by omega⟩, hP⟩
  · rintro (⟨p, hp, hP⟩ | hP)
    · exact ⟨p, ⟨hp.1, by omega⟩, hP⟩
    · exact ⟨k, ⟨h, by omega⟩, hP⟩

def lvC (i : Nat) (n b : Int) : List Value := [slB i n, .int .i64 b]

theorem mkLv {h : AH} {p : Nat} {n b : Int} {x : Value} {K : (Nat × Nat × List Value) → Nat → Value → Value → Value → Value → AH → Prop} (hN : N3 n) (hp : h[p]? = some (.row [x, .int .i64 b] true))
    (k : ∀ h23, Ex h h23 → h23.length = h.length + 2 → RowAt h23 h.length n (fun _ => False) → h23[h.length + 1]? = some (.row (lvC h.length n b) true) → ∀ c i a1 a2 a3, K c i a1 a2 a3 (.pointer (some ⟨h.length + 1, 0, none⟩)) h23) :
    optW (mkSl 1 1 [(.bool false)] (.int .i64 (n * n)) (.int .i64 (n * n))) fun c_1 =>
    newW (some (h.length)) (.row c_1.2.2 true) (reserve 2 h) fun i_1 h_21 =>
    optW (pOff 1 (.pointer (some ⟨p, 0, none⟩))) fun v89 =>
    (∀ x ∈ (idOf v89), ((reserve 2 h) : AH)[x]? = (h_21 : AH)[x]?) ∧
    optW (rdRow false 1 v89 h_21) fun v90 =>
    optW (bld [(.slice none 0 0), (.int .i64 0)] [(0, 1), (1, 1)] [(0, (.slice (some ⟨i_1, 0, none⟩) c_1.1 c_1.2.1)), (1, v90)]) fun v91 =>
    newR (some (h.length + 1)) [(.slice none 0 0), (.int .i64 0)] h_21 fun v12 h_22 =>
    optW (pStore 2 v12 v91 h_22) fun h_23 => K c_1 i_1 v89 v90 v91 v12 h_23 := by
  have hlt := lt_of_get hp
  refine w_mkB hN ?_
  refine n_slot ?_
  have er : reserve 2 h = (h ++ [.dead]) ++ [.dead] := rfl
  have x0 : Ex h (reserve 2 h) := by rw [er]; exact (Ex.app _ _).trans (.app _ _)
  have l0 : (reserve 2 h).length = h.length + 2 := by rw [er]; simp
  generalize reserve 2 h = h0 at *
  have x1 : Ex h (h0.set h.length (.row (flat eBo (List.replicate (n * n).toNat false)) true)) := x0.set (Nat.le_refl _) _
  refine w_offP ⟨idrow (x0.some hp) (x1.some hp), ?_⟩
  refine w_rdP (x1.some hp) (v := .int .i64 b) rfl ?_
  refine w_some (v := .agg (lvC h.length n b).toArray) rfl ?_
  have x2 := x1.set (Nat.le_succ _) (i := h.length + 1) (.row [(.slice none 0 0), (.int .i64 0)] true)
  refine w_stPA (c := [(.slice none 0 0), (.int .i64 0)]) (get_set _ (by simp [l0]) _) rfl (Nat.le_refl 2) rfl ?_
  have hs : ∀ (o o' : AObj), ((((h0.set h.length (.row (flat eBo (List.replicate (n * n).toNat false)) true)).set (h.length + 1) o).set (h.length + 1) o')[h.length]? = some (.row (flat eBo (List.replicate (n * n).toNat false)) true)) := fun o o' => by
    rw [get_ne (by omega), get_ne (by omega), get_set _ (by omega)]
  refine k _ (x2.set (Nat.le_succ _) _) (by simp [l0]) (RowAt.zero (hs _ _)) (get_set _ (by simp [l0]) _) _ _ _ _ _
end Go.Proofs.Ytebbjimmgblcpaa.W
