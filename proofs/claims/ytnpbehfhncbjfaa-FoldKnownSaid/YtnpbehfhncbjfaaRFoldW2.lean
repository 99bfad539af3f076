/- FoldKnown's walk. Conditions: none. -/
import Derived.Test.YtnpbehfhncbjfaaRFoldW2r
import Derived.Test.YtnpbehfhncbjfaaRS1
namespace Go.Proofs.Ytnpbehfhncbjfaa.W
open Go Go.AM
set_option maxRecDepth 100000
theorem within16_inv (a n : Int) (h : AH) (K : Value → AH → Prop) (h0 : 0 ≤ a) (h1 : a < n) (hc : callW Try.prog 16 [.int .i64 a, .int .i64 n] h K) : K (.int .i64 a) h := by
  have h2 := callW_body Try.func16 hc
  rw [e16] at h2
  unfold s16 at h2
  have e : pBin Try.prog .rem 3 (.int .i64 a) (.int .i64 n) = some (.int .i64 a) := by
    show (if IntKind.i64 = IntKind.i64 then pBinI .rem .i64 a n else none) = _
    rw [if_pos rfl, pBinI, if_neg (by omega), Int.tmod_eq_of_lt h0 h1]
  have e2 : pBin Try.prog .lss 3 (.int .i64 a) (.int .i64 0) = some (.bool false) := by
    show (if IntKind.i64 = IntKind.i64 then pBinI .lss .i64 a 0 else none) = _
    rw [if_pos rfl, pBinI, decide_eq_false (by omega)]
  rw [e, optW_some, e2, optW_some] at h2
  exact h2

theorem s8_at (a i : Int) (h : AH) (K : Value → AH → Prop) : s8 (callX Try.prog 16 [.int .i64 a, .int .i64 4] [.int .i64 i, .int .i64 4]) (.int .i64 a) h K = s8 (callW Try.prog) (.int .i64 i) h K := by
  unfold s8
  simp only [callX_eq, callX_ne (show (13 : Nat) ≠ 16 by decide), callX_ne (show (29 : Nat) ≠ 16 by decide), callX_ne (show (18 : Nat) ≠ 16 by decide), callX_ne (show (24 : Nat) ≠ 16 by decide), callX_ne (show (23 : Nat) ≠ 16 by decide)]

theorem foldKnown_walk (h : AH) (a : Int) (_ : -9223372036854775808 ≤ a ∧ a ≤ 9223372036854775807) (hh : h = []) : callW Try.prog 8 [.int .i64 a] h fun v _ => v = .bool true := by
  subst hh
  have h0 := Int.emod_nonneg a (show (4 : Int) ≠ 0 by decide)
  have h1 := Int.emod_lt_of_pos a (show (0 : Int) < 4 by decide)
  refine split_within (S := s8) (n := 4) Try.func8 (by kernel_rfl) e8 (fun a h K hk => within16 a 4 h K (by decide) (by decide) hk) (fun i h K q1 q2 q3 => within16_inv i 4 h K q1 q2 q3) a (a % 4) (s8_at _ _ _ _) h0 h1 rfl ?_
  generalize a % 4 = r at *
  have : r = 0 ∨ r = 1 ∨ r = 2 ∨ r = 3 := by omega
  rcases this with rfl | rfl | rfl | rfl
  · exact run_true noOrc_ok known_0
  · exact run_true noOrc_ok known_1
  · exact run_true noOrc_ok known_2
  · exact run_true noOrc_ok known_3
end Go.Proofs.Ytnpbehfhncbjfaa.W
