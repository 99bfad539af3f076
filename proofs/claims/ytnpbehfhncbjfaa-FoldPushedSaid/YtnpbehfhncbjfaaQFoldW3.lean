/- FoldPushed's walk. Conditions: none. -/
import Derived.Test.YtnpbehfhncbjfaaQFoldW1
namespace Go.Proofs.Ytnpbehfhncbjfaa.W
open Go Go.AM
set_option maxRecDepth 100000
theorem pushed_tt : callB Try.prog noOrc 10000 30 9 [.bool true, .bool true] hs0 (fun v _ => isTrueV v) = true := by kernel_rfl
theorem pushed_tf : callB Try.prog noOrc 10000 30 9 [.bool true, .bool false] hs0 (fun v _ => isTrueV v) = true := by kernel_rfl
theorem pushed_ft : callB Try.prog noOrc 10000 30 9 [.bool false, .bool true] hs0 (fun v _ => isTrueV v) = true := by kernel_rfl
theorem pushed_ff : callB Try.prog noOrc 10000 30 9 [.bool false, .bool false] hs0 (fun v _ => isTrueV v) = true := by kernel_rfl
theorem foldPushed_walk (h : AH) (a b : Bool) (hh : h = []) : callW Try.prog 9 [.bool a, .bool b] h fun v _ => v = .bool true := by
  subst hh
  cases a <;> cases b
  · exact run_true noOrc_ok pushed_ff
  · exact run_true noOrc_ok pushed_ft
  · exact run_true noOrc_ok pushed_tf
  · exact run_true noOrc_ok pushed_tt
end Go.Proofs.Ytnpbehfhncbjfaa.W
