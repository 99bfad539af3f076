/- Parts of a proof, joined by a program. Conditions: none. -/
import Derived.Test.YtlenlhlipmkeeaaRA2
import Derived.Test.YtlenlhlipmkeeaaProg

section
/- Go functions, printed by a program as predicates on what may come behind; each is the function. Conditions: none. -/
namespace Go.Proofs.Ytlenlhlipmkeeaa.W
open Go Go.AM
set_option linter.unusedVariables false
set_option maxRecDepth 100000


/-- canopy/canopylaw8.within () -/
def s15 (X : CallT) (a0 a1 : Value) (h : AH) (K : Value → AH → Prop) : Prop :=
  optW (pBin Try.prog .rem 3 a0 a1) fun v8 =>
  optW (pBin Try.prog .lss 3 v8 (.int .i64 0)) fun v10 =>
  condW v10 (
    optW (pBin Try.prog .add 3 v8 a1) fun v13 =>
    K v13 h
  ) (
    K v8 h)
theorem e15 (X : CallT) (a0 a1 : Value) (h : AH) (K : Value → AH → Prop) : cwp2 Try.prog X (Try.f15.body.getD .skip) (endW Try.prog Try.f15 K) (envOf [a0, a1]) h = s15 X a0 a1 h K := by kernel_rfl
theorem c15 {a0 a1 : Value} {h : AH} {K : Value → AH → Prop} (hs : s15 (callW Try.prog) a0 a1 h K) : callW Try.prog 15 [a0, a1] h K := callW_of Try.func15 (by kernel_rfl) (Eq.mpr (e15 _ a0 a1 _ _) hs)

end Go.Proofs.Ytlenlhlipmkeeaa.W
end

section
/- Go functions, printed by a program as predicates on what may come behind; each is the function. Conditions: none. -/
namespace Go.Proofs.Ytlenlhlipmkeeaa.W
open Go Go.AM
set_option linter.unusedVariables false
set_option maxRecDepth 100000


/-- canopy/canopylaw8.SchemaKnown () -/
def s5 (X : CallT) (a0 : Value) (h : AH) (K : Value → AH → Prop) : Prop :=
  X 12 [] h fun v10 h_1 =>
  optW (pUn .not v10) fun v11 =>
  condW v11 (
    K (.bool false) h_1
  ) (
    optW (bldSl 1 [(.string (bs []))] 20 [(0, (.string (bs []))), (1, (.string (bs [114, 111, 111, 116]))), (2, (.string (bs [114, 111, 111, 116, 32, 97]))), (3, (.string (bs [114, 111, 111, 116, 32, 97, 59]))), (4, (.string (bs [114, 111, 111, 116, 32, 97, 59, 32, 101, 108, 101, 109, 101, 110, 116]))), (5, (.string (bs [114, 111, 111, 116, 32, 97, 59, 32, 101, 108, 101, 109, 101, 110, 116, 32, 97]))), (6, (.string (bs [114, 111, 111, 116, 32, 97, 59, 32, 101, 108, 101, 109, 101, 110, 116, 32, 97, 32, 61]))), (7, (.string (bs [114, 111, 111, 116, 32, 97, 59, 32, 101, 108, 101, 109, 101, 110, 116, 32, 97, 32, 61, 32, 59]))), (8, (.string (bs [114, 111, 111, 116, 32, 97, 59, 32, 101, 108, 101, 109, 101, 110, 116, 32, 97, 32, 61, 32, 101, 109, 112, 116, 121]))), (9, (.string (bs [114, 111, 111, 116, 32, 97, 59, 32, 101, 108, 101, 109, 101, 110, 116, 32, 97, 32, 61, 32, 98, 59]))), (10, (.string (bs [114, 111, 111, 116, 32, 98, 59, 32, 101, 108, 101, 109, 101, 110, 116, 32, 97, 32, 61, 32, 97, 59]))), (11, (.string (bs [114, 111, 111, 116, 32, 97, 59, 32, 101, 108, 101, 109, 101, 110, 116, 32, 97, 32, 61, 32, 97, 59, 32, 101, 108, 101, 109, 101, 110, 116, 32, 97, 32, 61, 32, 97, 59]))), (12, (.string (bs [114, 111, 111, 116, 32, 97, 110, 121, 59, 32, 101, 108, 101, 109, 101, 110, 116, 32, 97, 32, 61, 32, 97, 59]))), (13, (.string (bs [114, 111, 111, 116, 32, 97, 59, 32, 101, 108, 101, 109, 101, 110, 116, 32, 97, 32, 61, 32, 97, 42, 42, 59]))), (14, (.string (bs [114, 111, 111, 116, 32, 97, 59, 32, 101, 108, 101, 109, 101, 110, 116, 32, 97, 32, 61, 32, 97, 44, 59]))), (15, (.string (bs [114, 111, 111, 116, 32, 97, 59, 32, 101, 108, 101, 109, 101, 110, 116, 32, 97, 32, 61, 32, 40, 97, 59]))), (16, (.string (bs [114, 111, 111, 116, 32, 97, 59, 32, 101, 108, 101, 109, 101, 110, 116, 32, 97, 32, 61, 32, 97, 41, 59]))), (17, (.string (bs [82, 111, 111, 116, 32, 97, 59]))), (18, (.string (bs [114, 111, 111, 116, 32, 97, 59, 32, 101, 108, 101, 109, 101, 110, 116, 115, 32, 97, 32, 61, 32, 97, 59]))), (19, (.string (bs [114, 111, 111, 116, 32, 97, 98, 99, 100, 101, 102, 103, 104, 105, 59])))]) fun c =>
    newW none (.row c true) h_1 fun i h_2 =>
    optW (bldSl 1 [(.int .i64 0)] 20 [(0, (.int .i64 0)), (1, (.int .i64 4)), (2, (.int .i64 6)), (3, (.int .i64 0)), (4, (.int .i64 15)), (5, (.int .i64 17)), (6, (.int .i64 19)), (7, (.int .i64 20)), (8, (.int .i64 25)), (9, (.int .i64 0)), (10, (.int .i64 0)), (11, (.int .i64 31)), (12, (.int .i64 5)), (13, (.int .i64 22)), (14, (.int .i64 22)), (15, (.int .i64 22)), (16, (.int .i64 21)), (17, (.int .i64 0)), (18, (.int .i64 8)), (19, (.int .i64 5))]) fun c_1 =>
    newW none (.row c_1 true) h_2 fun i_1 h_3 =>
    optW (bldSl 1 [(.int .i64 0)] 20 [(0, (.int .i64 1)), (1, (.int .i64 1)), (2, (.int .i64 1)), (3, (.int .i64 6)), (4, (.int .i64 1)), (5, (.int .i64 1)), (6, (.int .i64 1)), (7, (.int .i64 1)), (8, (.int .i64 1)), (9, (.int .i64 6)), (10, (.int .i64 6)), (11, (.int .i64 5)), (12, (.int .i64 1)), (13, (.int .i64 1)), (14, (.int .i64 1)), (15, (.int .i64 1)), (16, (.int .i64 1)), (17, (.int .i64 1)), (18, (.int .i64 1)), (19, (.int .i64 1))]) fun c_2 =>
    newW none (.row c_2 true) h_3 fun i_2 h_4 =>
    optW (lenSl (.slice (some ⟨i, 0, none⟩) 20 20)) fun v17 =>
    X 15 [a0, v17] h_4 fun v18 h_5 =>
    optW (pIdxS 1 (.slice (some ⟨i, 0, none⟩) 20 20) v18) fun v22 =>
    optW (rdRow false 1 v22 h_5) fun v23 =>
    X 17 [v23] h_5 fun v24 h_6 =>
    optW (pExtract v24 0) fun v25 =>
    optW (pExtract v24 1) fun v26 =>
    optW (pExtract v24 2) fun v27 =>
    newR none [(.string (bs [])), (.slice none 0 0)] h_6 fun v7 h_7 =>
    optW (pStore 2 v7 v25 h_7) fun h_8 =>
    optW (pIdxS 1 (.slice (some ⟨i_2, 0, none⟩) 20 20) v18) fun v31 =>
    optW (rdRow false 1 v31 h_8) fun v32 =>
    optW (pBin Try.prog .eql 32 v27 v32) fun v33 =>
    gopW (gB v33 true) (fun k =>
      k v26 h_8) h_8 fun v35 h_9 =>
    gopW (gB v33 true) (fun k_1 =>
      k_1 (.slice (some ⟨i_1, 0, none⟩) 20 20) h_9) h_9 fun v36 h_10 =>
    gopW (gB v33 true) (fun k_2 =>
      k_2 v18 h_10) h_10 fun v37 h_11 =>
    gopW (gB v33 true) (fun k_3 =>
      optW (pIdxS 1 v36 v37) fun v38_1 =>
      k_3 v38_1 h_11) h_11 fun v38 h_12 =>
    gopW (gB v33 true) (fun k_4 =>
      optW (rdRow false 1 v38 h_12) fun v39_1 =>
      k_4 v39_1 h_12) h_12 fun v39 h_13 =>
    gopW (gB v33 true) (fun k_5 =>
      optW (pBin Try.prog .eql 3 v35 v39) fun v40_1 =>
      k_5 v40_1 h_13) h_13 fun v40 h_14 =>
    optW (pPick v33 v40 (.bool false)) fun v41 =>
    gopW (gB v41 true) (fun k_6 =>
      optW (pOff 1 v7) fun v43_1 =>
      k_6 v43_1 h_14) h_14 fun v43 h_15 =>
    gopW (gB v41 true) (fun k_7 =>
      optW (rdRow false 1 v43 h_15) fun v44_1 =>
      k_7 v44_1 h_15) h_15 fun v44 h_16 =>
    gopW (gB v41 true) (fun k_8 =>
      optW (lenSl v44) fun v45_1 =>
      k_8 v45_1 h_16) h_16 fun v45 h_17 =>
    gopW (gB v41 true) (fun k_9 =>
      optW (pBin Try.prog .eql 3 v45 (.int .i64 0)) fun v46_1 =>
      k_9 v46_1 h_17) h_17 fun v46 h_18 =>
    optW (pPick v41 v46 (.bool false)) fun v47 =>
    K v47 h_18)
theorem e5 (X : CallT) (a0 : Value) (h : AH) (K : Value → AH → Prop) : cwp2 Try.prog X (Try.f5.body.getD .skip) (endW Try.prog Try.f5 K) (envOf [a0]) h = s5 X a0 h K := by kernel_rfl
theorem c5 {a0 : Value} {h : AH} {K : Value → AH → Prop} (hs : s5 (callW Try.prog) a0 h K) : callW Try.prog 5 [a0] h K := callW_of Try.func5 (by kernel_rfl) (Eq.mpr (e5 _ a0 _ _) hs)

end Go.Proofs.Ytlenlhlipmkeeaa.W
end
