/- Parts of a proof, joined by a program. Conditions: none. -/
import Derived.Test.YtlenlhlipmkeeaaRA2
import Derived.Test.YtlenlhlipmkeeaaProg

section
/- Go functions, printed by a program as predicates on what may come behind; each is the function. Conditions: none. -/
namespace Go.Proofs.Ytlenlhlipmkeeaa.W
open Go Go.AM
set_option linter.unusedVariables false
set_option maxRecDepth 100000


/-- canopy/canopylaw8.within () -/
def s15 (X : CallT) (a0 a1 : Value) (h : AH) (K : Value → AH → Prop) : Prop :=
  optW (pBin Try.prog .rem 3 a0 a1) fun v8 =>
  optW (pBin Try.prog .lss 3 v8 (.int .i64 0)) fun v10 =>
  condW v10 (
    optW (pBin Try.prog .add 3 v8 a1) fun v13 =>
    K v13 h
  ) (
    K v8 h)
theorem e15 (X : CallT) (a0 a1 : Value) (h : AH) (K : Value → AH → Prop) : cwp2 Try.prog X (Try.f15.body.getD .skip) (endW Try.prog Try.f15 K) (envOf [a0, a1]) h = s15 X a0 a1 h K := by kernel_rfl
theorem c15 {a0 a1 : Value} {h : AH} {K : Value → AH → Prop} (hs : s15 (callW Try.prog) a0 a1 h K) : callW Try.prog 15 [a0, a1] h K := callW_of Try.func15 (by kernel_rfl) (Eq.mpr (e15 _ a0 a1 _ _) hs)

end Go.Proofs.Ytlenlhlipmkeeaa.W
end

section
/- Go functions, printed by a program as predicates on what may come behind; each is the function. Conditions: none. -/
namespace Go.Proofs.Ytlenlhlipmkeeaa.W
open Go Go.AM
set_option linter.unusedVariables false
set_option maxRecDepth 100000


/-- canopy/canopylaw8.SchemaForms () -/
def s7 (X : CallT) (a0 : Value) (h : AH) (K : Value → AH → Prop) : Prop :=
  X 12 [] h fun v9 h_1 =>
  optW (pUn .not v9) fun v10 =>
  condW v10 (
    K (.bool false) h_1
  ) (
    optW (bldSl 1 [(.string (bs []))] 8 [(0, (.string (bs [114, 111, 111, 116, 32, 97, 59, 101, 108, 101, 109, 101, 110, 116, 32, 97, 61, 101, 109, 112, 116, 121, 59]))), (1, (.string (bs [114, 111, 111, 116, 32, 32, 97, 32, 59, 10, 101, 108, 101, 109, 101, 110, 116, 32, 97, 32, 61, 32, 40, 32, 116, 101, 120, 116, 32, 41, 32, 59]))), (2, (.string (bs [114, 111, 111, 116, 32, 97, 59, 101, 108, 101, 109, 101, 110, 116, 32, 97, 61, 40, 97, 124, 116, 101, 120, 116, 41, 44, 97, 110, 121, 42, 59]))), (3, (.string (bs [114, 111, 111, 116, 32, 97, 59, 101, 108, 101, 109, 101, 110, 116, 32, 97, 61, 40, 97, 44, 97, 41, 44, 97, 59]))), (4, (.string (bs [114, 111, 111, 116, 32, 97, 59, 101, 108, 101, 109, 101, 110, 116, 32, 97, 61, 40, 40, 97, 124, 97, 41, 41, 124, 97, 59]))), (5, (.string (bs [114, 111, 111, 116, 32, 97, 59, 101, 108, 101, 109, 101, 110, 116, 32, 97, 61, 40, 97, 42, 41, 42, 59]))), (6, (.string (bs [114, 111, 111, 116, 32, 97, 59, 101, 108, 101, 109, 101, 110, 116, 32, 97, 61, 40, 97, 44, 97, 41, 43, 124, 116, 101, 120, 116, 63, 59]))), (7, (.string (bs [114, 111, 111, 116, 32, 97, 59, 101, 108, 101, 109, 101, 110, 116, 32, 97, 61, 40, 97, 124, 97, 41, 44, 40, 97, 44, 97, 41, 42, 59])))]) fun c =>
    newW none (.row c true) h_1 fun i h_2 =>
    optW (bldSl 1 [(.string (bs []))] 8 [(0, (.string (bs [114, 111, 111, 116, 32, 97, 59, 32, 101, 108, 101, 109, 101, 110, 116, 32, 97, 32, 61, 32, 101, 109, 112, 116, 121, 59]))), (1, (.string (bs [114, 111, 111, 116, 32, 97, 59, 32, 101, 108, 101, 109, 101, 110, 116, 32, 97, 32, 61, 32, 116, 101, 120, 116, 59]))), (2, (.string (bs [114, 111, 111, 116, 32, 97, 59, 32, 101, 108, 101, 109, 101, 110, 116, 32, 97, 32, 61, 32, 40, 97, 32, 124, 32, 116, 101, 120, 116, 41, 44, 32, 97, 110, 121, 42, 59]))), (3, (.string (bs [114, 111, 111, 116, 32, 97, 59, 32, 101, 108, 101, 109, 101, 110, 116, 32, 97, 32, 61, 32, 40, 97, 44, 32, 97, 41, 44, 32, 97, 59]))), (4, (.string (bs [114, 111, 111, 116, 32, 97, 59, 32, 101, 108, 101, 109, 101, 110, 116, 32, 97, 32, 61, 32, 40, 97, 32, 124, 32, 97, 41, 32, 124, 32, 97, 59]))), (5, (.string (bs [114, 111, 111, 116, 32, 97, 59, 32, 101, 108, 101, 109, 101, 110, 116, 32, 97, 32, 61, 32, 40, 97, 42, 41, 42, 59]))), (6, (.string (bs [114, 111, 111, 116, 32, 97, 59, 32, 101, 108, 101, 109, 101, 110, 116, 32, 97, 32, 61, 32, 40, 97, 44, 32, 97, 41, 43, 32, 124, 32, 116, 101, 120, 116, 63, 59]))), (7, (.string (bs [114, 111, 111, 116, 32, 97, 59, 32, 101, 108, 101, 109, 101, 110, 116, 32, 97, 32, 61, 32, 40, 97, 32, 124, 32, 97, 41, 44, 32, 40, 97, 44, 32, 97, 41, 42, 59])))]) fun c_1 =>
    newW none (.row c_1 true) h_2 fun i_1 h_3 =>
    X 15 [a0, (.int .i64 8)] h_3 fun v14 h_4 =>
    optW (pIdxS 1 (.slice (some ⟨i, 0, none⟩) 8 8) v14) fun v18 =>
    optW (rdRow false 1 v18 h_4) fun v19 =>
    X 17 [v19] h_4 fun v20 h_5 =>
    optW (pExtract v20 0) fun v21 =>
    optW (pExtract v20 1) fun v22 =>
    optW (pExtract v20 2) fun v23 =>
    newR none [(.string (bs [])), (.slice none 0 0)] h_5 fun v6 h_6 =>
    optW (pStore 2 v6 v21 h_6) fun h_7 =>
    optW (pBin Try.prog .eql 32 v23 (.int .i64 0)) fun v25 =>
    gopD (gB v25 true) (fun k =>
      optW (rdRow true 2 v6 h_7) fun v27_1 =>
      k v27_1 h_7 [] ((3, (idOf v6)) :: [])) h_7 [] [] fun v27 h_8 H S =>
    gopD (gB v25 true) (fun k_1 =>
      X 26 [v27] h_8 fun v28_1 h_10 =>
      readC #[0, 1, 3, 7, 15, 7, 7, 103, 231, 511, 1023, 2047] 4 h_8 h_10 S (
        k_1 v28_1 h_10 ((4, h_8, h_10) :: H) S)) h_8 H S fun v28 h_9 H_1 S_1 =>
    gopD (gB v25 true) (fun k_2 =>
      k_2 (.slice (some ⟨i_1, 0, none⟩) 8 8) h_9 H_1 S_1) h_9 H_1 S_1 fun v29 h_11 H_2 S_2 =>
    gopD (gB v25 true) (fun k_3 =>
      k_3 v14 h_11 H_2 S_2) h_11 H_2 S_2 fun v30 h_12 H_3 S_3 =>
    gopD (gB v25 true) (fun k_4 =>
      optW (pIdxS 1 v29 v30) fun v31_1 =>
      k_4 v31_1 h_12 H_3 S_3) h_12 H_3 S_3 fun v31 h_13 H_4 S_4 =>
    gopD (gB v25 true) (fun k_5 =>
      histC #[0, 1, 3, 7, 15, 7, 7, 103, 231, 511, 1023, 2047] 8 (idOf v31) H_4 (
        optW (rdRow false 1 v31 h_13) fun v32_1 =>
        k_5 v32_1 h_13 H_4 ((8, (idOf v31)) :: S_4))) h_13 H_4 S_4 fun v32 h_14 H_5 S_5 =>
    gopD (gB v25 true) (fun k_6 =>
      optW (pBin Try.prog .eql 9 v28 v32) fun v33_1 =>
      k_6 v33_1 h_14 H_5 S_5) h_14 H_5 S_5 fun v33 h_15 H_6 S_6 =>
    optW (pPick v25 v33 (.bool false)) fun v34 =>
    K v34 h_15)
theorem e7 (X : CallT) (a0 : Value) (h : AH) (K : Value → AH → Prop) : cwp2 Try.prog X (Try.f7.body.getD .skip) (endW Try.prog Try.f7 K) (envOf [a0]) h = s7 X a0 h K := by kernel_rfl
theorem c7 {a0 : Value} {h : AH} {K : Value → AH → Prop} (hs : s7 (callW Try.prog) a0 h K) : callW Try.prog 7 [a0] h K := callW_of Try.func7 (by kernel_rfl) (Eq.mpr (e7 _ a0 _ _) hs)

end Go.Proofs.Ytlenlhlipmkeeaa.W
end
