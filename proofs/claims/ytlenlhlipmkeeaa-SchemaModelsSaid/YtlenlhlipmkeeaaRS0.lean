/- Parts of a proof, joined by a program. Conditions: none. -/
import Derived.Test.YtlenlhlipmkeeaaRA2
import Derived.Test.YtlenlhlipmkeeaaProg

section
/- Go functions, printed by a program as predicates on what may come behind; each is the function. Conditions: none. -/
namespace Go.Proofs.Ytlenlhlipmkeeaa.W
open Go Go.AM
set_option linter.unusedVariables false
set_option maxRecDepth 100000


/-- canopy/canopylaw8.within () -/
def s15 (X : CallT) (a0 a1 : Value) (h : AH) (K : Value → AH → Prop) : Prop :=
  optW (pBin Try.prog .rem 3 a0 a1) fun v8 =>
  optW (pBin Try.prog .lss 3 v8 (.int .i64 0)) fun v10 =>
  condW v10 (
    optW (pBin Try.prog .add 3 v8 a1) fun v13 =>
    K v13 h
  ) (
    K v8 h)
theorem e15 (X : CallT) (a0 a1 : Value) (h : AH) (K : Value → AH → Prop) : cwp2 Try.prog X (Try.f15.body.getD .skip) (endW Try.prog Try.f15 K) (envOf [a0, a1]) h = s15 X a0 a1 h K := by kernel_rfl
theorem c15 {a0 a1 : Value} {h : AH} {K : Value → AH → Prop} (hs : s15 (callW Try.prog) a0 a1 h K) : callW Try.prog 15 [a0, a1] h K := callW_of Try.func15 (by kernel_rfl) (Eq.mpr (e15 _ a0 a1 _ _) hs)

end Go.Proofs.Ytlenlhlipmkeeaa.W
end

section
/- Go functions, printed by a program as predicates on what may come behind; each is the function. Conditions: none. -/
namespace Go.Proofs.Ytlenlhlipmkeeaa.W
open Go Go.AM
set_option linter.unusedVariables false
set_option maxRecDepth 100000


/-- canopy/canopylaw8.SchemaModels (I at e: live [7, 11, 12], writes [11, 12, 35, 36, 37, 38, 39, 40, 41, 42]) -/
def s8 (X : CallT) (a0 a1 : Value) (h : AH) (K : Value → AH → Prop) : Prop :=
  X 12 [] h fun v14 h_1 =>
  optW (pUn .not v14) fun v15 =>
  condW v15 (
    K (.bool false) h_1
  ) (
    optW (bldSl 1 [(.string (bs []))] 15 [(0, (.string (bs [101, 109, 112, 116, 121]))), (1, (.string (bs [116, 101, 120, 116]))), (2, (.string (bs [97, 110, 121]))), (3, (.string (bs [116, 101, 120, 116, 42]))), (4, (.string (bs [116, 101, 120, 116, 43]))), (5, (.string (bs [116, 101, 120, 116, 63]))), (6, (.string (bs [116, 101, 120, 116, 44, 32, 116, 101, 120, 116]))), (7, (.string (bs [116, 101, 120, 116, 32, 124, 32, 40, 116, 101, 120, 116, 44, 32, 116, 101, 120, 116, 41]))), (8, (.string (bs [40, 116, 101, 120, 116, 44, 32, 116, 101, 120, 116, 41, 42]))), (9, (.string (bs [40, 116, 101, 120, 116, 44, 32, 116, 101, 120, 116, 41, 43]))), (10, (.string (bs [40, 116, 101, 120, 116, 63, 44, 32, 116, 101, 120, 116, 63, 41]))), (11, (.string (bs [116, 101, 120, 116, 44, 32, 116, 101, 120, 116, 42]))), (12, (.string (bs [40, 116, 101, 120, 116, 42, 41, 43]))), (13, (.string (bs [101, 109, 112, 116, 121, 32, 124, 32, 40, 116, 101, 120, 116, 44, 32, 116, 101, 120, 116, 44, 32, 116, 101, 120, 116, 41]))), (14, (.string (bs [40, 101, 109, 112, 116, 121, 41, 42])))]) fun c =>
    newW none (.row c true) h_1 fun i h_2 =>
    optW (lenSl (.slice (some ⟨i, 0, none⟩) 15 15)) fun v19 =>
    X 15 [a0, v19] h_2 fun v20 h_3 =>
    X 15 [a1, (.int .i64 6)] h_3 fun v22 h_4 =>
    optW (pIdxS 1 (.slice (some ⟨i, 0, none⟩) 15 15) v20) fun v26 =>
    optW (rdRow false 1 v26 h_4) fun v27 =>
    optW (pBin Try.prog .add 9 (.string (bs [114, 111, 111, 116, 32, 97, 59, 32, 101, 108, 101, 109, 101, 110, 116, 32, 97, 32, 61, 32])) v27) fun v28 =>
    optW (pBin Try.prog .add 9 v28 (.string (bs [59]))) fun v29 =>
    X 17 [v29] h_4 fun v30 h_5 =>
    optW (pExtract v30 0) fun v31 =>
    optW (pExtract v30 1) fun v32 =>
    optW (pExtract v30 2) fun v33 =>
    newR none [(.string (bs [])), (.slice none 0 0)] h_5 fun v8 h_6 =>
    optW (pStore 2 v8 v31 h_6) fun h_7 =>
    optW (bldSl 1 [(.int .i64 0)] 1 [(0, (.int .i64 0))]) fun c_1 =>
    newW none (.row c_1 true) h_7 fun i_1 h_8 =>
    loopE (fun I e h_9 =>
      optW (pBin Try.prog .lss 3 (e 12) (e 7)) fun v37 =>
      condW v37 (
        optW (bldSl 1 [(.int .i64 0)] 1 [(0, (.int .i64 2))]) fun c_2 =>
        newW none (.row c_2 true) h_9 fun i_2 h_10 =>
        appSl 1 (e 11) (.slice (some ⟨i_2, 0, none⟩) 1 1) h_10 fun v42 h_11 =>
        optW (pBin Try.prog .add 3 (e 12) (.int .i64 1)) fun v39 =>
        I (pt (pt (pt (pt (pt (pt (pt (pt (pt (pt e 35 (e 12)) 36 (e 7)) 37 v37) 40 (e 11)) 41 (.slice (some ⟨i_2, 0, none⟩) 1 1)) 42 v42) 11 v42) 38 (e 12)) 39 v39) 12 v39) h_11
      ) (
        optW (bldSl 1 [(.int .i64 0)] 1 [(0, (.int .i64 1))]) fun c_3 =>
        newW none (.row c_3 true) h_9 fun i_3 h_12 =>
        appSl 1 (e 11) (.slice (some ⟨i_3, 0, none⟩) 1 1) h_12 fun v45 h_13 =>
        optW (pBin Try.prog .eql 3 (e 7) (.int .i64 0)) fun v47 =>
        optW (pBin Try.prog .eql 3 (e 7) (.int .i64 1)) fun v49 =>
        optW (pBin Try.prog .gtr 3 (e 7) (.int .i64 0)) fun v51 =>
        optW (pBin Try.prog .lss 3 (e 7) (.int .i64 2)) fun v53 =>
        optW (pBin Try.prog .eql 3 (e 7) (.int .i64 2)) fun v55 =>
        optW (pBin Try.prog .eql 3 (e 7) (.int .i64 1)) fun v57 =>
        gopW (gB v57 false) (fun k =>
          k (e 7) h_13) h_13 fun v59 h_14 =>
        gopW (gB v57 false) (fun k_1 =>
          optW (pBin Try.prog .eql 3 v59 (.int .i64 2)) fun v60_1 =>
          k_1 v60_1 h_14) h_14 fun v60 h_15 =>
        optW (pPick v57 (.bool true) v60) fun v61 =>
        optW (pBin Try.prog .rem 3 (e 7) (.int .i64 2)) fun v63 =>
        optW (pBin Try.prog .eql 3 v63 (.int .i64 0)) fun v64 =>
        optW (pBin Try.prog .gtr 3 (e 7) (.int .i64 0)) fun v66 =>
        gopW (gB v66 true) (fun k_2 =>
          k_2 (e 7) h_15) h_15 fun v68 h_16 =>
        gopW (gB v66 true) (fun k_3 =>
          optW (pBin Try.prog .rem 3 v68 (.int .i64 2)) fun v69_1 =>
          k_3 v69_1 h_16) h_16 fun v69 h_17 =>
        gopW (gB v66 true) (fun k_4 =>
          optW (pBin Try.prog .eql 3 v69 (.int .i64 0)) fun v70_1 =>
          k_4 v70_1 h_17) h_17 fun v70 h_18 =>
        optW (pPick v66 v70 (.bool false)) fun v71 =>
        optW (pBin Try.prog .lss 3 (e 7) (.int .i64 3)) fun v73 =>
        optW (pBin Try.prog .gtr 3 (e 7) (.int .i64 0)) fun v75 =>
        optW (pBin Try.prog .eql 3 (e 7) (.int .i64 0)) fun v77 =>
        gopW (gB v77 false) (fun k_5 =>
          k_5 (e 7) h_18) h_18 fun v79 h_19 =>
        gopW (gB v77 false) (fun k_6 =>
          optW (pBin Try.prog .eql 3 v79 (.int .i64 3)) fun v80_1 =>
          k_6 v80_1 h_19) h_19 fun v80 h_20 =>
        optW (pPick v77 (.bool true) v80) fun v81 =>
        optW (pBin Try.prog .eql 3 (e 7) (.int .i64 0)) fun v83 =>
        optW (bldSl 1 [(.bool false)] 15 [(0, v47), (1, v49), (2, (.bool true)), (3, (.bool true)), (4, v51), (5, v53), (6, v55), (7, v61), (8, v64), (9, v71), (10, v73), (11, v75), (12, (.bool true)), (13, v81), (14, v83)]) fun c_4 =>
        newW none (.row c_4 true) h_20 fun i_4 h_21 =>
        optW (pBin Try.prog .eql 32 (e 10) (.int .i64 0)) fun v86 =>
        gopD (gB v86 true) (fun k_7 =>
          optW (rdRow true 2 (e 8) h_21) fun v88_1 =>
          k_7 v88_1 h_21 [] ((3, (idOf (e 8))) :: [])) h_21 [] [] fun v88 h_22 H S =>
        gopD (gB v86 true) (fun k_8 =>
          k_8 v45 h_22 H S) h_22 H S fun v89 h_23 H_1 S_1 =>
        gopD (gB v86 true) (fun k_9 =>
          X 22 [v88, v89] h_23 fun v90_1 h_25 =>
          readC #[0, 1, 3, 7, 7, 31, 7, 7, 199, 455, 1023, 2047, 4095] 5 h_23 h_25 S_1 (
            k_9 v90_1 h_25 ((5, h_23, h_25) :: H_1) S_1)) h_23 H_1 S_1 fun v90 h_24 H_2 S_2 =>
        gopD (gB v86 true) (fun k_10 =>
          k_10 (.slice (some ⟨i_4, 0, none⟩) 15 15) h_24 H_2 S_2) h_24 H_2 S_2 fun v91 h_26 H_3 S_3 =>
        gopD (gB v86 true) (fun k_11 =>
          k_11 (e 6) h_26 H_3 S_3) h_26 H_3 S_3 fun v92 h_27 H_4 S_4 =>
        gopD (gB v86 true) (fun k_12 =>
          optW (pIdxS 1 v91 v92) fun v93_1 =>
          k_12 v93_1 h_27 H_4 S_4) h_27 H_4 S_4 fun v93 h_28 H_5 S_5 =>
        gopD (gB v86 true) (fun k_13 =>
          histC #[0, 1, 3, 7, 7, 31, 7, 7, 199, 455, 1023, 2047, 4095] 9 (idOf v93) H_5 (
            optW (rdRow false 1 v93 h_28) fun v94_1 =>
            k_13 v94_1 h_28 H_5 ((9, (idOf v93)) :: S_5))) h_28 H_5 S_5 fun v94 h_29 H_6 S_6 =>
        gopD (gB v86 true) (fun k_14 =>
          optW (pBin Try.prog .eql 4 v90 v94) fun v95_1 =>
          k_14 v95_1 h_29 H_6 S_6) h_29 H_6 S_6 fun v95 h_30 H_7 S_7 =>
        optW (pPick v86 v95 (.bool false)) fun v96 =>
        K v96 h_30))
    (pt (pt (pt (pt (pt (pt (pt (pt (pt (pt (pt (pt (pt (pt (pt (pt (pt (pt (pt (pt (pt (pt (pt (pt (pt (pt (pt (pt (pt (pt (envOf [a0, a1]) 4 (.bool false)) 14 v14) 15 v15) 16 (.slice (some ⟨i, 0, none⟩) 15 15)) 5 (.slice (some ⟨i, 0, none⟩) 15 15)) 17 a0) 18 (.slice (some ⟨i, 0, none⟩) 15 15)) 19 v19) 20 v20) 21 a1) 22 v22) 6 v20) 7 v22) 24 (.slice (some ⟨i, 0, none⟩) 15 15)) 25 v20) 26 v26) 27 v27) 28 v28) 29 v29) 30 v30) 23 v30) 31 v31) 32 v32) 33 v33) 8 v8) 9 v32) 10 v33) 34 (.slice (some ⟨i_1, 0, none⟩) 1 1)) 11 (.slice (some ⟨i_1, 0, none⟩) 1 1)) 12 (.int .i64 0)) h_8)
theorem e8 (X : CallT) (a0 a1 : Value) (h : AH) (K : Value → AH → Prop) : cwp2 Try.prog X (Try.f8.body.getD .skip) (endW Try.prog Try.f8 K) (envOf [a0, a1]) h = s8 X a0 a1 h K := by kernel_rfl
theorem c8 {a0 a1 : Value} {h : AH} {K : Value → AH → Prop} (hs : s8 (callW Try.prog) a0 a1 h K) : callW Try.prog 8 [a0, a1] h K := callW_of Try.func8 (by kernel_rfl) (Eq.mpr (e8 _ a0 a1 _ _) hs)

end Go.Proofs.Ytlenlhlipmkeeaa.W
end
