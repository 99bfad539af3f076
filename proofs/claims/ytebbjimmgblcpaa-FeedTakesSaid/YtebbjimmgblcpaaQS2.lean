/- Go functions, printed by a program as predicates on what may come behind; each is the function. Conditions: none. -/
import Derived.Test.YtebbjimmgblcpaaQA1
import Derived.Test.YtebbjimmgblcpaaProg
namespace Go.Proofs.Ytebbjimmgblcpaa.W
open Go Go.AM
set_option linter.unusedVariables false
set_option maxRecDepth 100000

/-- canopy/canopylaw14.known () -/
def s13 (X : CallT) (h : AH) (K : Value → AH → Prop) : Prop :=
  X 14 [(.int .i64 0), (.slice none 0 0)] h fun v19 h_1 =>
  optW (bldSl 1 [(.int .i64 0)] 1 [(0, (.int .i64 0))]) fun c =>
  newW none (.row c true) h_1 fun i h_2 =>
  optW (bldSl 1 [(.int .i64 0)] 1 [(0, (.int .i64 0))]) fun c_1 =>
  newW none (.row c_1 true) h_2 fun i_1 h_3 =>
  optW (bld [(.int .i64 0), (.int .i64 0), (.int .i64 0), (.int .i64 0)] [(0, 1), (1, 1), (2, 1), (3, 1)] [(3, (.int .i64 1))]) fun v22 =>
  optW (bldSl 4 [(.int .i64 0), (.int .i64 0), (.int .i64 0), (.int .i64 0)] 1 [(0, v22)]) fun c_2 =>
  newW none (.row c_2 true) h_3 fun i_2 h_4 =>
  optW (bld [(.int .i64 0), (.int .i64 0), (.int .i64 0), (.int .i64 0)] [(0, 1), (1, 1), (2, 1), (3, 1)] [(1, (.int .i64 1)), (2, (.int .i64 1))]) fun v24 =>
  optW (bldSl 4 [(.int .i64 0), (.int .i64 0), (.int .i64 0), (.int .i64 0)] 1 [(0, v24)]) fun c_3 =>
  newW none (.row c_3 true) h_4 fun i_3 h_5 =>
  optW (bld [(.int .i64 0), (.int .i64 0), (.int .i64 0)] [(0, 1), (1, 1), (2, 1)] [(1, (.int .i64 2))]) fun v26 =>
  optW (bldSl 3 [(.int .i64 0), (.int .i64 0), (.int .i64 0)] 1 [(0, v26)]) fun c_4 =>
  newW none (.row c_4 true) h_5 fun i_4 h_6 =>
  optW (bld [(.int .i64 0), (.int .i64 0), (.slice none 0 0), (.slice none 0 0), (.slice none 0 0), (.slice none 0 0), (.slice none 0 0)] [(0, 1), (1, 1), (2, 1), (3, 1), (4, 1), (5, 1), (6, 1)] [(0, (.int .i64 1)), (1, (.int .i64 1)), (2, (.slice (some ⟨i, 0, none⟩) 1 1)), (3, (.slice (some ⟨i_1, 0, none⟩) 1 1)), (4, (.slice (some ⟨i_2, 0, none⟩) 1 1)), (5, (.slice (some ⟨i_3, 0, none⟩) 1 1)), (6, (.slice (some ⟨i_4, 0, none⟩) 1 1))]) fun v28 =>
  newR none [(.int .i64 0), (.int .i64 0), (.slice none 0 0), (.slice none 0 0), (.slice none 0 0), (.slice none 0 0), (.slice none 0 0)] h_6 fun v2 h_7 =>
  optW (pStore 7 v2 v28 h_7) fun h_8 =>
  optW (rdRow true 7 v2 h_8) fun v30 =>
  X 22 [v19, v30, (.int .i64 1)] h_8 fun v31 h_9 =>
  (∀ x ∈ (idOf v2), (h_8 : AH)[x]? = (h_9 : AH)[x]?) ∧
  optW (rdRow true 7 v2 h_9) fun v33 =>
  X 22 [v19, v33, (.int .i64 1)] h_9 fun v34 h_10 =>
  optW (pBin Try.prog .eql 40 v31 (.pointer none)) fun v36 =>
  gopW (gB v36 false) (fun k =>
    k v34 h_10) h_10 fun v38 h_11 =>
  gopW (gB v36 false) (fun k_1 =>
    optW (pBin Try.prog .eql 40 v38 (.pointer none)) fun v39_1 =>
    k_1 v39_1 h_11) h_11 fun v39 h_12 =>
  optW (pPick v36 (.bool true) v39) fun v40 =>
  condW v40 (
    K (.bool false) h_12
  ) (
    X 24 [v31] h_12 fun v43 h_13 =>
    optW (pExtract v43 0) fun v44 =>
    optW (pExtract v43 1) fun v45 =>
    optW (pExtract v43 2) fun v46 =>
    optW (bldSl 1 [(.int .u8 0)] 6 [(0, (.int .u8 60)), (1, (.int .u8 97)), (2, (.int .u8 62)), (3, (.int .u8 32)), (4, (.int .u8 98)), (5, (.int .u8 60))]) fun c_5 =>
    newW none (.row c_5 true) h_13 fun i_5 h_14 =>
    convW Try.prog 45 45 (.slice (some ⟨i_5, 0, none⟩) 6 6) none h_14 fun v50 h_15 =>
    X 23 [v34, v50] h_15 fun v51 h_16 =>
    optW (pExtract v51 0) fun v52 =>
    optW (pExtract v51 1) fun v53 =>
    X 31 [v34] h_16 fun v55 h_17 =>
    optW (bldSl 1 [(.int .u8 0)] 3 [(0, (.int .u8 47)), (1, (.int .u8 97)), (2, (.int .u8 62))]) fun c_6 =>
    newW none (.row c_6 true) h_17 fun i_6 h_18 =>
    convW Try.prog 45 45 (.slice (some ⟨i_6, 0, none⟩) 3 3) none h_18 fun v59 h_19 =>
    X 23 [v34, v59] h_19 fun v60 h_20 =>
    optW (pExtract v60 0) fun v61 =>
    optW (pExtract v60 1) fun v62 =>
    X 24 [v34] h_20 fun v65 h_21 =>
    optW (pExtract v65 0) fun v66 =>
    optW (pExtract v65 1) fun v67 =>
    optW (pExtract v65 2) fun v68 =>
    X 28 [v19, (.string (bs [98, 32, 60, 97, 62]))] h_21 fun v71 h_22 =>
    optW (pExtract v71 0) fun v72 =>
    optW (pExtract v71 1) fun v73 =>
    optW (pExtract v71 2) fun v74 =>
    gopW (gB v44 true) (fun k_2 =>
      k_2 v46 h_22) h_22 fun v77 h_23 =>
    gopW (gB v44 true) (fun k_3 =>
      optW (pBin Try.prog .eql 42 v77 (.int .i64 0)) fun v78_1 =>
      k_3 v78_1 h_23) h_23 fun v78 h_24 =>
    optW (pPick v44 v78 (.bool false)) fun v79 =>
    gopW (gB v79 true) (fun k_4 =>
      k_4 v53 h_24) h_24 fun v81 h_25 =>
    gopW (gB v79 true) (fun k_5 =>
      optW (pBin Try.prog .eql 42 v81 (.int .i64 0)) fun v82_1 =>
      k_5 v82_1 h_25) h_25 fun v82 h_26 =>
    optW (pPick v79 v82 (.bool false)) fun v83 =>
    gopW (gB v83 true) (fun k_6 =>
      k_6 v55 h_26) h_26 fun v85 h_27 =>
    gopW (gB v83 true) (fun k_7 =>
      optW (pBin Try.prog .eql 3 v85 (.int .i64 1)) fun v86_1 =>
      k_7 v86_1 h_27) h_27 fun v86 h_28 =>
    optW (pPick v83 v86 (.bool false)) fun v87 =>
    gopW (gB v87 true) (fun k_8 =>
      k_8 v62 h_28) h_28 fun v89 h_29 =>
    gopW (gB v87 true) (fun k_9 =>
      optW (pBin Try.prog .eql 42 v89 (.int .i64 0)) fun v90_1 =>
      k_9 v90_1 h_29) h_29 fun v90 h_30 =>
    optW (pPick v87 v90 (.bool false)) fun v91 =>
    gopW (gB v91 true) (fun k_10 =>
      k_10 v66 h_30) h_30 fun v93 h_31 =>
    optW (pPick v91 v93 (.bool false)) fun v94 =>
    gopW (gB v94 true) (fun k_11 =>
      k_11 v68 h_31) h_31 fun v96 h_32 =>
    gopW (gB v94 true) (fun k_12 =>
      optW (pBin Try.prog .eql 42 v96 (.int .i64 0)) fun v97_1 =>
      k_12 v97_1 h_32) h_32 fun v97 h_33 =>
    optW (pPick v94 v97 (.bool false)) fun v98 =>
    gopW (gB v98 true) (fun k_13 =>
      k_13 v74 h_33) h_33 fun v100 h_34 =>
    gopW (gB v98 true) (fun k_14 =>
      optW (pBin Try.prog .eql 42 v100 (.int .i64 0)) fun v101_1 =>
      k_14 v101_1 h_34) h_34 fun v101 h_35 =>
    optW (pPick v98 v101 (.bool false)) fun v102 =>
    gopW (gB v102 true) (fun k_15 =>
      k_15 v72 h_35) h_35 fun v104 h_36 =>
    gopW (gB v102 true) (fun k_16 =>
      optW (lenSl v104) fun v105_1 =>
      k_16 v105_1 h_36) h_36 fun v105 h_37 =>
    gopW (gB v102 true) (fun k_17 =>
      optW (pBin Try.prog .eql 3 v105 (.int .i64 2)) fun v106_1 =>
      k_17 v106_1 h_37) h_37 fun v106 h_38 =>
    optW (pPick v102 v106 (.bool false)) fun v107 =>
    K v107 h_38)
theorem e13 (X : CallT) (h : AH) (K : Value → AH → Prop) : cwp2 Try.prog X (Try.f13.body.getD .skip) (endW Try.prog Try.f13 K) (envOf []) h = s13 X  h K := by kernel_rfl
theorem c13 {h : AH} {K : Value → AH → Prop} (hs : s13 (callW Try.prog)  h K) : callW Try.prog 13 [] h K := callW_of Try.func13 (by kernel_rfl) (Eq.mpr (e13 _  _ _) hs)

/-- canopy/canopylaw1.Syms () -/
def s14 (X : CallT) (a0 a1 : Value) (h : AH) (K : Value → AH → Prop) : Prop :=
  optW (bld [(.string (bs [])), (.int .i64 0)] [(0, 1), (1, 1)] [(0, (.string (bs [97]))), (1, (.int .i64 1))]) fun v7 =>
  optW (bld [(.string (bs [])), (.int .i64 0)] [(0, 1), (1, 1)] [(0, (.string (bs [97]))), (1, (.int .i64 2))]) fun v8 =>
  optW (bld [(.string (bs [])), (.int .i64 0)] [(0, 1), (1, 1)] [(0, (.string (bs [98]))), (1, (.int .i64 3))]) fun v9 =>
  optW (bld [(.string (bs [])), (.int .i64 0)] [(0, 1), (1, 1)] [(0, (.string (bs [99]))), (1, (.int .i64 1))]) fun v10 =>
  optW (bld [(.string (bs [])), (.int .i64 0)] [(0, 1), (1, 1)] [(0, (.string (bs [99]))), (1, (.int .i64 2))]) fun v11 =>
  optW (bld [(.string (bs [])), (.int .i64 0)] [(0, 1), (1, 1)] [(0, (.string (bs [100]))), (1, (.int .i64 3))]) fun v12 =>
  optW (bld [(.string (bs [])), (.int .i64 0)] [(0, 1), (1, 1)] [(0, (.string (bs [120]))), (1, (.int .i64 2))]) fun v13 =>
  optW (bldSl 2 [(.string (bs [])), (.int .i64 0)] 7 [(0, v7), (1, v8), (2, v9), (3, v10), (4, v11), (5, v12), (6, v13)]) fun c =>
  newW none (.row c true) h fun i h_1 =>
  X 34 [a0, (.int .i64 5)] h_1 fun v16 h_2 =>
  optW (pBin Try.prog .add 3 (.int .i64 3) v16) fun v17 =>
  X 34 [a0, (.int .i64 7)] h_2 fun v19 h_3 =>
  optW (pBin Try.prog .eql 3 v19 (.int .i64 1)) fun v20 =>
  condW v20 (
    optW (pIdxS 2 (.slice (some ⟨i, 0, none⟩) 7 7) (.int .i64 2)) fun v22 =>
    optW (rdRow true 2 v22 (reserve 1 h_3)) fun v23 =>
    optW (pIdxS 2 (.slice (some ⟨i, 0, none⟩) 7 7) (.int .i64 1)) fun v25 =>
    optW (rdRow true 2 v25 (reserve 1 h_3)) fun v26 =>
    optW (pIdxS 2 (.slice (some ⟨i, 0, none⟩) 7 7) (.int .i64 0)) fun v28 =>
    optW (rdRow true 2 v28 (reserve 1 h_3)) fun v29 =>
    optW (bldSl 2 [(.string (bs [])), (.int .i64 0)] 3 [(0, v23), (1, v26), (2, v29)]) fun c_1 =>
    newW (some (h_3.length)) (.row c_1 true) (reserve 1 h_3) fun i_1 h_4 =>
    K (.slice (some ⟨i_1, 0, none⟩) 3 3) h_4
  ) (
    X 34 [a0, (.int .i64 11)] h_3 fun v32 h_5 =>
    optW (pBin Try.prog .eql 3 v32 (.int .i64 2)) fun v33 =>
    gopW (gB v33 true) (fun k =>
      k a1 h_5) h_5 fun v35 h_6 =>
    gopW (gB v33 true) (fun k_1 =>
      optW (lenSl v35) fun v36_1 =>
      k_1 v36_1 h_6) h_6 fun v36 h_7 =>
    gopW (gB v33 true) (fun k_2 =>
      optW (pBin Try.prog .gtr 3 v36 (.int .i64 0)) fun v37_1 =>
      k_2 v37_1 h_7) h_7 fun v37 h_8 =>
    optW (pPick v33 v37 (.bool false)) fun v38 =>
    condW v38 (
      optW (pIdxS 1 a1 (.int .i64 0)) fun v41 =>
      optW (rdRow false 1 v41 h_8) fun v42 =>
      X 34 [v42, (.int .i64 7)] h_8 fun v43 h_9 =>
      optW (pIdxS 2 (.slice (some ⟨i, 0, none⟩) 7 7) v43) fun v44 =>
      optW (rdRow true 2 v44 h_9) fun v45 =>
      optW (bldSl 2 [(.string (bs [])), (.int .i64 0)] 1 [(0, v45)]) fun c_2 =>
      newW none (.row c_2 true) h_9 fun i_2 h_10 =>
      K (.slice (some ⟨i_2, 0, none⟩) 1 1) h_10
    ) (
      optW (pSliceSl 2 (.slice (some ⟨i, 0, none⟩) 7 7) none (some v17) none) fun v49 =>
      K v49 h_8))
theorem e14 (X : CallT) (a0 a1 : Value) (h : AH) (K : Value → AH → Prop) : cwp2 Try.prog X (Try.f14.body.getD .skip) (endW Try.prog Try.f14 K) (envOf [a0, a1]) h = s14 X a0 a1 h K := by kernel_rfl
theorem c14 {a0 a1 : Value} {h : AH} {K : Value → AH → Prop} (hs : s14 (callW Try.prog) a0 a1 h K) : callW Try.prog 14 [a0, a1] h K := callW_of Try.func14 (by kernel_rfl) (Eq.mpr (e14 _ a0 a1 _ _) hs)

/-- canopy/canopylaw14.one () -/
def s15 (X : CallT) (a0 a1 a2 : Value) (h : AH) (K : Value → AH → Prop) : Prop :=
  newR none [(.int .i64 0), (.int .i64 0), (.slice none 0 0), (.slice none 0 0), (.slice none 0 0), (.slice none 0 0), (.slice none 0 0)] h fun v6 h_1 =>
  X 35 [a0, a1, a2, (.int .i64 3)] h_1 fun v10 h_2 =>
  optW (pStore 7 v6 v10 h_2) fun h_3 =>
  optW (resList Try.prog (pt (pt (pt (pt (pt (envOf [a0, a1, a2]) 6 v6) 7 a0) 8 a1) 9 a2) 10 v10) h_3 Try.f15.results.toList) fun vs => K (resOf vs) h_3
theorem e15 (X : CallT) (a0 a1 a2 : Value) (h : AH) (K : Value → AH → Prop) : cwp2 Try.prog X (Try.f15.body.getD .skip) (endW Try.prog Try.f15 K) (envOf [a0, a1, a2]) h = s15 X a0 a1 a2 h K := by kernel_rfl
theorem c15 {a0 a1 a2 : Value} {h : AH} {K : Value → AH → Prop} (hs : s15 (callW Try.prog) a0 a1 a2 h K) : callW Try.prog 15 [a0, a1, a2] h K := callW_of Try.func15 (by kernel_rfl) (Eq.mpr (e15 _ a0 a1 a2 _ _) hs)

/-- canopy/canopylaw14.Text (I at e: live [0, 1, 2, 7, 8], writes [7, 8, 9, 10, 11, 12, 13, 14, 15, 16, 17, 18, 19, 20, 21, 22, 23, 24, 25, 26, 27, 28, 29, 30, 31, 32, 33, 34, 35, 36, 37, 38, 39, 40, 41, 42, 43, 44, 45, 46, 47, 48, 49, 50, 51, 52, 53, 54, 55, 56, 57, 58, 59, 60, 61, 62, 63, 64, 65, 66, 67]) -/
def s16 (X : CallT) (a0 a1 a2 : Value) (h : AH) (K : Value → AH → Prop) : Prop :=
  loopE (fun I e h_1 =>
    optW (lenSl (e 1)) fun v13 =>
    optW (pBin Try.prog .lss 3 (e 8) v13) fun v14 =>
    condW v14 (
      optW (pIdxS 1 (e 1) (e 8)) fun v20 =>
      optW (rdRow false 1 v20 h_1) fun v21 =>
      optW (pIdxS 2 (e 0) v21) fun v22 =>
      optW (rdRow true 2 v22 h_1) fun v23 =>
      X 33 [v23] h_1 fun v24 h_2 =>
      optW (pBin Try.prog .mul 3 (e 8) (.int .i64 7)) fun v27 =>
      optW (pBin Try.prog .add 3 (e 2) v27) fun v28 =>
      X 18 [v28, (.int .i64 5)] h_2 fun v29 h_3 =>
      optW (pBin Try.prog .gtr 3 (e 8) (.int .i64 0)) fun v31 =>
      gopW (gB v31 true) (fun k =>
        k v29 h_3) h_3 fun v33 h_4 =>
      gopW (gB v31 true) (fun k_1 =>
        optW (pBin Try.prog .gtr 3 v33 (.int .i64 1)) fun v34_1 =>
        k_1 v34_1 h_4) h_4 fun v34 h_5 =>
      gopW (gB v31 true) (fun k_2 =>
        k_2 v34 h_5) h_5 fun v35 h_6 =>
      gopW (gB v35 false) (fun k_3 =>
        k_3 (e 0) h_6) h_6 fun v36 h_7 =>
      gopW (gB v35 false) (fun k_4 =>
        k_4 (e 1) h_7) h_7 fun v37 h_8 =>
      gopW (gB v35 false) (fun k_5 =>
        k_5 (e 8) h_8) h_8 fun v38 h_9 =>
      gopW (gB v35 false) (fun k_6 =>
        optW (pIdxS 1 v37 v38) fun v39_1 =>
        k_6 v39_1 h_9) h_9 fun v39 h_10 =>
      gopW (gB v35 false) (fun k_7 =>
        optW (rdRow false 1 v39 h_10) fun v40_1 =>
        k_7 v40_1 h_10) h_10 fun v40 h_11 =>
      gopW (gB v35 false) (fun k_8 =>
        optW (pIdxS 2 v36 v40) fun v41_1 =>
        k_8 v41_1 h_11) h_11 fun v41 h_12 =>
      gopW (gB v35 false) (fun k_9 =>
        optW (pOff 1 v41) fun v42_1 =>
        k_9 v42_1 h_12) h_12 fun v42 h_13 =>
      gopW (gB v35 false) (fun k_10 =>
        optW (rdRow false 1 v42 h_13) fun v43_1 =>
        k_10 v43_1 h_13) h_13 fun v43 h_14 =>
      gopW (gB v35 false) (fun k_11 =>
        optW (pBin Try.prog .eql 3 v43 (.int .i64 3)) fun v44_1 =>
        k_11 v44_1 h_14) h_14 fun v44 h_15 =>
      gopW (gB v35 false) (fun k_12 =>
        k_12 v44 h_15) h_15 fun v45 h_16 =>
      gopW (gB v45 true) (fun k_13 =>
        k_13 (e 0) h_16) h_16 fun v46 h_17 =>
      gopW (gB v45 true) (fun k_14 =>
        k_14 (e 1) h_17) h_17 fun v47 h_18 =>
      gopW (gB v45 true) (fun k_15 =>
        k_15 (e 8) h_18) h_18 fun v48 h_19 =>
      gopW (gB v45 true) (fun k_16 =>
        optW (pBin Try.prog .sub 3 v48 (.int .i64 1)) fun v49_1 =>
        k_16 v49_1 h_19) h_19 fun v49 h_20 =>
      gopW (gB v45 true) (fun k_17 =>
        optW (pIdxS 1 v47 v49) fun v50_1 =>
        k_17 v50_1 h_20) h_20 fun v50 h_21 =>
      gopW (gB v45 true) (fun k_18 =>
        optW (rdRow false 1 v50 h_21) fun v51_1 =>
        k_18 v51_1 h_21) h_21 fun v51 h_22 =>
      gopW (gB v45 true) (fun k_19 =>
        optW (pIdxS 2 v46 v51) fun v52_1 =>
        k_19 v52_1 h_22) h_22 fun v52 h_23 =>
      gopW (gB v45 true) (fun k_20 =>
        optW (pOff 1 v52) fun v53_1 =>
        k_20 v53_1 h_23) h_23 fun v53 h_24 =>
      gopW (gB v45 true) (fun k_21 =>
        optW (rdRow false 1 v53 h_24) fun v54_1 =>
        k_21 v54_1 h_24) h_24 fun v54 h_25 =>
      gopW (gB v45 true) (fun k_22 =>
        optW (pBin Try.prog .eql 3 v54 (.int .i64 3)) fun v55_1 =>
        k_22 v55_1 h_25) h_25 fun v55 h_26 =>
      gopW (gB v35 false) (fun k_23 =>
        optW (pPick v45 v55 (.bool false)) fun v56_1 =>
        k_23 v56_1 h_26) h_26 fun v56 h_27 =>
      gopW (gB v31 true) (fun k_24 =>
        optW (pPick v35 (.bool true) v56) fun v57_1 =>
        k_24 v57_1 h_27) h_27 fun v57 h_28 =>
      optW (pPick v31 v57 (.bool false)) fun v58 =>
      condW v58 (
        optW (bldSl 1 [(.string (bs []))] 5 [(0, (.string (bs [32]))), (1, (.string (bs [10]))), (2, (.string (bs [9]))), (3, (.string (bs [32, 32]))), (4, (.string (bs [32, 10, 32])))]) fun c =>
        newW none (.row c true) h_28 fun i h_29 =>
        optW (pIdxS 1 (.slice (some ⟨i, 0, none⟩) 5 5) v29) fun v62 =>
        optW (rdRow false 1 v62 h_29) fun v63 =>
        optW (pBin Try.prog .add 9 (e 7) v63) fun v64 =>
        optW (pBin Try.prog .add 9 v64 v24) fun v67 =>
        optW (pBin Try.prog .add 3 (e 8) (.int .i64 1)) fun v16 =>
        I (pt (pt (pt (pt (pt (pt (pt (pt (pt (pt (pt (pt (pt (pt (pt (pt (pt (pt (pt (pt (pt (pt (pt (pt (pt (pt (pt (pt (pt (pt (pt (pt (pt (pt (pt (pt (pt (pt (pt (pt (pt (pt (pt (pt (pt (pt (pt (pt (pt (pt (pt (pt (pt (pt (pt (pt (pt (pt (pt (pt (pt (pt e 11 (e 8)) 12 (e 1)) 13 v13) 14 v14) 17 (e 0)) 18 (e 1)) 19 (e 8)) 20 v20) 21 v21) 22 v22) 23 v23) 24 v24) 9 v24) 25 (e 2)) 26 (e 8)) 27 v27) 28 v28) 29 v29) 10 v29) 30 (e 8)) 31 v31) 32 v31) 33 v33) 34 v34) 35 v35) 36 v36) 37 v37) 38 v38) 39 v39) 40 v40) 41 v41) 42 v42) 43 v43) 44 v44) 45 v45) 46 v46) 47 v47) 48 v48) 49 v49) 50 v50) 51 v51) 52 v52) 53 v53) 54 v54) 55 v55) 56 v56) 57 v57) 58 v58) 59 (e 7)) 60 (.slice (some ⟨i, 0, none⟩) 5 5)) 61 v29) 62 v62) 63 v63) 64 v64) 7 v64) 65 v64) 66 v24) 67 v67) 7 v67) 15 (e 8)) 16 v16) 8 v16) h_29
      ) (
        optW (pBin Try.prog .add 9 (e 7) v24) fun v67_1 =>
        optW (pBin Try.prog .add 3 (e 8) (.int .i64 1)) fun v16_1 =>
        I (pt (pt (pt (pt (pt (pt (pt (pt (pt (pt (pt (pt (pt (pt (pt (pt (pt (pt (pt (pt (pt (pt (pt (pt (pt (pt (pt (pt (pt (pt (pt (pt (pt (pt (pt (pt (pt (pt (pt (pt (pt (pt (pt (pt (pt (pt (pt (pt (pt (pt (pt (pt (pt (pt (pt e 11 (e 8)) 12 (e 1)) 13 v13) 14 v14) 17 (e 0)) 18 (e 1)) 19 (e 8)) 20 v20) 21 v21) 22 v22) 23 v23) 24 v24) 9 v24) 25 (e 2)) 26 (e 8)) 27 v27) 28 v28) 29 v29) 10 v29) 30 (e 8)) 31 v31) 32 v31) 33 v33) 34 v34) 35 v35) 36 v36) 37 v37) 38 v38) 39 v39) 40 v40) 41 v41) 42 v42) 43 v43) 44 v44) 45 v45) 46 v46) 47 v47) 48 v48) 49 v49) 50 v50) 51 v51) 52 v52) 53 v53) 54 v54) 55 v55) 56 v56) 57 v57) 58 v58) 65 (e 7)) 66 v24) 67 v67_1) 7 v67_1) 15 (e 8)) 16 v16_1) 8 v16_1) h_28)
    ) (
      K (e 7) h_1))
  (pt (pt (pt (envOf [a0, a1, a2]) 6 (.string (bs []))) 7 (.string (bs []))) 8 (.int .i64 0)) h
theorem e16 (X : CallT) (a0 a1 a2 : Value) (h : AH) (K : Value → AH → Prop) : cwp2 Try.prog X (Try.f16.body.getD .skip) (endW Try.prog Try.f16 K) (envOf [a0, a1, a2]) h = s16 X a0 a1 a2 h K := by kernel_rfl
theorem c16 {a0 a1 a2 : Value} {h : AH} {K : Value → AH → Prop} (hs : s16 (callW Try.prog) a0 a1 a2 h K) : callW Try.prog 16 [a0, a1, a2] h K := callW_of Try.func16 (by kernel_rfl) (Eq.mpr (e16 _ a0 a1 a2 _ _) hs)

/-- canopy/canopylaw1.Word (I at e: live [0, 1, 2, 7, 8], writes [7, 8, 9, 10, 11, 12, 13, 14, 15, 16, 17, 18, 19, 20, 21, 22, 23, 24, 25, 26, 27, 28, 29]) -/
def s17 (X : CallT) (a0 a1 a2 : Value) (h : AH) (K : Value → AH → Prop) : Prop :=
  loopE (fun I e h_1 =>
    optW (lenSl (e 1)) fun v11 =>
    optW (pBin Try.prog .lss 3 (e 8) v11) fun v12 =>
    gopW (gB v12 true) (fun k =>
      k (e 8) h_1) h_1 fun v14 h_2 =>
    gopW (gB v12 true) (fun k_1 =>
      k_1 (e 2) h_2) h_2 fun v15 h_3 =>
    gopW (gB v12 true) (fun k_2 =>
      optW (pBin Try.prog .lss 3 v14 v15) fun v16_1 =>
      k_2 v16_1 h_3) h_3 fun v16 h_4 =>
    optW (pPick v12 v16 (.bool false)) fun v17 =>
    condW v17 (
      optW (pIdxS 1 (e 1) (e 8)) fun v23 =>
      optW (rdRow false 1 v23 h_4) fun v24 =>
      optW (lenSl (e 0)) fun v26 =>
      X 34 [v24, v26] h_4 fun v27 h_5 =>
      optW (bldSl 1 [(.int .i64 0)] 1 [(0, v27)]) fun c =>
      newW none (.row c true) h_5 fun i h_6 =>
      appSl 1 (e 7) (.slice (some ⟨i, 0, none⟩) 1 1) h_6 fun v29 h_7 =>
      optW (pBin Try.prog .add 3 (e 8) (.int .i64 1)) fun v19 =>
      I (pt (pt (pt (pt (pt (pt (pt (pt (pt (pt (pt (pt (pt (pt (pt (pt (pt (pt (pt (pt (pt (pt (pt e 9 (e 8)) 10 (e 1)) 11 v11) 12 v12) 13 v12) 14 v14) 15 v15) 16 v16) 17 v17) 20 (e 7)) 21 (e 1)) 22 (e 8)) 23 v23) 24 v24) 25 (e 0)) 26 v26) 27 v27) 28 (.slice (some ⟨i, 0, none⟩) 1 1)) 29 v29) 7 v29) 18 (e 8)) 19 v19) 8 v19) h_7
    ) (
      K (e 7) h_4))
  (pt (pt (pt (envOf [a0, a1, a2]) 6 (.slice none 0 0)) 7 (.slice none 0 0)) 8 (.int .i64 0)) h
theorem e17 (X : CallT) (a0 a1 a2 : Value) (h : AH) (K : Value → AH → Prop) : cwp2 Try.prog X (Try.f17.body.getD .skip) (endW Try.prog Try.f17 K) (envOf [a0, a1, a2]) h = s17 X a0 a1 a2 h K := by kernel_rfl
theorem c17 {a0 a1 a2 : Value} {h : AH} {K : Value → AH → Prop} (hs : s17 (callW Try.prog) a0 a1 a2 h K) : callW Try.prog 17 [a0, a1, a2] h K := callW_of Try.func17 (by kernel_rfl) (Eq.mpr (e17 _ a0 a1 a2 _ _) hs)

/-- canopy/canopylaw14.within () -/
def s18 (X : CallT) (a0 a1 : Value) (h : AH) (K : Value → AH → Prop) : Prop :=
  optW (pBin Try.prog .rem 3 a0 a1) fun v8 =>
  optW (pBin Try.prog .lss 3 v8 (.int .i64 0)) fun v10 =>
  condW v10 (
    optW (pBin Try.prog .add 3 v8 a1) fun v13 =>
    K v13 h
  ) (
    K v8 h)
theorem e18 (X : CallT) (a0 a1 : Value) (h : AH) (K : Value → AH → Prop) : cwp2 Try.prog X (Try.f18.body.getD .skip) (endW Try.prog Try.f18 K) (envOf [a0, a1]) h = s18 X a0 a1 h K := by kernel_rfl
theorem c18 {a0 a1 : Value} {h : AH} {K : Value → AH → Prop} (hs : s18 (callW Try.prog) a0 a1 h K) : callW Try.prog 18 [a0, a1] h K := callW_of Try.func18 (by kernel_rfl) (Eq.mpr (e18 _ a0 a1 _ _) hs)

/-- canopy/canopylaw14.turned () -/
def s19 (X : CallT) (a0 a1 a2 : Value) (h : AH) (K : Value → AH → Prop) : Prop :=
  optW (pBin Try.prog .eql 9 a0 (.string (bs []))) fun v9 =>
  condW v9 (
    K a0 h
  ) (
    strB a0 none h fun v12 h_1 =>
    optW (lenSl v12) fun v16 =>
    X 18 [a1, v16] h_1 fun v17 h_2 =>
    optW (pIdxS 1 v12 v17) fun v18 =>
    optW (rdRow false 1 v18 h_2) fun v19 =>
    optW (pBin Try.prog .add 5 v19 a2) fun v21 =>
    optW (pIdxS 1 v12 v17) fun v22 =>
    optW (pStore 1 v22 v21 h_2) fun h_3 =>
    optW (pBytesStr v12 h_3) fun v24 =>
    K v24 h_3)
theorem e19 (X : CallT) (a0 a1 a2 : Value) (h : AH) (K : Value → AH → Prop) : cwp2 Try.prog X (Try.f19.body.getD .skip) (endW Try.prog Try.f19 K) (envOf [a0, a1, a2]) h = s19 X a0 a1 a2 h K := by kernel_rfl
theorem c19 {a0 a1 a2 : Value} {h : AH} {K : Value → AH → Prop} (hs : s19 (callW Try.prog) a0 a1 a2 h K) : callW Try.prog 19 [a0, a1, a2] h K := callW_of Try.func19 (by kernel_rfl) (Eq.mpr (e19 _ a0 a1 a2 _ _) hs)

/-- canopy/canopylaw14.opens (I at e: live [0, 3, 4], writes [3, 4, 5, 6, 7, 8, 9, 10, 11, 12, 13, 14, 15, 16, 17, 18, 19, 20, 21, 22, 23, 24, 25, 26, 27, 28, 29, 30]) -/
def s20 (X : CallT) (a0 : Value) (h : AH) (K : Value → AH → Prop) : Prop :=
  loopE (fun I e h_1 =>
    optW (lenStr (e 0)) fun v7 =>
    optW (pBin Try.prog .lss 3 (e 4) v7) fun v8 =>
    condW v8 (
      optW (pIdxStr (e 0) (e 4)) fun v13 =>
      optW (pBin Try.prog .eql 5 v13 (.int .u8 60)) fun v14 =>
      gopW (gB v14 true) (fun k =>
        k (e 4) h_1) h_1 fun v16 h_2 =>
      gopW (gB v14 true) (fun k_1 =>
        optW (pBin Try.prog .add 3 v16 (.int .i64 1)) fun v17_1 =>
        k_1 v17_1 h_2) h_2 fun v17 h_3 =>
      gopW (gB v14 true) (fun k_2 =>
        k_2 (e 0) h_3) h_3 fun v18 h_4 =>
      gopW (gB v14 true) (fun k_3 =>
        optW (lenStr v18) fun v19_1 =>
        k_3 v19_1 h_4) h_4 fun v19 h_5 =>
      gopW (gB v14 true) (fun k_4 =>
        optW (pBin Try.prog .eql 3 v17 v19) fun v20_1 =>
        k_4 v20_1 h_5) h_5 fun v20 h_6 =>
      gopW (gB v14 true) (fun k_5 =>
        k_5 v20 h_6) h_6 fun v21 h_7 =>
      gopW (gB v21 false) (fun k_6 =>
        k_6 (e 0) h_7) h_7 fun v22 h_8 =>
      gopW (gB v21 false) (fun k_7 =>
        k_7 (e 4) h_8) h_8 fun v23 h_9 =>
      gopW (gB v21 false) (fun k_8 =>
        optW (pBin Try.prog .add 3 v23 (.int .i64 1)) fun v24_1 =>
        k_8 v24_1 h_9) h_9 fun v24 h_10 =>
      gopW (gB v21 false) (fun k_9 =>
        optW (pIdxStr v22 v24) fun v25_1 =>
        k_9 v25_1 h_10) h_10 fun v25 h_11 =>
      gopW (gB v21 false) (fun k_10 =>
        optW (pBin Try.prog .neq 5 v25 (.int .u8 47)) fun v26_1 =>
        k_10 v26_1 h_11) h_11 fun v26 h_12 =>
      gopW (gB v14 true) (fun k_11 =>
        optW (pPick v21 (.bool true) v26) fun v27_1 =>
        k_11 v27_1 h_12) h_12 fun v27 h_13 =>
      optW (pPick v14 v27 (.bool false)) fun v28 =>
      condW v28 (
        optW (pBin Try.prog .add 3 (e 3) (.int .i64 1)) fun v30 =>
        optW (pBin Try.prog .add 3 (e 4) (.int .i64 1)) fun v10 =>
        I (pt (pt (pt (pt (pt (pt (pt (pt (pt (pt (pt (pt (pt (pt (pt (pt (pt (pt (pt (pt (pt (pt (pt (pt (pt (pt (pt (pt e 5 (e 4)) 6 (e 0)) 7 v7) 8 v8) 11 (e 0)) 12 (e 4)) 13 v13) 14 v14) 15 v14) 16 v16) 17 v17) 18 v18) 19 v19) 20 v20) 21 v21) 22 v22) 23 v23) 24 v24) 25 v25) 26 v26) 27 v27) 28 v28) 29 (e 3)) 30 v30) 3 v30) 9 (e 4)) 10 v10) 4 v10) h_13
      ) (
        optW (pBin Try.prog .add 3 (e 4) (.int .i64 1)) fun v10_1 =>
        I (pt (pt (pt (pt (pt (pt (pt (pt (pt (pt (pt (pt (pt (pt (pt (pt (pt (pt (pt (pt (pt (pt (pt (pt (pt e 5 (e 4)) 6 (e 0)) 7 v7) 8 v8) 11 (e 0)) 12 (e 4)) 13 v13) 14 v14) 15 v14) 16 v16) 17 v17) 18 v18) 19 v19) 20 v20) 21 v21) 22 v22) 23 v23) 24 v24) 25 v25) 26 v26) 27 v27) 28 v28) 9 (e 4)) 10 v10_1) 4 v10_1) h_13)
    ) (
      K (e 3) h_1))
  (pt (pt (pt (envOf [a0]) 2 (.int .i64 0)) 3 (.int .i64 0)) 4 (.int .i64 0)) h
theorem e20 (X : CallT) (a0 : Value) (h : AH) (K : Value → AH → Prop) : cwp2 Try.prog X (Try.f20.body.getD .skip) (endW Try.prog Try.f20 K) (envOf [a0]) h = s20 X a0 h K := by kernel_rfl
theorem c20 {a0 : Value} {h : AH} {K : Value → AH → Prop} (hs : s20 (callW Try.prog) a0 h K) : callW Try.prog 20 [a0] h K := callW_of Try.func20 (by kernel_rfl) (Eq.mpr (e20 _ a0 _ _) hs)

/-- canopy/canopylaw14.play (I at e: live [3, 4, 11, 12, 13, 14], writes [10, 13, 14, 15, 16, 17, 18, 19, 40, 41, 42, 43, 44, 45, 46, 47, 48, 49, 50, 51, 52, 53, 54, 55, 56, 57, 58, 59, 60, 61, 62, 63, 64, 65, 66, 67, 68, 69, 70, 71, 72, 73, 74, 75, 76, 77, 78, 79, 80, 81, 82, 83, 84, 85, 86, 87, 88, 89, 90, 91, 92, 93, 94, 95, 96, 97]) -/
def s21 (X : CallT) (a0 a1 a2 a3 a4 : Value) (h : AH) (K : Value → AH → Prop) : Prop :=
  aBox a1 none h fun v6 h_1 =>
  optW (rdRow true 7 v6 h_1) fun v31 =>
  X 22 [a0, v31, a2] h_1 fun v33 h_2 =>
  (∀ x ∈ (idOf v6), (h_1 : AH)[x]? = (h_2 : AH)[x]?) ∧
  optW (rdRow true 7 v6 h_2) fun v35 =>
  X 36 [a0, v35, a2] h_2 fun v37 h_3 =>
  optW (pBin Try.prog .eql 40 v33 (.pointer none)) fun v39 =>
  condW v39 (
    K (.bool false) h_3
  ) (
    loopE (fun I e h_4 =>
      optW (lenSl (e 4)) fun v42 =>
      optW (pBin Try.prog .lss 3 (e 14) v42) fun v43 =>
      gopW (gB v43 true) (fun k =>
        k (e 14) h_4) h_4 fun v45 h_5 =>
      gopW (gB v43 true) (fun k_1 =>
        optW (pBin Try.prog .lss 3 v45 (.int .i64 8)) fun v46_1 =>
        k_1 v46_1 h_5) h_5 fun v46 h_6 =>
      optW (pPick v43 v46 (.bool false)) fun v47 =>
      condW v47 (
        optW (pIdxS 1 (e 4) (e 14)) fun v53 =>
        optW (rdRow false 1 v53 h_6) fun v54 =>
        optW (lenStr (e 3)) fun v56 =>
        optW (pBin Try.prog .sub 3 v56 (e 13)) fun v58 =>
        optW (pBin Try.prog .add 3 v58 (.int .i64 1)) fun v59 =>
        X 18 [v54, v59] h_6 fun v60 h_7 =>
        optW (pBin Try.prog .add 3 (e 13) v60) fun v61 =>
        optW (pSliceStr (e 3) (some (e 13)) (some v61)) fun v67 =>
        strB v67 none h_7 fun v68 h_8 =>
        X 23 [(e 11), v68] h_8 fun v69 h_9 =>
        optW (pExtract v69 0) fun v70 =>
        optW (pExtract v69 1) fun v71 =>
        optW (pSliceStr (e 3) (some (e 13)) (some v61)) fun v77 =>
        strB v77 none h_9 fun v78 h_10 =>
        X 37 [(e 12), v78] h_10 fun v79 h_11 =>
        optW (pExtract v79 0) fun v80 =>
        optW (pExtract v79 1) fun v81 =>
        optW (pBin Try.prog .neq 3 v70 v80) fun v84 =>
        gopW (gB v84 false) (fun k_2 =>
          k_2 v71 h_11) h_11 fun v86 h_12 =>
        gopW (gB v84 false) (fun k_3 =>
          k_3 v81 h_12) h_12 fun v87 h_13 =>
        gopW (gB v84 false) (fun k_4 =>
          optW (pBin Try.prog .neq 3 v86 v87) fun v88_1 =>
          k_4 v88_1 h_13) h_13 fun v88 h_14 =>
        optW (pPick v84 (.bool true) v88) fun v89 =>
        gopW (gB v89 false) (fun k_5 =>
          k_5 (e 11) h_14) h_14 fun v91 h_15 =>
        gopW (gB v89 false) (fun k_6 =>
          X 31 [v91] h_15 fun v92_1 h_17 =>
          k_6 v92_1 h_17) h_15 fun v92 h_16 =>
        gopW (gB v89 false) (fun k_7 =>
          k_7 (e 12) h_16) h_16 fun v93 h_18 =>
        gopW (gB v89 false) (fun k_8 =>
          X 38 [v93] h_18 fun v94_1 h_20 =>
          k_8 v94_1 h_20) h_18 fun v94 h_19 =>
        gopW (gB v89 false) (fun k_9 =>
          optW (pBin Try.prog .neq 3 v92 v94) fun v95_1 =>
          k_9 v95_1 h_19) h_19 fun v95 h_21 =>
        optW (pPick v89 (.bool true) v95) fun v96 =>
        condW v96 (
          K (.bool false) h_21
        ) (
          optW (pBin Try.prog .add 3 (e 14) (.int .i64 1)) fun v49 =>
          I (pt (pt (pt (pt (pt (pt (pt (pt (pt (pt (pt (pt (pt (pt (pt (pt (pt (pt (pt (pt (pt (pt (pt (pt (pt (pt (pt (pt (pt (pt (pt (pt (pt (pt (pt (pt (pt (pt (pt (pt (pt (pt (pt (pt (pt (pt (pt (pt (pt (pt (pt (pt (pt (pt (pt (pt (pt (pt (pt (pt (pt (pt (pt (pt (pt e 40 (e 14)) 41 (e 4)) 42 v42) 43 v43) 44 v43) 45 v45) 46 v46) 47 v47) 50 (e 13)) 51 (e 4)) 52 (e 14)) 53 v53) 54 v54) 55 (e 3)) 56 v56) 57 (e 13)) 58 v58) 59 v59) 60 v60) 61 v61) 15 v61) 63 (e 11)) 64 (e 3)) 65 (e 13)) 66 v61) 67 v67) 68 v68) 69 v69) 62 v69) 70 v70) 71 v71) 16 v70) 17 v71) 73 (e 12)) 74 (e 3)) 75 (e 13)) 76 v61) 77 v77) 78 v78) 79 v79) 72 v79) 80 v80) 81 v81) 18 v80) 19 v81) 82 v70) 83 v80) 84 v84) 85 v84) 86 v86) 87 v87) 88 v88) 89 v89) 90 v89) 91 v91) 92 v92) 93 v93) 94 v94) 95 v95) 96 v96) 97 v61) 13 v61) 48 (e 14)) 49 v49) 14 v49) h_21)
      ) (
        optW (pSliceStr (e 3) (some (e 13)) none) fun v102 =>
        strB v102 none h_6 fun v103 h_22 =>
        X 23 [(e 11), v103] h_22 fun v104 h_23 =>
        optW (pExtract v104 0) fun v105 =>
        optW (pExtract v104 1) fun v106 =>
        optW (pSliceStr (e 3) (some (e 13)) none) fun v111 =>
        strB v111 none h_23 fun v112 h_24 =>
        X 37 [(e 12), v112] h_24 fun v113 h_25 =>
        optW (pExtract v113 0) fun v114 =>
        optW (pExtract v113 1) fun v115 =>
        X 24 [(e 11)] h_25 fun v118 h_26 =>
        optW (pExtract v118 0) fun v119 =>
        optW (pExtract v118 1) fun v120 =>
        optW (pExtract v118 2) fun v121 =>
        X 39 [(e 12)] h_26 fun v124 h_27 =>
        optW (pExtract v124 0) fun v125 =>
        optW (pExtract v124 1) fun v126 =>
        optW (pExtract v124 2) fun v127 =>
        optW (pBin Try.prog .eql 3 v105 v114) fun v130 =>
        gopW (gB v130 true) (fun k_10 =>
          k_10 v106 h_27) h_27 fun v132 h_28 =>
        gopW (gB v130 true) (fun k_11 =>
          k_11 v115 h_28) h_28 fun v133 h_29 =>
        gopW (gB v130 true) (fun k_12 =>
          optW (pBin Try.prog .eql 3 v132 v133) fun v134_1 =>
          k_12 v134_1 h_29) h_29 fun v134 h_30 =>
        optW (pPick v130 v134 (.bool false)) fun v135 =>
        gopW (gB v135 true) (fun k_13 =>
          k_13 (e 11) h_30) h_30 fun v137 h_31 =>
        gopW (gB v135 true) (fun k_14 =>
          X 31 [v137] h_31 fun v138_1 h_33 =>
          k_14 v138_1 h_33) h_31 fun v138 h_32 =>
        gopW (gB v135 true) (fun k_15 =>
          k_15 (e 12) h_32) h_32 fun v139 h_34 =>
        gopW (gB v135 true) (fun k_16 =>
          X 38 [v139] h_34 fun v140_1 h_36 =>
          k_16 v140_1 h_36) h_34 fun v140 h_35 =>
        gopW (gB v135 true) (fun k_17 =>
          optW (pBin Try.prog .eql 3 v138 v140) fun v141_1 =>
          k_17 v141_1 h_35) h_35 fun v141 h_37 =>
        optW (pPick v135 v141 (.bool false)) fun v142 =>
        gopW (gB v142 true) (fun k_18 =>
          k_18 v119 h_37) h_37 fun v144 h_38 =>
        gopW (gB v142 true) (fun k_19 =>
          k_19 v125 h_38) h_38 fun v145 h_39 =>
        gopW (gB v142 true) (fun k_20 =>
          optW (pBin Try.prog .eql 4 v144 v145) fun v146_1 =>
          k_20 v146_1 h_39) h_39 fun v146 h_40 =>
        optW (pPick v142 v146 (.bool false)) fun v147 =>
        gopW (gB v147 true) (fun k_21 =>
          k_21 v120 h_40) h_40 fun v149 h_41 =>
        gopW (gB v147 true) (fun k_22 =>
          k_22 v126 h_41) h_41 fun v150 h_42 =>
        gopW (gB v147 true) (fun k_23 =>
          optW (pBin Try.prog .eql 3 v149 v150) fun v151_1 =>
          k_23 v151_1 h_42) h_42 fun v151 h_43 =>
        optW (pPick v147 v151 (.bool false)) fun v152 =>
        gopW (gB v152 true) (fun k_24 =>
          k_24 v121 h_43) h_43 fun v154 h_44 =>
        gopW (gB v152 true) (fun k_25 =>
          k_25 v127 h_44) h_44 fun v155 h_45 =>
        gopW (gB v152 true) (fun k_26 =>
          optW (pBin Try.prog .eql 3 v154 v155) fun v156_1 =>
          k_26 v156_1 h_45) h_45 fun v156 h_46 =>
        optW (pPick v152 v156 (.bool false)) fun v157 =>
        K v157 h_46))
    (pt (pt (pt (pt (pt (pt (pt (pt (pt (pt (pt (pt (pt (pt (pt (pt (envOf [a0, a1, a2, a3, a4]) 6 v6) 10 (.bool false)) 30 a0) 31 v31) 32 a2) 33 v33) 34 a0) 35 v35) 36 a2) 37 v37) 11 v33) 12 v37) 38 v33) 39 v39) 13 (.int .i64 0)) 14 (.int .i64 0)) h_3)
theorem e21 (X : CallT) (a0 a1 a2 a3 a4 : Value) (h : AH) (K : Value → AH → Prop) : cwp2 Try.prog X (Try.f21.body.getD .skip) (endW Try.prog Try.f21 K) (envOf [a0, a1, a2, a3, a4]) h = s21 X a0 a1 a2 a3 a4 h K := by kernel_rfl
theorem c21 {a0 a1 a2 a3 a4 : Value} {h : AH} {K : Value → AH → Prop} (hs : s21 (callW Try.prog) a0 a1 a2 a3 a4 h K) : callW Try.prog 21 [a0, a1, a2, a3, a4] h K := callW_of Try.func21 (by kernel_rfl) (Eq.mpr (e21 _ a0 a1 a2 a3 a4 _ _) hs)

/-- canopy/feed.New () -/
def s22 (X : CallT) (a0 a1 a2 : Value) (h : AH) (K : Value → AH → Prop) : Prop :=
  aBox a1 none h fun v4 h_1 =>
  optW (pOff 0 v4) fun v8 =>
  optW (rdRow false 1 v8 (reserve 1 h_1)) fun v9 =>
  optW (pOff 1 v4) fun v10 =>
  optW (rdRow false 1 v10 (reserve 1 h_1)) fun v11 =>
  optW (pOff 2 v4) fun v12 =>
  optW (rdRow false 1 v12 (reserve 1 h_1)) fun v13 =>
  X 40 [v13] (reserve 1 h_1) fun v14 h_2 =>
  (∀ x ∈ (idOf v10), ((reserve 1 h_1) : AH)[x]? = (h_2 : AH)[x]?) ∧
  (∀ x ∈ (idOf v8), ((reserve 1 h_1) : AH)[x]? = (h_2 : AH)[x]?) ∧
  optW (pOff 3 v4) fun v15 =>
  (∀ x ∈ (idOf v15), ((reserve 1 h_1) : AH)[x]? = (h_2 : AH)[x]?) ∧
  optW (rdRow false 1 v15 h_2) fun v16 =>
  X 40 [v16] h_2 fun v17 h_3 =>
  (∀ x ∈ (idOf v10), (h_2 : AH)[x]? = (h_3 : AH)[x]?) ∧
  (∀ x ∈ (idOf v8), (h_2 : AH)[x]? = (h_3 : AH)[x]?) ∧
  optW (pOff 4 v4) fun v18 =>
  (∀ x ∈ (idOf v18), (h_2 : AH)[x]? = (h_3 : AH)[x]?) ∧
  (∀ x ∈ (idOf v18), ((reserve 1 h_1) : AH)[x]? = (h_2 : AH)[x]?) ∧
  optW (rdRow false 1 v18 h_3) fun v19 =>
  X 41 [v19] h_3 fun v20 h_4 =>
  (∀ x ∈ (idOf v10), (h_3 : AH)[x]? = (h_4 : AH)[x]?) ∧
  (∀ x ∈ (idOf v8), (h_3 : AH)[x]? = (h_4 : AH)[x]?) ∧
  optW (pOff 5 v4) fun v21 =>
  (∀ x ∈ (idOf v21), (h_3 : AH)[x]? = (h_4 : AH)[x]?) ∧
  (∀ x ∈ (idOf v21), (h_2 : AH)[x]? = (h_3 : AH)[x]?) ∧
  (∀ x ∈ (idOf v21), ((reserve 1 h_1) : AH)[x]? = (h_2 : AH)[x]?) ∧
  optW (rdRow false 1 v21 h_4) fun v22 =>
  X 42 [v22] h_4 fun v23 h_5 =>
  (∀ x ∈ (idOf v10), (h_4 : AH)[x]? = (h_5 : AH)[x]?) ∧
  (∀ x ∈ (idOf v8), (h_4 : AH)[x]? = (h_5 : AH)[x]?) ∧
  optW (pOff 6 v4) fun v24 =>
  (∀ x ∈ (idOf v24), (h_4 : AH)[x]? = (h_5 : AH)[x]?) ∧
  (∀ x ∈ (idOf v24), (h_3 : AH)[x]? = (h_4 : AH)[x]?) ∧
  (∀ x ∈ (idOf v24), (h_2 : AH)[x]? = (h_3 : AH)[x]?) ∧
  (∀ x ∈ (idOf v24), ((reserve 1 h_1) : AH)[x]? = (h_2 : AH)[x]?) ∧
  optW (rdRow false 1 v24 h_5) fun v25 =>
  X 43 [v25] h_5 fun v26 h_6 =>
  (∀ x ∈ (idOf v10), (h_5 : AH)[x]? = (h_6 : AH)[x]?) ∧
  (∀ x ∈ (idOf v8), (h_5 : AH)[x]? = (h_6 : AH)[x]?) ∧
  optW (bld [(.int .i64 0), (.int .i64 0), (.slice none 0 0), (.slice none 0 0), (.slice none 0 0), (.slice none 0 0), (.slice none 0 0)] [(0, 1), (1, 1), (2, 1), (3, 1), (4, 1), (5, 1), (6, 1)] [(0, v9), (1, v11), (2, v14), (3, v17), (4, v20), (5, v23), (6, v26)]) fun v27 =>
  newR (some (h_1.length)) [(.int .i64 0), (.int .i64 0), (.slice none 0 0), (.slice none 0 0), (.slice none 0 0), (.slice none 0 0), (.slice none 0 0)] h_6 fun v7 h_7 =>
  optW (pStore 7 v7 v27 h_7) fun h_8 =>
  optW (rdRow true 7 v7 h_8) fun v28 =>
  X 44 [v28] h_8 fun v29 h_9 =>
  X 45 [a0] h_9 fun v31 h_10 =>
  optW (bld [(.int .i64 0), (.int .i64 0), (.slice none 0 0), (.slice none 0 0), (.slice none 0 0), (.slice none 0 0), (.slice none 0 0), (.map none), (.int .i64 0), (.slice none 0 0), (.slice none 0 0), (.int .i64 0), (.slice none 0 0), (.int .i64 0), (.int .i64 0), (.slice none 0 0), (.int .i64 0), (.int .i64 0), (.bool false)] [(0, 10), (10, 2), (12, 1), (13, 1), (14, 1), (15, 1), (16, 1), (17, 1), (18, 1)] [(0, v29), (2, v31), (3, a2)]) fun v33 =>
  aBox v33 none h_10 fun v34 h_11 =>
  K v34 h_11
theorem e22 (X : CallT) (a0 a1 a2 : Value) (h : AH) (K : Value → AH → Prop) : cwp2 Try.prog X (Try.f22.body.getD .skip) (endW Try.prog Try.f22 K) (envOf [a0, a1, a2]) h = s22 X a0 a1 a2 h K := by kernel_rfl
theorem c22 {a0 a1 a2 : Value} {h : AH} {K : Value → AH → Prop} (hs : s22 (callW Try.prog) a0 a1 a2 h K) : callW Try.prog 22 [a0, a1, a2] h K := callW_of Try.func22 (by kernel_rfl) (Eq.mpr (e22 _ a0 a1 a2 _ _) hs)

/-- (*canopy/feed.Feed).Write (I at e: live [0, 12, 13, 14], writes [7, 14, 15, 16, 17, 18, 19, 20, 21, 22, 23, 24, 25, 26]) -/
def s23 (X : CallT) (a0 a1 : Value) (h : AH) (K : Value → AH → Prop) : Prop :=
  optW (pNilCheck a0) fun v9 =>
  optW (pOff 18 v9) fun v10 =>
  optW (rdRow false 1 v10 h) fun v11 =>
  condW v11 (
    K (.tuple #[(.int .i64 0), (.int .i64 14)]) h
  ) (
    optW (lenSl a1) fun v13 =>
    loopE (fun I e h_1 =>
      optW (pBin Try.prog .lss 3 (e 14) (e 13)) fun v15 =>
      condW v15 (
        optW (pIdxS 1 (e 12) (e 14)) fun v16 =>
        optW (rdRow false 1 v16 h_1) fun v17 =>
        optW (pNilCheck (e 0)) fun v19 =>
        optW (pOff 16 v19) fun v20 =>
        optW (rdRow false 1 v20 h_1) fun v21 =>
        optW (pBin Try.prog .neq 42 v21 (.int .i64 0)) fun v22 =>
        condW v22 (
          optW (pNilCheck (e 0)) fun v28 =>
          optW (pOff 17 v28) fun v29 =>
          optW (rdRow false 1 v29 h_1) fun v30 =>
          optW (pNilCheck (e 0)) fun v32 =>
          optW (pOff 16 v32) fun v33 =>
          optW (rdRow false 1 v33 h_1) fun v34 =>
          K (.tuple #[v30, v34]) h_1
        ) (
          X 46 [(e 0), v17] h_1 fun v25 h_2 =>
          optW (pBin Try.prog .add 3 (e 14) (.int .i64 1)) fun v26 =>
          I (pt (pt (pt (pt (pt (pt (pt (pt (pt (pt (pt (pt (pt (pt e 15 v15) 16 v16) 17 v17) 7 v17) 18 (e 0)) 19 v19) 20 v20) 21 v21) 22 v22) 23 (e 0)) 24 v17) 25 v25) 26 v26) 14 v26) h_2)
      ) (
        optW (pNilCheck (e 0)) fun v28_1 =>
        optW (pOff 17 v28_1) fun v29_1 =>
        optW (rdRow false 1 v29_1 h_1) fun v30_1 =>
        optW (pNilCheck (e 0)) fun v32_1 =>
        optW (pOff 16 v32_1) fun v33_1 =>
        optW (rdRow false 1 v33_1 h_1) fun v34_1 =>
        K (.tuple #[v30_1, v34_1]) h_1))
    (pt (pt (pt (pt (pt (pt (pt (pt (pt (envOf [a0, a1]) 4 (.int .i64 0)) 5 (.int .i64 0)) 8 a0) 9 v9) 10 v10) 11 v11) 12 a1) 13 v13) 14 (.int .i64 0)) h)
theorem e23 (X : CallT) (a0 a1 : Value) (h : AH) (K : Value → AH → Prop) : cwp2 Try.prog X (Try.f23.body.getD .skip) (endW Try.prog Try.f23 K) (envOf [a0, a1]) h = s23 X a0 a1 h K := by kernel_rfl
theorem c23 {a0 a1 : Value} {h : AH} {K : Value → AH → Prop} (hs : s23 (callW Try.prog) a0 a1 h K) : callW Try.prog 23 [a0, a1] h K := callW_of Try.func23 (by kernel_rfl) (Eq.mpr (e23 _ a0 a1 _ _) hs)

/-- (*canopy/feed.Feed).Close () -/
def s24 (X : CallT) (a0 : Value) (h : AH) (K : Value → AH → Prop) : Prop :=
  optW (pNilCheck a0) fun v6 =>
  optW (pOff 18 v6) fun v7 =>
  optW (rdRow false 1 v7 h) fun v8 =>
  condW v8 (
    K (.tuple #[(.bool false), (.int .i64 0), (.int .i64 14)]) h
  ) (
    optW (pNilCheck a0) fun v10 =>
    optW (pOff 16 v10) fun v11 =>
    optW (rdRow false 1 v11 h) fun v12 =>
    optW (pBin Try.prog .eql 42 v12 (.int .i64 0)) fun v13 =>
    condW v13 (
      X 47 [a0] h fun v15 h_1 =>
      optW (pNilCheck a0) fun v17 =>
      optW (pOff 10 v17) fun v18 =>
      optW (pOff 0 v18) fun v19 =>
      optW (rdRow false 1 v19 h_1) fun v20 =>
      optW (lenSl v20) fun v21 =>
      optW (pBin Try.prog .gtr 3 v21 (.int .i64 0)) fun v22 =>
      condW v22 (
        optW (pNilCheck a0) fun v25 =>
        optW (pOff 10 v25) fun v26 =>
        optW (pOff 1 v26) fun v27 =>
        optW (rdRow false 1 v27 h_1) fun v28 =>
        X 48 [a0, (.int .i64 12), v28] h_1 fun v29 h_2 =>
        optW (pNilCheck a0) fun v31 =>
        optW (pOff 18 v31) fun v32 =>
        optW (pStore 1 v32 (.bool true) h_2) fun h_3 =>
        optW (pNilCheck a0) fun v34 =>
        optW (pOff 16 v34) fun v35 =>
        optW (rdRow false 1 v35 h_3) fun v36 =>
        optW (pBin Try.prog .eql 42 v36 (.int .i64 0)) fun v37 =>
        gopD (gB v37 true) (fun k =>
          k a0 h_3 [] ((3, (idOf v35)) :: [])) h_3 [] ((3, (idOf v35)) :: []) fun v39 h_4 H S =>
        gopD (gB v37 true) (fun k_1 =>
          optW (pNilCheck v39) fun v40_1 =>
          k_1 v40_1 h_4 H S) h_4 H S fun v40 h_5 H_1 S_1 =>
        gopD (gB v37 true) (fun k_2 =>
          optW (pOff 0 v40) fun v41_1 =>
          k_2 v41_1 h_5 H_1 S_1) h_5 H_1 S_1 fun v41 h_6 H_2 S_2 =>
        gopD (gB v37 true) (fun k_3 =>
          X 49 [v41] h_6 fun v42_1 h_8 =>
          readC #[0, 1, 3, 7, 15, 31, 63, 127, 255, 511, 1023, 0, 2048, 6144, 14336, 0, 32768, 98304, 229376, 2047, 557055, 2097151] 9 h_6 h_8 S_2 (
            k_3 v42_1 h_8 ((9, h_6, h_8) :: H_2) S_2)) h_6 H_2 S_2 fun v42 h_7 H_3 S_3 =>
        optW (pPick v37 v42 (.bool false)) fun v43 =>
        optW (pNilCheck a0) fun v45 =>
        optW (pOff 17 v45) fun v46 =>
        histC #[0, 1, 3, 7, 15, 31, 63, 127, 255, 511, 1023, 0, 2048, 6144, 14336, 0, 32768, 98304, 229376, 2047, 557055, 2097151] 14 (idOf v46) H_3 (
          optW (rdRow false 1 v46 h_7) fun v47 =>
          optW (pNilCheck a0) fun v49 =>
          optW (pOff 16 v49) fun v50 =>
          histC #[0, 1, 3, 7, 15, 31, 63, 127, 255, 511, 1023, 0, 2048, 6144, 14336, 0, 32768, 98304, 229376, 2047, 557055, 2097151] 18 (idOf v50) H_3 (
            optW (rdRow false 1 v50 h_7) fun v51 =>
            K (.tuple #[v43, v47, v51]) h_7))
      ) (
        optW (pNilCheck a0) fun v31_1 =>
        optW (pOff 18 v31_1) fun v32_1 =>
        optW (pStore 1 v32_1 (.bool true) h_1) fun h_9 =>
        optW (pNilCheck a0) fun v34_1 =>
        optW (pOff 16 v34_1) fun v35_1 =>
        optW (rdRow false 1 v35_1 h_9) fun v36_1 =>
        optW (pBin Try.prog .eql 42 v36_1 (.int .i64 0)) fun v37_1 =>
        gopD (gB v37_1 true) (fun k_4 =>
          k_4 a0 h_9 [] ((3, (idOf v35_1)) :: [])) h_9 [] ((3, (idOf v35_1)) :: []) fun v39_1 h_10 H_4 S_4 =>
        gopD (gB v37_1 true) (fun k_5 =>
          optW (pNilCheck v39_1) fun v40_3 =>
          k_5 v40_3 h_10 H_4 S_4) h_10 H_4 S_4 fun v40_2 h_11 H_5 S_5 =>
        gopD (gB v37_1 true) (fun k_6 =>
          optW (pOff 0 v40_2) fun v41_3 =>
          k_6 v41_3 h_11 H_5 S_5) h_11 H_5 S_5 fun v41_2 h_12 H_6 S_6 =>
        gopD (gB v37_1 true) (fun k_7 =>
          X 49 [v41_2] h_12 fun v42_3 h_14 =>
          readC #[0, 1, 3, 7, 15, 31, 63, 127, 255, 511, 1023, 0, 2048, 6144, 14336, 0, 32768, 98304, 229376, 2047, 557055, 2097151] 9 h_12 h_14 S_6 (
            k_7 v42_3 h_14 ((9, h_12, h_14) :: H_6) S_6)) h_12 H_6 S_6 fun v42_2 h_13 H_7 S_7 =>
        optW (pPick v37_1 v42_2 (.bool false)) fun v43_1 =>
        optW (pNilCheck a0) fun v45_1 =>
        optW (pOff 17 v45_1) fun v46_1 =>
        histC #[0, 1, 3, 7, 15, 31, 63, 127, 255, 511, 1023, 0, 2048, 6144, 14336, 0, 32768, 98304, 229376, 2047, 557055, 2097151] 14 (idOf v46_1) H_7 (
          optW (rdRow false 1 v46_1 h_13) fun v47_1 =>
          optW (pNilCheck a0) fun v49_1 =>
          optW (pOff 16 v49_1) fun v50_1 =>
          histC #[0, 1, 3, 7, 15, 31, 63, 127, 255, 511, 1023, 0, 2048, 6144, 14336, 0, 32768, 98304, 229376, 2047, 557055, 2097151] 18 (idOf v50_1) H_7 (
            optW (rdRow false 1 v50_1 h_13) fun v51_1 =>
            K (.tuple #[v43_1, v47_1, v51_1]) h_13)))
    ) (
      optW (pNilCheck a0) fun v17_1 =>
      optW (pOff 10 v17_1) fun v18_1 =>
      optW (pOff 0 v18_1) fun v19_1 =>
      optW (rdRow false 1 v19_1 h) fun v20_1 =>
      optW (lenSl v20_1) fun v21_1 =>
      optW (pBin Try.prog .gtr 3 v21_1 (.int .i64 0)) fun v22_1 =>
      condW v22_1 (
        optW (pNilCheck a0) fun v25_1 =>
        optW (pOff 10 v25_1) fun v26_1 =>
        optW (pOff 1 v26_1) fun v27_1 =>
        optW (rdRow false 1 v27_1 h) fun v28_1 =>
        X 48 [a0, (.int .i64 12), v28_1] h fun v29_1 h_15 =>
        optW (pNilCheck a0) fun v31_2 =>
        optW (pOff 18 v31_2) fun v32_2 =>
        optW (pStore 1 v32_2 (.bool true) h_15) fun h_16 =>
        optW (pNilCheck a0) fun v34_2 =>
        optW (pOff 16 v34_2) fun v35_2 =>
        optW (rdRow false 1 v35_2 h_16) fun v36_2 =>
        optW (pBin Try.prog .eql 42 v36_2 (.int .i64 0)) fun v37_2 =>
        gopD (gB v37_2 true) (fun k_8 =>
          k_8 a0 h_16 [] ((3, (idOf v35_2)) :: [])) h_16 [] ((3, (idOf v35_2)) :: []) fun v39_2 h_17 H_8 S_8 =>
        gopD (gB v37_2 true) (fun k_9 =>
          optW (pNilCheck v39_2) fun v40_5 =>
          k_9 v40_5 h_17 H_8 S_8) h_17 H_8 S_8 fun v40_4 h_18 H_9 S_9 =>
        gopD (gB v37_2 true) (fun k_10 =>
          optW (pOff 0 v40_4) fun v41_5 =>
          k_10 v41_5 h_18 H_9 S_9) h_18 H_9 S_9 fun v41_4 h_19 H_10 S_10 =>
        gopD (gB v37_2 true) (fun k_11 =>
          X 49 [v41_4] h_19 fun v42_5 h_21 =>
          readC #[0, 1, 3, 7, 15, 31, 63, 127, 255, 511, 1023, 0, 2048, 6144, 14336, 0, 32768, 98304, 229376, 2047, 557055, 2097151] 9 h_19 h_21 S_10 (
            k_11 v42_5 h_21 ((9, h_19, h_21) :: H_10) S_10)) h_19 H_10 S_10 fun v42_4 h_20 H_11 S_11 =>
        optW (pPick v37_2 v42_4 (.bool false)) fun v43_2 =>
        optW (pNilCheck a0) fun v45_2 =>
        optW (pOff 17 v45_2) fun v46_2 =>
        histC #[0, 1, 3, 7, 15, 31, 63, 127, 255, 511, 1023, 0, 2048, 6144, 14336, 0, 32768, 98304, 229376, 2047, 557055, 2097151] 14 (idOf v46_2) H_11 (
          optW (rdRow false 1 v46_2 h_20) fun v47_2 =>
          optW (pNilCheck a0) fun v49_2 =>
          optW (pOff 16 v49_2) fun v50_2 =>
          histC #[0, 1, 3, 7, 15, 31, 63, 127, 255, 511, 1023, 0, 2048, 6144, 14336, 0, 32768, 98304, 229376, 2047, 557055, 2097151] 18 (idOf v50_2) H_11 (
            optW (rdRow false 1 v50_2 h_20) fun v51_2 =>
            K (.tuple #[v43_2, v47_2, v51_2]) h_20))
      ) (
        optW (pNilCheck a0) fun v31_3 =>
        optW (pOff 18 v31_3) fun v32_3 =>
        optW (pStore 1 v32_3 (.bool true) h) fun h_22 =>
        optW (pNilCheck a0) fun v34_3 =>
        optW (pOff 16 v34_3) fun v35_3 =>
        optW (rdRow false 1 v35_3 h_22) fun v36_3 =>
        optW (pBin Try.prog .eql 42 v36_3 (.int .i64 0)) fun v37_3 =>
        gopD (gB v37_3 true) (fun k_12 =>
          k_12 a0 h_22 [] ((3, (idOf v35_3)) :: [])) h_22 [] ((3, (idOf v35_3)) :: []) fun v39_3 h_23 H_12 S_12 =>
        gopD (gB v37_3 true) (fun k_13 =>
          optW (pNilCheck v39_3) fun v40_7 =>
          k_13 v40_7 h_23 H_12 S_12) h_23 H_12 S_12 fun v40_6 h_24 H_13 S_13 =>
        gopD (gB v37_3 true) (fun k_14 =>
          optW (pOff 0 v40_6) fun v41_7 =>
          k_14 v41_7 h_24 H_13 S_13) h_24 H_13 S_13 fun v41_6 h_25 H_14 S_14 =>
        gopD (gB v37_3 true) (fun k_15 =>
          X 49 [v41_6] h_25 fun v42_7 h_27 =>
          readC #[0, 1, 3, 7, 15, 31, 63, 127, 255, 511, 1023, 0, 2048, 6144, 14336, 0, 32768, 98304, 229376, 2047, 557055, 2097151] 9 h_25 h_27 S_14 (
            k_15 v42_7 h_27 ((9, h_25, h_27) :: H_14) S_14)) h_25 H_14 S_14 fun v42_6 h_26 H_15 S_15 =>
        optW (pPick v37_3 v42_6 (.bool false)) fun v43_3 =>
        optW (pNilCheck a0) fun v45_3 =>
        optW (pOff 17 v45_3) fun v46_3 =>
        histC #[0, 1, 3, 7, 15, 31, 63, 127, 255, 511, 1023, 0, 2048, 6144, 14336, 0, 32768, 98304, 229376, 2047, 557055, 2097151] 14 (idOf v46_3) H_15 (
          optW (rdRow false 1 v46_3 h_26) fun v47_3 =>
          optW (pNilCheck a0) fun v49_3 =>
          optW (pOff 16 v49_3) fun v50_3 =>
          histC #[0, 1, 3, 7, 15, 31, 63, 127, 255, 511, 1023, 0, 2048, 6144, 14336, 0, 32768, 98304, 229376, 2047, 557055, 2097151] 18 (idOf v50_3) H_15 (
            optW (rdRow false 1 v50_3 h_26) fun v51_3 =>
            K (.tuple #[v43_3, v47_3, v51_3]) h_26)))))
theorem e24 (X : CallT) (a0 : Value) (h : AH) (K : Value → AH → Prop) : cwp2 Try.prog X (Try.f24.body.getD .skip) (endW Try.prog Try.f24 K) (envOf [a0]) h = s24 X a0 h K := by kernel_rfl
theorem c24 {a0 : Value} {h : AH} {K : Value → AH → Prop} (hs : s24 (callW Try.prog) a0 h K) : callW Try.prog 24 [a0] h K := callW_of Try.func24 (by kernel_rfl) (Eq.mpr (e24 _ a0 _ _) hs)

end Go.Proofs.Ytebbjimmgblcpaa.W
