/- Parts of a proof, joined by a program. Conditions: none. -/
import Derived.Test.YtebbjimmgblcpaaRA1
import Derived.Test.YtebbjimmgblcpaaProg

section
/- Go functions, printed by a program as predicates on what may come behind; each is the function. Conditions: none. -/
namespace Go.Proofs.Ytebbjimmgblcpaa.W
open Go Go.AM
set_option linter.unusedVariables false
set_option maxRecDepth 100000


/-- canopy/canopylaw1.Syms () -/
def s14 (X : CallT) (a0 a1 : Value) (h : AH) (K : Value → AH → Prop) : Prop :=
  optW (bld [(.string (bs [])), (.int .i64 0)] [(0, 1), (1, 1)] [(0, (.string (bs [97]))), (1, (.int .i64 1))]) fun v7 =>
  optW (bld [(.string (bs [])), (.int .i64 0)] [(0, 1), (1, 1)] [(0, (.string (bs [97]))), (1, (.int .i64 2))]) fun v8 =>
  optW (bld [(.string (bs [])), (.int .i64 0)] [(0, 1), (1, 1)] [(0, (.string (bs [98]))), (1, (.int .i64 3))]) fun v9 =>
  optW (bld [(.string (bs [])), (.int .i64 0)] [(0, 1), (1, 1)] [(0, (.string (bs [99]))), (1, (.int .i64 1))]) fun v10 =>
  optW (bld [(.string (bs [])), (.int .i64 0)] [(0, 1), (1, 1)] [(0, (.string (bs [99]))), (1, (.int .i64 2))]) fun v11 =>
  optW (bld [(.string (bs [])), (.int .i64 0)] [(0, 1), (1, 1)] [(0, (.string (bs [100]))), (1, (.int .i64 3))]) fun v12 =>
  optW (bld [(.string (bs [])), (.int .i64 0)] [(0, 1), (1, 1)] [(0, (.string (bs [120]))), (1, (.int .i64 2))]) fun v13 =>
  optW (bldSl 2 [(.string (bs [])), (.int .i64 0)] 7 [(0, v7), (1, v8), (2, v9), (3, v10), (4, v11), (5, v12), (6, v13)]) fun c =>
  newW none (.row c true) h fun i h_1 =>
  X 34 [a0, (.int .i64 5)] h_1 fun v16 h_2 =>
  optW (pBin Try.prog .add 3 (.int .i64 3) v16) fun v17 =>
  X 34 [a0, (.int .i64 7)] h_2 fun v19 h_3 =>
  optW (pBin Try.prog .eql 3 v19 (.int .i64 1)) fun v20 =>
  condW v20 (
    optW (pIdxS 2 (.slice (some ⟨i, 0, none⟩) 7 7) (.int .i64 2)) fun v22 =>
    optW (rdRow true 2 v22 (reserve 1 h_3)) fun v23 =>
    optW (pIdxS 2 (.slice (some ⟨i, 0, none⟩) 7 7) (.int .i64 1)) fun v25 =>
    optW (rdRow true 2 v25 (reserve 1 h_3)) fun v26 =>
    optW (pIdxS 2 (.slice (some ⟨i, 0, none⟩) 7 7) (.int .i64 0)) fun v28 =>
    optW (rdRow true 2 v28 (reserve 1 h_3)) fun v29 =>
    optW (bldSl 2 [(.string (bs [])), (.int .i64 0)] 3 [(0, v23), (1, v26), (2, v29)]) fun c_1 =>
    newW (some (h_3.length)) (.row c_1 true) (reserve 1 h_3) fun i_1 h_4 =>
    K (.slice (some ⟨i_1, 0, none⟩) 3 3) h_4
  ) (
    X 34 [a0, (.int .i64 11)] h_3 fun v32 h_5 =>
    optW (pBin Try.prog .eql 3 v32 (.int .i64 2)) fun v33 =>
    gopW (gB v33 true) (fun k =>
      k a1 h_5) h_5 fun v35 h_6 =>
    gopW (gB v33 true) (fun k_1 =>
      optW (lenSl v35) fun v36_1 =>
      k_1 v36_1 h_6) h_6 fun v36 h_7 =>
    gopW (gB v33 true) (fun k_2 =>
      optW (pBin Try.prog .gtr 3 v36 (.int .i64 0)) fun v37_1 =>
      k_2 v37_1 h_7) h_7 fun v37 h_8 =>
    optW (pPick v33 v37 (.bool false)) fun v38 =>
    condW v38 (
      optW (pIdxS 1 a1 (.int .i64 0)) fun v41 =>
      optW (rdRow false 1 v41 h_8) fun v42 =>
      X 34 [v42, (.int .i64 7)] h_8 fun v43 h_9 =>
      optW (pIdxS 2 (.slice (some ⟨i, 0, none⟩) 7 7) v43) fun v44 =>
      optW (rdRow true 2 v44 h_9) fun v45 =>
      optW (bldSl 2 [(.string (bs [])), (.int .i64 0)] 1 [(0, v45)]) fun c_2 =>
      newW none (.row c_2 true) h_9 fun i_2 h_10 =>
      K (.slice (some ⟨i_2, 0, none⟩) 1 1) h_10
    ) (
      optW (pSliceSl 2 (.slice (some ⟨i, 0, none⟩) 7 7) none (some v17) none) fun v49 =>
      K v49 h_8))
theorem e14 (X : CallT) (a0 a1 : Value) (h : AH) (K : Value → AH → Prop) : cwp2 Try.prog X (Try.f14.body.getD .skip) (endW Try.prog Try.f14 K) (envOf [a0, a1]) h = s14 X a0 a1 h K := by kernel_rfl
theorem c14 {a0 a1 : Value} {h : AH} {K : Value → AH → Prop} (hs : s14 (callW Try.prog) a0 a1 h K) : callW Try.prog 14 [a0, a1] h K := callW_of Try.func14 (by kernel_rfl) (Eq.mpr (e14 _ a0 a1 _ _) hs)

/-- canopy/canopylaw14.one () -/
def s15 (X : CallT) (a0 a1 a2 : Value) (h : AH) (K : Value → AH → Prop) : Prop :=
  newR none [(.int .i64 0), (.int .i64 0), (.slice none 0 0), (.slice none 0 0), (.slice none 0 0), (.slice none 0 0), (.slice none 0 0)] h fun v6 h_1 =>
  X 35 [a0, a1, a2, (.int .i64 3)] h_1 fun v10 h_2 =>
  optW (pStore 7 v6 v10 h_2) fun h_3 =>
  optW (resList Try.prog (pt (pt (pt (pt (pt (envOf [a0, a1, a2]) 6 v6) 7 a0) 8 a1) 9 a2) 10 v10) h_3 Try.f15.results.toList) fun vs => K (resOf vs) h_3
theorem e15 (X : CallT) (a0 a1 a2 : Value) (h : AH) (K : Value → AH → Prop) : cwp2 Try.prog X (Try.f15.body.getD .skip) (endW Try.prog Try.f15 K) (envOf [a0, a1, a2]) h = s15 X a0 a1 a2 h K := by kernel_rfl
theorem c15 {a0 a1 a2 : Value} {h : AH} {K : Value → AH → Prop} (hs : s15 (callW Try.prog) a0 a1 a2 h K) : callW Try.prog 15 [a0, a1, a2] h K := callW_of Try.func15 (by kernel_rfl) (Eq.mpr (e15 _ a0 a1 a2 _ _) hs)

/-- canopy/canopylaw14.Text (I at e: live [0, 1, 2, 7, 8], writes [7, 8, 9, 10, 11, 12, 13, 14, 15, 16, 17, 18, 19, 20, 21, 22, 23, 24, 25, 26, 27, 28, 29, 30, 31, 32, 33, 34, 35, 36, 37, 38, 39, 40, 41, 42, 43, 44, 45, 46, 47, 48, 49, 50, 51, 52, 53, 54, 55, 56, 57, 58, 59, 60, 61, 62, 63, 64, 65, 66, 67]) -/
def s16 (X : CallT) (a0 a1 a2 : Value) (h : AH) (K : Value → AH → Prop) : Prop :=
  loopE (fun I e h_1 =>
    optW (lenSl (e 1)) fun v13 =>
    optW (pBin Try.prog .lss 3 (e 8) v13) fun v14 =>
    condW v14 (
      optW (pIdxS 1 (e 1) (e 8)) fun v20 =>
      optW (rdRow false 1 v20 h_1) fun v21 =>
      optW (pIdxS 2 (e 0) v21) fun v22 =>
      optW (rdRow true 2 v22 h_1) fun v23 =>
      X 33 [v23] h_1 fun v24 h_2 =>
      optW (pBin Try.prog .mul 3 (e 8) (.int .i64 7)) fun v27 =>
      optW (pBin Try.prog .add 3 (e 2) v27) fun v28 =>
      X 18 [v28, (.int .i64 5)] h_2 fun v29 h_3 =>
      optW (pBin Try.prog .gtr 3 (e 8) (.int .i64 0)) fun v31 =>
      gopW (gB v31 true) (fun k =>
        k v29 h_3) h_3 fun v33 h_4 =>
      gopW (gB v31 true) (fun k_1 =>
        optW (pBin Try.prog .gtr 3 v33 (.int .i64 1)) fun v34_1 =>
        k_1 v34_1 h_4) h_4 fun v34 h_5 =>
      gopW (gB v31 true) (fun k_2 =>
        k_2 v34 h_5) h_5 fun v35 h_6 =>
      gopW (gB v35 false) (fun k_3 =>
        k_3 (e 0) h_6) h_6 fun v36 h_7 =>
      gopW (gB v35 false) (fun k_4 =>
        k_4 (e 1) h_7) h_7 fun v37 h_8 =>
      gopW (gB v35 false) (fun k_5 =>
        k_5 (e 8) h_8) h_8 fun v38 h_9 =>
      gopW (gB v35 false) (fun k_6 =>
        optW (pIdxS 1 v37 v38) fun v39_1 =>
        k_6 v39_1 h_9) h_9 fun v39 h_10 =>
      gopW (gB v35 false) (fun k_7 =>
        optW (rdRow false 1 v39 h_10) fun v40_1 =>
        k_7 v40_1 h_10) h_10 fun v40 h_11 =>
      gopW (gB v35 false) (fun k_8 =>
        optW (pIdxS 2 v36 v40) fun v41_1 =>
        k_8 v41_1 h_11) h_11 fun v41 h_12 =>
      gopW (gB v35 false) (fun k_9 =>
        optW (pOff 1 v41) fun v42_1 =>
        k_9 v42_1 h_12) h_12 fun v42 h_13 =>
      gopW (gB v35 false) (fun k_10 =>
        optW (rdRow false 1 v42 h_13) fun v43_1 =>
        k_10 v43_1 h_13) h_13 fun v43 h_14 =>
      gopW (gB v35 false) (fun k_11 =>
        optW (pBin Try.prog .eql 3 v43 (.int .i64 3)) fun v44_1 =>
        k_11 v44_1 h_14) h_14 fun v44 h_15 =>
      gopW (gB v35 false) (fun k_12 =>
        k_12 v44 h_15) h_15 fun v45 h_16 =>
      gopW (gB v45 true) (fun k_13 =>
        k_13 (e 0) h_16) h_16 fun v46 h_17 =>
      gopW (gB v45 true) (fun k_14 =>
        k_14 (e 1) h_17) h_17 fun v47 h_18 =>
      gopW (gB v45 true) (fun k_15 =>
        k_15 (e 8) h_18) h_18 fun v48 h_19 =>
      gopW (gB v45 true) (fun k_16 =>
        optW (pBin Try.prog .sub 3 v48 (.int .i64 1)) fun v49_1 =>
        k_16 v49_1 h_19) h_19 fun v49 h_20 =>
      gopW (gB v45 true) (fun k_17 =>
        optW (pIdxS 1 v47 v49) fun v50_1 =>
        k_17 v50_1 h_20) h_20 fun v50 h_21 =>
      gopW (gB v45 true) (fun k_18 =>
        optW (rdRow false 1 v50 h_21) fun v51_1 =>
        k_18 v51_1 h_21) h_21 fun v51 h_22 =>
      gopW (gB v45 true) (fun k_19 =>
        optW (pIdxS 2 v46 v51) fun v52_1 =>
        k_19 v52_1 h_22) h_22 fun v52 h_23 =>
      gopW (gB v45 true) (fun k_20 =>
        optW (pOff 1 v52) fun v53_1 =>
        k_20 v53_1 h_23) h_23 fun v53 h_24 =>
      gopW (gB v45 true) (fun k_21 =>
        optW (rdRow false 1 v53 h_24) fun v54_1 =>
        k_21 v54_1 h_24) h_24 fun v54 h_25 =>
      gopW (gB v45 true) (fun k_22 =>
        optW (pBin Try.prog .eql 3 v54 (.int .i64 3)) fun v55_1 =>
        k_22 v55_1 h_25) h_25 fun v55 h_26 =>
      gopW (gB v35 false) (fun k_23 =>
        optW (pPick v45 v55 (.bool false)) fun v56_1 =>
        k_23 v56_1 h_26) h_26 fun v56 h_27 =>
      gopW (gB v31 true) (fun k_24 =>
        optW (pPick v35 (.bool true) v56) fun v57_1 =>
        k_24 v57_1 h_27) h_27 fun v57 h_28 =>
      optW (pPick v31 v57 (.bool false)) fun v58 =>
      condW v58 (
        optW (bldSl 1 [(.string (bs []))] 5 [(0, (.string (bs [32]))), (1, (.string (bs [10]))), (2, (.string (bs [9]))), (3, (.string (bs [32, 32]))), (4, (.string (bs [32, 10, 32])))]) fun c =>
        newW none (.row c true) h_28 fun i h_29 =>
        optW (pIdxS 1 (.slice (some ⟨i, 0, none⟩) 5 5) v29) fun v62 =>
        optW (rdRow false 1 v62 h_29) fun v63 =>
        optW (pBin Try.prog .add 9 (e 7) v63) fun v64 =>
        optW (pBin Try.prog .add 9 v64 v24) fun v67 =>
        optW (pBin Try.prog .add 3 (e 8) (.int .i64 1)) fun v16 =>
        I (pt (pt (pt (pt (pt (pt (pt (pt (pt (pt (pt (pt (pt (pt (pt (pt (pt (pt (pt (pt (pt (pt (pt (pt (pt (pt (pt (pt (pt (pt (pt (pt (pt (pt (pt (pt (pt (pt (pt (pt (pt (pt (pt (pt (pt (pt (pt (pt (pt (pt (pt (pt (pt (pt (pt (pt (pt (pt (pt (pt (pt (pt e 11 (e 8)) 12 (e 1)) 13 v13) 14 v14) 17 (e 0)) 18 (e 1)) 19 (e 8)) 20 v20) 21 v21) 22 v22) 23 v23) 24 v24) 9 v24) 25 (e 2)) 26 (e 8)) 27 v27) 28 v28) 29 v29) 10 v29) 30 (e 8)) 31 v31) 32 v31) 33 v33) 34 v34) 35 v35) 36 v36) 37 v37) 38 v38) 39 v39) 40 v40) 41 v41) 42 v42) 43 v43) 44 v44) 45 v45) 46 v46) 47 v47) 48 v48) 49 v49) 50 v50) 51 v51) 52 v52) 53 v53) 54 v54) 55 v55) 56 v56) 57 v57) 58 v58) 59 (e 7)) 60 (.slice (some ⟨i, 0, none⟩) 5 5)) 61 v29) 62 v62) 63 v63) 64 v64) 7 v64) 65 v64) 66 v24) 67 v67) 7 v67) 15 (e 8)) 16 v16) 8 v16) h_29
      ) (
        optW (pBin Try.prog .add 9 (e 7) v24) fun v67_1 =>
        optW (pBin Try.prog .add 3 (e 8) (.int .i64 1)) fun v16_1 =>
        I (pt (pt (pt (pt (pt (pt (pt (pt (pt (pt (pt (pt (pt (pt (pt (pt (pt (pt (pt (pt (pt (pt (pt (pt (pt (pt (pt (pt (pt (pt (pt (pt (pt (pt (pt (pt (pt (pt (pt (pt (pt (pt (pt (pt (pt (pt (pt (pt (pt (pt (pt (pt (pt (pt (pt e 11 (e 8)) 12 (e 1)) 13 v13) 14 v14) 17 (e 0)) 18 (e 1)) 19 (e 8)) 20 v20) 21 v21) 22 v22) 23 v23) 24 v24) 9 v24) 25 (e 2)) 26 (e 8)) 27 v27) 28 v28) 29 v29) 10 v29) 30 (e 8)) 31 v31) 32 v31) 33 v33) 34 v34) 35 v35) 36 v36) 37 v37) 38 v38) 39 v39) 40 v40) 41 v41) 42 v42) 43 v43) 44 v44) 45 v45) 46 v46) 47 v47) 48 v48) 49 v49) 50 v50) 51 v51) 52 v52) 53 v53) 54 v54) 55 v55) 56 v56) 57 v57) 58 v58) 65 (e 7)) 66 v24) 67 v67_1) 7 v67_1) 15 (e 8)) 16 v16_1) 8 v16_1) h_28)
    ) (
      K (e 7) h_1))
  (pt (pt (pt (envOf [a0, a1, a2]) 6 (.string (bs []))) 7 (.string (bs []))) 8 (.int .i64 0)) h
theorem e16 (X : CallT) (a0 a1 a2 : Value) (h : AH) (K : Value → AH → Prop) : cwp2 Try.prog X (Try.f16.body.getD .skip) (endW Try.prog Try.f16 K) (envOf [a0, a1, a2]) h = s16 X a0 a1 a2 h K := by kernel_rfl
theorem c16 {a0 a1 a2 : Value} {h : AH} {K : Value → AH → Prop} (hs : s16 (callW Try.prog) a0 a1 a2 h K) : callW Try.prog 16 [a0, a1, a2] h K := callW_of Try.func16 (by kernel_rfl) (Eq.mpr (e16 _ a0 a1 a2 _ _) hs)

/-- canopy/canopylaw1.Word (I at e: live [0, 1, 2, 7, 8], writes [7, 8, 9, 10, 11, 12, 13, 14, 15, 16, 17, 18, 19, 20, 21, 22, 23, 24, 25, 26, 27, 28, 29]) -/
def s17 (X : CallT) (a0 a1 a2 : Value) (h : AH) (K : Value → AH → Prop) : Prop :=
  loopE (fun I e h_1 =>
    optW (lenSl (e 1)) fun v11 =>
    optW (pBin Try.prog .lss 3 (e 8) v11) fun v12 =>
    gopW (gB v12 true) (fun k =>
      k (e 8) h_1) h_1 fun v14 h_2 =>
    gopW (gB v12 true) (fun k_1 =>
      k_1 (e 2) h_2) h_2 fun v15 h_3 =>
    gopW (gB v12 true) (fun k_2 =>
      optW (pBin Try.prog .lss 3 v14 v15) fun v16_1 =>
      k_2 v16_1 h_3) h_3 fun v16 h_4 =>
    optW (pPick v12 v16 (.bool false)) fun v17 =>
    condW v17 (
      optW (pIdxS 1 (e 1) (e 8)) fun v23 =>
      optW (rdRow false 1 v23 h_4) fun v24 =>
      optW (lenSl (e 0)) fun v26 =>
      X 34 [v24, v26] h_4 fun v27 h_5 =>
      optW (bldSl 1 [(.int .i64 0)] 1 [(0, v27)]) fun c =>
      newW none (.row c true) h_5 fun i h_6 =>
      appSl 1 (e 7) (.slice (some ⟨i, 0, none⟩) 1 1) h_6 fun v29 h_7 =>
      optW (pBin Try.prog .add 3 (e 8) (.int .i64 1)) fun v19 =>
      I (pt (pt (pt (pt (pt (pt (pt (pt (pt (pt (pt (pt (pt (pt (pt (pt (pt (pt (pt (pt (pt (pt (pt e 9 (e 8)) 10 (e 1)) 11 v11) 12 v12) 13 v12) 14 v14) 15 v15) 16 v16) 17 v17) 20 (e 7)) 21 (e 1)) 22 (e 8)) 23 v23) 24 v24) 25 (e 0)) 26 v26) 27 v27) 28 (.slice (some ⟨i, 0, none⟩) 1 1)) 29 v29) 7 v29) 18 (e 8)) 19 v19) 8 v19) h_7
    ) (
      K (e 7) h_4))
  (pt (pt (pt (envOf [a0, a1, a2]) 6 (.slice none 0 0)) 7 (.slice none 0 0)) 8 (.int .i64 0)) h
theorem e17 (X : CallT) (a0 a1 a2 : Value) (h : AH) (K : Value → AH → Prop) : cwp2 Try.prog X (Try.f17.body.getD .skip) (endW Try.prog Try.f17 K) (envOf [a0, a1, a2]) h = s17 X a0 a1 a2 h K := by kernel_rfl
theorem c17 {a0 a1 a2 : Value} {h : AH} {K : Value → AH → Prop} (hs : s17 (callW Try.prog) a0 a1 a2 h K) : callW Try.prog 17 [a0, a1, a2] h K := callW_of Try.func17 (by kernel_rfl) (Eq.mpr (e17 _ a0 a1 a2 _ _) hs)

/-- canopy/canopylaw14.within () -/
def s18 (X : CallT) (a0 a1 : Value) (h : AH) (K : Value → AH → Prop) : Prop :=
  optW (pBin Try.prog .rem 3 a0 a1) fun v8 =>
  optW (pBin Try.prog .lss 3 v8 (.int .i64 0)) fun v10 =>
  condW v10 (
    optW (pBin Try.prog .add 3 v8 a1) fun v13 =>
    K v13 h
  ) (
    K v8 h)
theorem e18 (X : CallT) (a0 a1 : Value) (h : AH) (K : Value → AH → Prop) : cwp2 Try.prog X (Try.f18.body.getD .skip) (endW Try.prog Try.f18 K) (envOf [a0, a1]) h = s18 X a0 a1 h K := by kernel_rfl
theorem c18 {a0 a1 : Value} {h : AH} {K : Value → AH → Prop} (hs : s18 (callW Try.prog) a0 a1 h K) : callW Try.prog 18 [a0, a1] h K := callW_of Try.func18 (by kernel_rfl) (Eq.mpr (e18 _ a0 a1 _ _) hs)

/-- canopy/canopylaw14.turned () -/
def s19 (X : CallT) (a0 a1 a2 : Value) (h : AH) (K : Value → AH → Prop) : Prop :=
  optW (pBin Try.prog .eql 9 a0 (.string (bs []))) fun v9 =>
  condW v9 (
    K a0 h
  ) (
    strB a0 none h fun v12 h_1 =>
    optW (lenSl v12) fun v16 =>
    X 18 [a1, v16] h_1 fun v17 h_2 =>
    optW (pIdxS 1 v12 v17) fun v18 =>
    optW (rdRow false 1 v18 h_2) fun v19 =>
    optW (pBin Try.prog .add 5 v19 a2) fun v21 =>
    optW (pIdxS 1 v12 v17) fun v22 =>
    optW (pStore 1 v22 v21 h_2) fun h_3 =>
    optW (pBytesStr v12 h_3) fun v24 =>
    K v24 h_3)
theorem e19 (X : CallT) (a0 a1 a2 : Value) (h : AH) (K : Value → AH → Prop) : cwp2 Try.prog X (Try.f19.body.getD .skip) (endW Try.prog Try.f19 K) (envOf [a0, a1, a2]) h = s19 X a0 a1 a2 h K := by kernel_rfl
theorem c19 {a0 a1 a2 : Value} {h : AH} {K : Value → AH → Prop} (hs : s19 (callW Try.prog) a0 a1 a2 h K) : callW Try.prog 19 [a0, a1, a2] h K := callW_of Try.func19 (by kernel_rfl) (Eq.mpr (e19 _ a0 a1 a2 _ _) hs)

/-- canopy/canopylaw14.opens (I at e: live [0, 3, 4], writes [3, 4, 5, 6, 7, 8, 9, 10, 11, 12, 13, 14, 15, 16, 17, 18, 19, 20, 21, 22, 23, 24, 25, 26, 27, 28, 29, 30]) -/
def s20 (X : CallT) (a0 : Value) (h : AH) (K : Value → AH → Prop) : Prop :=
  loopE (fun I e h_1 =>
    optW (lenStr (e 0)) fun v7 =>
    optW (pBin Try.prog .lss 3 (e 4) v7) fun v8 =>
    condW v8 (
      optW (pIdxStr (e 0) (e 4)) fun v13 =>
      optW (pBin Try.prog .eql 5 v13 (.int .u8 60)) fun v14 =>
      gopW (gB v14 true) (fun k =>
        k (e 4) h_1) h_1 fun v16 h_2 =>
      gopW (gB v14 true) (fun k_1 =>
        optW (pBin Try.prog .add 3 v16 (.int .i64 1)) fun v17_1 =>
        k_1 v17_1 h_2) h_2 fun v17 h_3 =>
      gopW (gB v14 true) (fun k_2 =>
        k_2 (e 0) h_3) h_3 fun v18 h_4 =>
      gopW (gB v14 true) (fun k_3 =>
        optW (lenStr v18) fun v19_1 =>
        k_3 v19_1 h_4) h_4 fun v19 h_5 =>
      gopW (gB v14 true) (fun k_4 =>
        optW (pBin Try.prog .eql 3 v17 v19) fun v20_1 =>
        k_4 v20_1 h_5) h_5 fun v20 h_6 =>
      gopW (gB v14 true) (fun k_5 =>
        k_5 v20 h_6) h_6 fun v21 h_7 =>
      gopW (gB v21 false) (fun k_6 =>
        k_6 (e 0) h_7) h_7 fun v22 h_8 =>
      gopW (gB v21 false) (fun k_7 =>
        k_7 (e 4) h_8) h_8 fun v23 h_9 =>
      gopW (gB v21 false) (fun k_8 =>
        optW (pBin Try.prog .add 3 v23 (.int .i64 1)) fun v24_1 =>
        k_8 v24_1 h_9) h_9 fun v24 h_10 =>
      gopW (gB v21 false) (fun k_9 =>
        optW (pIdxStr v22 v24) fun v25_1 =>
        k_9 v25_1 h_10) h_10 fun v25 h_11 =>
      gopW (gB v21 false) (fun k_10 =>
        optW (pBin Try.prog .neq 5 v25 (.int .u8 47)) fun v26_1 =>
        k_10 v26_1 h_11) h_11 fun v26 h_12 =>
      gopW (gB v14 true) (fun k_11 =>
        optW (pPick v21 (.bool true) v26) fun v27_1 =>
        k_11 v27_1 h_12) h_12 fun v27 h_13 =>
      optW (pPick v14 v27 (.bool false)) fun v28 =>
      condW v28 (
        optW (pBin Try.prog .add 3 (e 3) (.int .i64 1)) fun v30 =>
        optW (pBin Try.prog .add 3 (e 4) (.int .i64 1)) fun v10 =>
        I (pt (pt (pt (pt (pt (pt (pt (pt (pt (pt (pt (pt (pt (pt (pt (pt (pt (pt (pt (pt (pt (pt (pt (pt (pt (pt (pt (pt e 5 (e 4)) 6 (e 0)) 7 v7) 8 v8) 11 (e 0)) 12 (e 4)) 13 v13) 14 v14) 15 v14) 16 v16) 17 v17) 18 v18) 19 v19) 20 v20) 21 v21) 22 v22) 23 v23) 24 v24) 25 v25) 26 v26) 27 v27) 28 v28) 29 (e 3)) 30 v30) 3 v30) 9 (e 4)) 10 v10) 4 v10) h_13
      ) (
        optW (pBin Try.prog .add 3 (e 4) (.int .i64 1)) fun v10_1 =>
        I (pt (pt (pt (pt (pt (pt (pt (pt (pt (pt (pt (pt (pt (pt (pt (pt (pt (pt (pt (pt (pt (pt (pt (pt (pt e 5 (e 4)) 6 (e 0)) 7 v7) 8 v8) 11 (e 0)) 12 (e 4)) 13 v13) 14 v14) 15 v14) 16 v16) 17 v17) 18 v18) 19 v19) 20 v20) 21 v21) 22 v22) 23 v23) 24 v24) 25 v25) 26 v26) 27 v27) 28 v28) 9 (e 4)) 10 v10_1) 4 v10_1) h_13)
    ) (
      K (e 3) h_1))
  (pt (pt (pt (envOf [a0]) 2 (.int .i64 0)) 3 (.int .i64 0)) 4 (.int .i64 0)) h
theorem e20 (X : CallT) (a0 : Value) (h : AH) (K : Value → AH → Prop) : cwp2 Try.prog X (Try.f20.body.getD .skip) (endW Try.prog Try.f20 K) (envOf [a0]) h = s20 X a0 h K := by kernel_rfl
theorem c20 {a0 : Value} {h : AH} {K : Value → AH → Prop} (hs : s20 (callW Try.prog) a0 h K) : callW Try.prog 20 [a0] h K := callW_of Try.func20 (by kernel_rfl) (Eq.mpr (e20 _ a0 _ _) hs)

/-- canopy/canopylaw14.play (I at e: live [3, 4, 11, 12, 13, 14], writes [10, 13, 14, 15, 16, 17, 18, 19, 40, 41, 42, 43, 44, 45, 46, 47, 48, 49, 50, 51, 52, 53, 54, 55, 56, 57, 58, 59, 60, 61, 62, 63, 64, 65, 66, 67, 68, 69, 70, 71, 72, 73, 74, 75, 76, 77, 78, 79, 80, 81, 82, 83, 84, 85, 86, 87, 88, 89, 90, 91, 92, 93, 94, 95, 96, 97]) -/
def s21 (X : CallT) (a0 a1 a2 a3 a4 : Value) (h : AH) (K : Value → AH → Prop) : Prop :=
  aBox a1 none h fun v6 h_1 =>
  optW (rdRow true 7 v6 h_1) fun v31 =>
  X 22 [a0, v31, a2] h_1 fun v33 h_2 =>
  (∀ x ∈ (idOf v6), (h_1 : AH)[x]? = (h_2 : AH)[x]?) ∧
  optW (rdRow true 7 v6 h_2) fun v35 =>
  X 36 [a0, v35, a2] h_2 fun v37 h_3 =>
  optW (pBin Try.prog .eql 40 v33 (.pointer none)) fun v39 =>
  condW v39 (
    K (.bool false) h_3
  ) (
    loopE (fun I e h_4 =>
      optW (lenSl (e 4)) fun v42 =>
      optW (pBin Try.prog .lss 3 (e 14) v42) fun v43 =>
      gopW (gB v43 true) (fun k =>
        k (e 14) h_4) h_4 fun v45 h_5 =>
      gopW (gB v43 true) (fun k_1 =>
        optW (pBin Try.prog .lss 3 v45 (.int .i64 8)) fun v46_1 =>
        k_1 v46_1 h_5) h_5 fun v46 h_6 =>
      optW (pPick v43 v46 (.bool false)) fun v47 =>
      condW v47 (
        optW (pIdxS 1 (e 4) (e 14)) fun v53 =>
        optW (rdRow false 1 v53 h_6) fun v54 =>
        optW (lenStr (e 3)) fun v56 =>
        optW (pBin Try.prog .sub 3 v56 (e 13)) fun v58 =>
        optW (pBin Try.prog .add 3 v58 (.int .i64 1)) fun v59 =>
        X 18 [v54, v59] h_6 fun v60 h_7 =>
        optW (pBin Try.prog .add 3 (e 13) v60) fun v61 =>
        optW (pSliceStr (e 3) (some (e 13)) (some v61)) fun v67 =>
        strB v67 none h_7 fun v68 h_8 =>
        X 23 [(e 11), v68] h_8 fun v69 h_9 =>
        optW (pExtract v69 0) fun v70 =>
        optW (pExtract v69 1) fun v71 =>
        optW (pSliceStr (e 3) (some (e 13)) (some v61)) fun v77 =>
        strB v77 none h_9 fun v78 h_10 =>
        X 37 [(e 12), v78] h_10 fun v79 h_11 =>
        optW (pExtract v79 0) fun v80 =>
        optW (pExtract v79 1) fun v81 =>
        optW (pBin Try.prog .neq 3 v70 v80) fun v84 =>
        gopW (gB v84 false) (fun k_2 =>
          k_2 v71 h_11) h_11 fun v86 h_12 =>
        gopW (gB v84 false) (fun k_3 =>
          k_3 v81 h_12) h_12 fun v87 h_13 =>
        gopW (gB v84 false) (fun k_4 =>
          optW (pBin Try.prog .neq 3 v86 v87) fun v88_1 =>
          k_4 v88_1 h_13) h_13 fun v88 h_14 =>
        optW (pPick v84 (.bool true) v88) fun v89 =>
        gopW (gB v89 false) (fun k_5 =>
          k_5 (e 11) h_14) h_14 fun v91 h_15 =>
        gopW (gB v89 false) (fun k_6 =>
          X 31 [v91] h_15 fun v92_1 h_17 =>
          k_6 v92_1 h_17) h_15 fun v92 h_16 =>
        gopW (gB v89 false) (fun k_7 =>
          k_7 (e 12) h_16) h_16 fun v93 h_18 =>
        gopW (gB v89 false) (fun k_8 =>
          X 38 [v93] h_18 fun v94_1 h_20 =>
          k_8 v94_1 h_20) h_18 fun v94 h_19 =>
        gopW (gB v89 false) (fun k_9 =>
          optW (pBin Try.prog .neq 3 v92 v94) fun v95_1 =>
          k_9 v95_1 h_19) h_19 fun v95 h_21 =>
        optW (pPick v89 (.bool true) v95) fun v96 =>
        condW v96 (
          K (.bool false) h_21
        ) (
          optW (pBin Try.prog .add 3 (e 14) (.int .i64 1)) fun v49 =>
          I (pt (pt (pt (pt (pt (pt (pt (pt (pt (pt (pt (pt (pt (pt (pt (pt (pt (pt (pt (pt (pt (pt (pt (pt (pt (pt (pt (pt (pt (pt (pt (pt (pt (pt (pt (pt (pt (pt (pt (pt (pt (pt (pt (pt (pt (pt (pt (pt (pt (pt (pt (pt (pt (pt (pt (pt (pt (pt (pt (pt (pt (pt (pt (pt (pt e 40 (e 14)) 41 (e 4)) 42 v42) 43 v43) 44 v43) 45 v45) 46 v46) 47 v47) 50 (e 13)) 51 (e 4)) 52 (e 14)) 53 v53) 54 v54) 55 (e 3)) 56 v56) 57 (e 13)) 58 v58) 59 v59) 60 v60) 61 v61) 15 v61) 63 (e 11)) 64 (e 3)) 65 (e 13)) 66 v61) 67 v67) 68 v68) 69 v69) 62 v69) 70 v70) 71 v71) 16 v70) 17 v71) 73 (e 12)) 74 (e 3)) 75 (e 13)) 76 v61) 77 v77) 78 v78) 79 v79) 72 v79) 80 v80) 81 v81) 18 v80) 19 v81) 82 v70) 83 v80) 84 v84) 85 v84) 86 v86) 87 v87) 88 v88) 89 v89) 90 v89) 91 v91) 92 v92) 93 v93) 94 v94) 95 v95) 96 v96) 97 v61) 13 v61) 48 (e 14)) 49 v49) 14 v49) h_21)
      ) (
        optW (pSliceStr (e 3) (some (e 13)) none) fun v102 =>
        strB v102 none h_6 fun v103 h_22 =>
        X 23 [(e 11), v103] h_22 fun v104 h_23 =>
        optW (pExtract v104 0) fun v105 =>
        optW (pExtract v104 1) fun v106 =>
        optW (pSliceStr (e 3) (some (e 13)) none) fun v111 =>
        strB v111 none h_23 fun v112 h_24 =>
        X 37 [(e 12), v112] h_24 fun v113 h_25 =>
        optW (pExtract v113 0) fun v114 =>
        optW (pExtract v113 1) fun v115 =>
        X 24 [(e 11)] h_25 fun v118 h_26 =>
        optW (pExtract v118 0) fun v119 =>
        optW (pExtract v118 1) fun v120 =>
        optW (pExtract v118 2) fun v121 =>
        X 39 [(e 12)] h_26 fun v124 h_27 =>
        optW (pExtract v124 0) fun v125 =>
        optW (pExtract v124 1) fun v126 =>
        optW (pExtract v124 2) fun v127 =>
        optW (pBin Try.prog .eql 3 v105 v114) fun v130 =>
        gopW (gB v130 true) (fun k_10 =>
          k_10 v106 h_27) h_27 fun v132 h_28 =>
        gopW (gB v130 true) (fun k_11 =>
          k_11 v115 h_28) h_28 fun v133 h_29 =>
        gopW (gB v130 true) (fun k_12 =>
          optW (pBin Try.prog .eql 3 v132 v133) fun v134_1 =>
          k_12 v134_1 h_29) h_29 fun v134 h_30 =>
        optW (pPick v130 v134 (.bool false)) fun v135 =>
        gopW (gB v135 true) (fun k_13 =>
          k_13 (e 11) h_30) h_30 fun v137 h_31 =>
        gopW (gB v135 true) (fun k_14 =>
          X 31 [v137] h_31 fun v138_1 h_33 =>
          k_14 v138_1 h_33) h_31 fun v138 h_32 =>
        gopW (gB v135 true) (fun k_15 =>
          k_15 (e 12) h_32) h_32 fun v139 h_34 =>
        gopW (gB v135 true) (fun k_16 =>
          X 38 [v139] h_34 fun v140_1 h_36 =>
          k_16 v140_1 h_36) h_34 fun v140 h_35 =>
        gopW (gB v135 true) (fun k_17 =>
          optW (pBin Try.prog .eql 3 v138 v140) fun v141_1 =>
          k_17 v141_1 h_35) h_35 fun v141 h_37 =>
        optW (pPick v135 v141 (.bool false)) fun v142 =>
        gopW (gB v142 true) (fun k_18 =>
          k_18 v119 h_37) h_37 fun v144 h_38 =>
        gopW (gB v142 true) (fun k_19 =>
          k_19 v125 h_38) h_38 fun v145 h_39 =>
        gopW (gB v142 true) (fun k_20 =>
          optW (pBin Try.prog .eql 4 v144 v145) fun v146_1 =>
          k_20 v146_1 h_39) h_39 fun v146 h_40 =>
        optW (pPick v142 v146 (.bool false)) fun v147 =>
        gopW (gB v147 true) (fun k_21 =>
          k_21 v120 h_40) h_40 fun v149 h_41 =>
        gopW (gB v147 true) (fun k_22 =>
          k_22 v126 h_41) h_41 fun v150 h_42 =>
        gopW (gB v147 true) (fun k_23 =>
          optW (pBin Try.prog .eql 3 v149 v150) fun v151_1 =>
          k_23 v151_1 h_42) h_42 fun v151 h_43 =>
        optW (pPick v147 v151 (.bool false)) fun v152 =>
        gopW (gB v152 true) (fun k_24 =>
          k_24 v121 h_43) h_43 fun v154 h_44 =>
        gopW (gB v152 true) (fun k_25 =>
          k_25 v127 h_44) h_44 fun v155 h_45 =>
        gopW (gB v152 true) (fun k_26 =>
          optW (pBin Try.prog .eql 3 v154 v155) fun v156_1 =>
          k_26 v156_1 h_45) h_45 fun v156 h_46 =>
        optW (pPick v152 v156 (.bool false)) fun v157 =>
        K v157 h_46))
    (pt (pt (pt (pt (pt (pt (pt (pt (pt (pt (pt (pt (pt (pt (pt (pt (envOf [a0, a1, a2, a3, a4]) 6 v6) 10 (.bool false)) 30 a0) 31 v31) 32 a2) 33 v33) 34 a0) 35 v35) 36 a2) 37 v37) 11 v33) 12 v37) 38 v33) 39 v39) 13 (.int .i64 0)) 14 (.int .i64 0)) h_3)
theorem e21 (X : CallT) (a0 a1 a2 a3 a4 : Value) (h : AH) (K : Value → AH → Prop) : cwp2 Try.prog X (Try.f21.body.getD .skip) (endW Try.prog Try.f21 K) (envOf [a0, a1, a2, a3, a4]) h = s21 X a0 a1 a2 a3 a4 h K := by kernel_rfl
theorem c21 {a0 a1 a2 a3 a4 : Value} {h : AH} {K : Value → AH → Prop} (hs : s21 (callW Try.prog) a0 a1 a2 a3 a4 h K) : callW Try.prog 21 [a0, a1, a2, a3, a4] h K := callW_of Try.func21 (by kernel_rfl) (Eq.mpr (e21 _ a0 a1 a2 a3 a4 _ _) hs)

/-- canopy/feed.New () -/
def s22 (X : CallT) (a0 a1 a2 : Value) (h : AH) (K : Value → AH → Prop) : Prop :=
  aBox a1 none h fun v4 h_1 =>
  optW (pOff 0 v4) fun v8 =>
  optW (rdRow false 1 v8 (reserve 1 h_1)) fun v9 =>
  optW (pOff 1 v4) fun v10 =>
  optW (rdRow false 1 v10 (reserve 1 h_1)) fun v11 =>
  optW (pOff 2 v4) fun v12 =>
  optW (rdRow false 1 v12 (reserve 1 h_1)) fun v13 =>
  X 40 [v13] (reserve 1 h_1) fun v14 h_2 =>
  (∀ x ∈ (idOf v10), ((reserve 1 h_1) : AH)[x]? = (h_2 : AH)[x]?) ∧
  (∀ x ∈ (idOf v8), ((reserve 1 h_1) : AH)[x]? = (h_2 : AH)[x]?) ∧
  optW (pOff 3 v4) fun v15 =>
  (∀ x ∈ (idOf v15), ((reserve 1 h_1) : AH)[x]? = (h_2 : AH)[x]?) ∧
  optW (rdRow false 1 v15 h_2) fun v16 =>
  X 40 [v16] h_2 fun v17 h_3 =>
  (∀ x ∈ (idOf v10), (h_2 : AH)[x]? = (h_3 : AH)[x]?) ∧
  (∀ x ∈ (idOf v8), (h_2 : AH)[x]? = (h_3 : AH)[x]?) ∧
  optW (pOff 4 v4) fun v18 =>
  (∀ x ∈ (idOf v18), (h_2 : AH)[x]? = (h_3 : AH)[x]?) ∧
  (∀ x ∈ (idOf v18), ((reserve 1 h_1) : AH)[x]? = (h_2 : AH)[x]?) ∧
  optW (rdRow false 1 v18 h_3) fun v19 =>
  X 41 [v19] h_3 fun v20 h_4 =>
  (∀ x ∈ (idOf v10), (h_3 : AH)[x]? = (h_4 : AH)[x]?) ∧
  (∀ x ∈ (idOf v8), (h_3 : AH)[x]? = (h_4 : AH)[x]?) ∧
  optW (pOff 5 v4) fun v21 =>
  (∀ x ∈ (idOf v21), (h_3 : AH)[x]? = (h_4 : AH)[x]?) ∧
  (∀ x ∈ (idOf v21), (h_2 : AH)[x]? = (h_3 : AH)[x]?) ∧
  (∀ x ∈ (idOf v21), ((reserve 1 h_1) : AH)[x]? = (h_2 : AH)[x]?) ∧
  optW (rdRow false 1 v21 h_4) fun v22 =>
  X 42 [v22] h_4 fun v23 h_5 =>
  (∀ x ∈ (idOf v10), (h_4 : AH)[x]? = (h_5 : AH)[x]?) ∧
  (∀ x ∈ (idOf v8), (h_4 : AH)[x]? = (h_5 : AH)[x]?) ∧
  optW (pOff 6 v4) fun v24 =>
  (∀ x ∈ (idOf v24), (h_4 : AH)[x]? = (h_5 : AH)[x]?) ∧
  (∀ x ∈ (idOf v24), (h_3 : AH)[x]? = (h_4 : AH)[x]?) ∧
  (∀ x ∈ (idOf v24), (h_2 : AH)[x]? = (h_3 : AH)[x]?) ∧
  (∀ x ∈ (idOf v24), ((reserve 1 h_1) : AH)[x]? = (h_2 : AH)[x]?) ∧
  optW (rdRow false 1 v24 h_5) fun v25 =>
  X 43 [v25] h_5 fun v26 h_6 =>
  (∀ x ∈ (idOf v10), (h_5 : AH)[x]? = (h_6 : AH)[x]?) ∧
  (∀ x ∈ (idOf v8), (h_5 : AH)[x]? = (h_6 : AH)[x]?) ∧
  optW (bld [(.int .i64 0), (.int .i64 0), (.slice none 0 0), (.slice none 0 0), (.slice none 0 0), (.slice none 0 0), (.slice none 0 0)] [(0, 1), (1, 1), (2, 1), (3, 1), (4, 1), (5, 1), (6, 1)] [(0, v9), (1, v11), (2, v14), (3, v17), (4, v20), (5, v23), (6, v26)]) fun v27 =>
  newR (some (h_1.length)) [(.int .i64 0), (.int .i64 0), (.slice none 0 0), (.slice none 0 0), (.slice none 0 0), (.slice none 0 0), (.slice none 0 0)] h_6 fun v7 h_7 =>
  optW (pStore 7 v7 v27 h_7) fun h_8 =>
  optW (rdRow true 7 v7 h_8) fun v28 =>
  X 44 [v28] h_8 fun v29 h_9 =>
  X 45 [a0] h_9 fun v31 h_10 =>
  optW (bld [(.int .i64 0), (.int .i64 0), (.slice none 0 0), (.slice none 0 0), (.slice none 0 0), (.slice none 0 0), (.slice none 0 0), (.map none), (.int .i64 0), (.slice none 0 0), (.slice none 0 0), (.int .i64 0), (.slice none 0 0), (.int .i64 0), (.int .i64 0), (.slice none 0 0), (.int .i64 0), (.int .i64 0), (.bool false)] [(0, 10), (10, 2), (12, 1), (13, 1), (14, 1), (15, 1), (16, 1), (17, 1), (18, 1)] [(0, v29), (2, v31), (3, a2)]) fun v33 =>
  aBox v33 none h_10 fun v34 h_11 =>
  K v34 h_11
theorem e22 (X : CallT) (a0 a1 a2 : Value) (h : AH) (K : Value → AH → Prop) : cwp2 Try.prog X (Try.f22.body.getD .skip) (endW Try.prog Try.f22 K) (envOf [a0, a1, a2]) h = s22 X a0 a1 a2 h K := by kernel_rfl
theorem c22 {a0 a1 a2 : Value} {h : AH} {K : Value → AH → Prop} (hs : s22 (callW Try.prog) a0 a1 a2 h K) : callW Try.prog 22 [a0, a1, a2] h K := callW_of Try.func22 (by kernel_rfl) (Eq.mpr (e22 _ a0 a1 a2 _ _) hs)

/-- (*canopy/feed.Feed).Write (I at e: live [0, 12, 13, 14], writes [7, 14, 15, 16, 17, 18, 19, 20, 21, 22, 23, 24, 25, 26]) -/
def s23 (X : CallT) (a0 a1 : Value) (h : AH) (K : Value → AH → Prop) : Prop :=
  optW (pNilCheck a0) fun v9 =>
  optW (pOff 18 v9) fun v10 =>
  optW (rdRow false 1 v10 h) fun v11 =>
  condW v11 (
    K (.tuple #[(.int .i64 0), (.int .i64 14)]) h
  ) (
    optW (lenSl a1) fun v13 =>
    loopE (fun I e h_1 =>
      optW (pBin Try.prog .lss 3 (e 14) (e 13)) fun v15 =>
      condW v15 (
        optW (pIdxS 1 (e 12) (e 14)) fun v16 =>
        optW (rdRow false 1 v16 h_1) fun v17 =>
        optW (pNilCheck (e 0)) fun v19 =>
        optW (pOff 16 v19) fun v20 =>
        optW (rdRow false 1 v20 h_1) fun v21 =>
        optW (pBin Try.prog .neq 42 v21 (.int .i64 0)) fun v22 =>
        condW v22 (
          optW (pNilCheck (e 0)) fun v28 =>
          optW (pOff 17 v28) fun v29 =>
          optW (rdRow false 1 v29 h_1) fun v30 =>
          optW (pNilCheck (e 0)) fun v32 =>
          optW (pOff 16 v32) fun v33 =>
          optW (rdRow false 1 v33 h_1) fun v34 =>
          K (.tuple #[v30, v34]) h_1
        ) (
          X 46 [(e 0), v17] h_1 fun v25 h_2 =>
          optW (pBin Try.prog .add 3 (e 14) (.int .i64 1)) fun v26 =>
          I (pt (pt (pt (pt (pt (pt (pt (pt (pt (pt (pt (pt (pt (pt e 15 v15) 16 v16) 17 v17) 7 v17) 18 (e 0)) 19 v19) 20 v20) 21 v21) 22 v22) 23 (e 0)) 24 v17) 25 v25) 26 v26) 14 v26) h_2)
      ) (
        optW (pNilCheck (e 0)) fun v28_1 =>
        optW (pOff 17 v28_1) fun v29_1 =>
        optW (rdRow false 1 v29_1 h_1) fun v30_1 =>
        optW (pNilCheck (e 0)) fun v32_1 =>
        optW (pOff 16 v32_1) fun v33_1 =>
        optW (rdRow false 1 v33_1 h_1) fun v34_1 =>
        K (.tuple #[v30_1, v34_1]) h_1))
    (pt (pt (pt (pt (pt (pt (pt (pt (pt (envOf [a0, a1]) 4 (.int .i64 0)) 5 (.int .i64 0)) 8 a0) 9 v9) 10 v10) 11 v11) 12 a1) 13 v13) 14 (.int .i64 0)) h)
theorem e23 (X : CallT) (a0 a1 : Value) (h : AH) (K : Value → AH → Prop) : cwp2 Try.prog X (Try.f23.body.getD .skip) (endW Try.prog Try.f23 K) (envOf [a0, a1]) h = s23 X a0 a1 h K := by kernel_rfl
theorem c23 {a0 a1 : Value} {h : AH} {K : Value → AH → Prop} (hs : s23 (callW Try.prog) a0 a1 h K) : callW Try.prog 23 [a0, a1] h K := callW_of Try.func23 (by kernel_rfl) (Eq.mpr (e23 _ a0 a1 _ _) hs)

/-- (*canopy/feed.Feed).Close () -/
def s24 (X : CallT) (a0 : Value) (h : AH) (K : Value → AH → Prop) : Prop :=
  optW (pNilCheck a0) fun v6 =>
  optW (pOff 18 v6) fun v7 =>
  optW (rdRow false 1 v7 h) fun v8 =>
  condW v8 (
    K (.tuple #[(.bool false), (.int .i64 0), (.int .i64 14)]) h
  ) (
    optW (pNilCheck a0) fun v10 =>
    optW (pOff 16 v10) fun v11 =>
    optW (rdRow false 1 v11 h) fun v12 =>
    optW (pBin Try.prog .eql 42 v12 (.int .i64 0)) fun v13 =>
    condW v13 (
      X 47 [a0] h fun v15 h_1 =>
      optW (pNilCheck a0) fun v17 =>
      optW (pOff 10 v17) fun v18 =>
      optW (pOff 0 v18) fun v19 =>
      optW (rdRow false 1 v19 h_1) fun v20 =>
      optW (lenSl v20) fun v21 =>
      optW (pBin Try.prog .gtr 3 v21 (.int .i64 0)) fun v22 =>
      condW v22 (
        optW (pNilCheck a0) fun v25 =>
        optW (pOff 10 v25) fun v26 =>
        optW (pOff 1 v26) fun v27 =>
        optW (rdRow false 1 v27 h_1) fun v28 =>
        X 48 [a0, (.int .i64 12), v28] h_1 fun v29 h_2 =>
        optW (pNilCheck a0) fun v31 =>
        optW (pOff 18 v31) fun v32 =>
        optW (pStore 1 v32 (.bool true) h_2) fun h_3 =>
        optW (pNilCheck a0) fun v34 =>
        optW (pOff 16 v34) fun v35 =>
        optW (rdRow false 1 v35 h_3) fun v36 =>
        optW (pBin Try.prog .eql 42 v36 (.int .i64 0)) fun v37 =>
        gopD (gB v37 true) (fun k =>
          k a0 h_3 [] ((3, (idOf v35)) :: [])) h_3 [] ((3, (idOf v35)) :: []) fun v39 h_4 H S =>
        gopD (gB v37 true) (fun k_1 =>
          optW (pNilCheck v39) fun v40_1 =>
          k_1 v40_1 h_4 H S) h_4 H S fun v40 h_5 H_1 S_1 =>
        gopD (gB v37 true) (fun k_2 =>
          optW (pOff 0 v40) fun v41_1 =>
          k_2 v41_1 h_5 H_1 S_1) h_5 H_1 S_1 fun v41 h_6 H_2 S_2 =>
        gopD (gB v37 true) (fun k_3 =>
          X 49 [v41] h_6 fun v42_1 h_8 =>
          readC #[0, 1, 3, 7, 15, 31, 63, 127, 255, 511, 1023, 0, 2048, 6144, 14336, 0, 32768, 98304, 229376, 2047, 557055, 2097151] 9 h_6 h_8 S_2 (
            k_3 v42_1 h_8 ((9, h_6, h_8) :: H_2) S_2)) h_6 H_2 S_2 fun v42 h_7 H_3 S_3 =>
        optW (pPick v37 v42 (.bool false)) fun v43 =>
        optW (pNilCheck a0) fun v45 =>
        optW (pOff 17 v45) fun v46 =>
        histC #[0, 1, 3, 7, 15, 31, 63, 127, 255, 511, 1023, 0, 2048, 6144, 14336, 0, 32768, 98304, 229376, 2047, 557055, 2097151] 14 (idOf v46) H_3 (
          optW (rdRow false 1 v46 h_7) fun v47 =>
          optW (pNilCheck a0) fun v49 =>
          optW (pOff 16 v49) fun v50 =>
          histC #[0, 1, 3, 7, 15, 31, 63, 127, 255, 511, 1023, 0, 2048, 6144, 14336, 0, 32768, 98304, 229376, 2047, 557055, 2097151] 18 (idOf v50) H_3 (
            optW (rdRow false 1 v50 h_7) fun v51 =>
            K (.tuple #[v43, v47, v51]) h_7))
      ) (
        optW (pNilCheck a0) fun v31_1 =>
        optW (pOff 18 v31_1) fun v32_1 =>
        optW (pStore 1 v32_1 (.bool true) h_1) fun h_9 =>
        optW (pNilCheck a0) fun v34_1 =>
        optW (pOff 16 v34_1) fun v35_1 =>
        optW (rdRow false 1 v35_1 h_9) fun v36_1 =>
        optW (pBin Try.prog .eql 42 v36_1 (.int .i64 0)) fun v37_1 =>
        gopD (gB v37_1 true) (fun k_4 =>
          k_4 a0 h_9 [] ((3, (idOf v35_1)) :: [])) h_9 [] ((3, (idOf v35_1)) :: []) fun v39_1 h_10 H_4 S_4 =>
        gopD (gB v37_1 true) (fun k_5 =>
          optW (pNilCheck v39_1) fun v40_3 =>
          k_5 v40_3 h_10 H_4 S_4) h_10 H_4 S_4 fun v40_2 h_11 H_5 S_5 =>
        gopD (gB v37_1 true) (fun k_6 =>
          optW (pOff 0 v40_2) fun v41_3 =>
          k_6 v41_3 h_11 H_5 S_5) h_11 H_5 S_5 fun v41_2 h_12 H_6 S_6 =>
        gopD (gB v37_1 true) (fun k_7 =>
          X 49 [v41_2] h_12 fun v42_3 h_14 =>
          readC #[0, 1, 3, 7, 15, 31, 63, 127, 255, 511, 1023, 0, 2048, 6144, 14336, 0, 32768, 98304, 229376, 2047, 557055, 2097151] 9 h_12 h_14 S_6 (
            k_7 v42_3 h_14 ((9, h_12, h_14) :: H_6) S_6)) h_12 H_6 S_6 fun v42_2 h_13 H_7 S_7 =>
        optW (pPick v37_1 v42_2 (.bool false)) fun v43_1 =>
        optW (pNilCheck a0) fun v45_1 =>
        optW (pOff 17 v45_1) fun v46_1 =>
        histC #[0, 1, 3, 7, 15, 31, 63, 127, 255, 511, 1023, 0, 2048, 6144, 14336, 0, 32768, 98304, 229376, 2047, 557055, 2097151] 14 (idOf v46_1) H_7 (
          optW (rdRow false 1 v46_1 h_13) fun v47_1 =>
          optW (pNilCheck a0) fun v49_1 =>
          optW (pOff 16 v49_1) fun v50_1 =>
          histC #[0, 1, 3, 7, 15, 31, 63, 127, 255, 511, 1023, 0, 2048, 6144, 14336, 0, 32768, 98304, 229376, 2047, 557055, 2097151] 18 (idOf v50_1) H_7 (
            optW (rdRow false 1 v50_1 h_13) fun v51_1 =>
            K (.tuple #[v43_1, v47_1, v51_1]) h_13)))
    ) (
      optW (pNilCheck a0) fun v17_1 =>
      optW (pOff 10 v17_1) fun v18_1 =>
      optW (pOff 0 v18_1) fun v19_1 =>
      optW (rdRow false 1 v19_1 h) fun v20_1 =>
      optW (lenSl v20_1) fun v21_1 =>
      optW (pBin Try.prog .gtr 3 v21_1 (.int .i64 0)) fun v22_1 =>
      condW v22_1 (
        optW (pNilCheck a0) fun v25_1 =>
        optW (pOff 10 v25_1) fun v26_1 =>
        optW (pOff 1 v26_1) fun v27_1 =>
        optW (rdRow false 1 v27_1 h) fun v28_1 =>
        X 48 [a0, (.int .i64 12), v28_1] h fun v29_1 h_15 =>
        optW (pNilCheck a0) fun v31_2 =>
        optW (pOff 18 v31_2) fun v32_2 =>
        optW (pStore 1 v32_2 (.bool true) h_15) fun h_16 =>
        optW (pNilCheck a0) fun v34_2 =>
        optW (pOff 16 v34_2) fun v35_2 =>
        optW (rdRow false 1 v35_2 h_16) fun v36_2 =>
        optW (pBin Try.prog .eql 42 v36_2 (.int .i64 0)) fun v37_2 =>
        gopD (gB v37_2 true) (fun k_8 =>
          k_8 a0 h_16 [] ((3, (idOf v35_2)) :: [])) h_16 [] ((3, (idOf v35_2)) :: []) fun v39_2 h_17 H_8 S_8 =>
        gopD (gB v37_2 true) (fun k_9 =>
          optW (pNilCheck v39_2) fun v40_5 =>
          k_9 v40_5 h_17 H_8 S_8) h_17 H_8 S_8 fun v40_4 h_18 H_9 S_9 =>
        gopD (gB v37_2 true) (fun k_10 =>
          optW (pOff 0 v40_4) fun v41_5 =>
          k_10 v41_5 h_18 H_9 S_9) h_18 H_9 S_9 fun v41_4 h_19 H_10 S_10 =>
        gopD (gB v37_2 true) (fun k_11 =>
          X 49 [v41_4] h_19 fun v42_5 h_21 =>
          readC #[0, 1, 3, 7, 15, 31, 63, 127, 255, 511, 1023, 0, 2048, 6144, 14336, 0, 32768, 98304, 229376, 2047, 557055, 2097151] 9 h_19 h_21 S_10 (
            k_11 v42_5 h_21 ((9, h_19, h_21) :: H_10) S_10)) h_19 H_10 S_10 fun v42_4 h_20 H_11 S_11 =>
        optW (pPick v37_2 v42_4 (.bool false)) fun v43_2 =>
        optW (pNilCheck a0) fun v45_2 =>
        optW (pOff 17 v45_2) fun v46_2 =>
        histC #[0, 1, 3, 7, 15, 31, 63, 127, 255, 511, 1023, 0, 2048, 6144, 14336, 0, 32768, 98304, 229376, 2047, 557055, 2097151] 14 (idOf v46_2) H_11 (
          optW (rdRow false 1 v46_2 h_20) fun v47_2 =>
          optW (pNilCheck a0) fun v49_2 =>
          optW (pOff 16 v49_2) fun v50_2 =>
          histC #[0, 1, 3, 7, 15, 31, 63, 127, 255, 511, 1023, 0, 2048, 6144, 14336, 0, 32768, 98304, 229376, 2047, 557055, 2097151] 18 (idOf v50_2) H_11 (
            optW (rdRow false 1 v50_2 h_20) fun v51_2 =>
            K (.tuple #[v43_2, v47_2, v51_2]) h_20))
      ) (
        optW (pNilCheck a0) fun v31_3 =>
        optW (pOff 18 v31_3) fun v32_3 =>
        optW (pStore 1 v32_3 (.bool true) h) fun h_22 =>
        optW (pNilCheck a0) fun v34_3 =>
        optW (pOff 16 v34_3) fun v35_3 =>
        optW (rdRow false 1 v35_3 h_22) fun v36_3 =>
        optW (pBin Try.prog .eql 42 v36_3 (.int .i64 0)) fun v37_3 =>
        gopD (gB v37_3 true) (fun k_12 =>
          k_12 a0 h_22 [] ((3, (idOf v35_3)) :: [])) h_22 [] ((3, (idOf v35_3)) :: []) fun v39_3 h_23 H_12 S_12 =>
        gopD (gB v37_3 true) (fun k_13 =>
          optW (pNilCheck v39_3) fun v40_7 =>
          k_13 v40_7 h_23 H_12 S_12) h_23 H_12 S_12 fun v40_6 h_24 H_13 S_13 =>
        gopD (gB v37_3 true) (fun k_14 =>
          optW (pOff 0 v40_6) fun v41_7 =>
          k_14 v41_7 h_24 H_13 S_13) h_24 H_13 S_13 fun v41_6 h_25 H_14 S_14 =>
        gopD (gB v37_3 true) (fun k_15 =>
          X 49 [v41_6] h_25 fun v42_7 h_27 =>
          readC #[0, 1, 3, 7, 15, 31, 63, 127, 255, 511, 1023, 0, 2048, 6144, 14336, 0, 32768, 98304, 229376, 2047, 557055, 2097151] 9 h_25 h_27 S_14 (
            k_15 v42_7 h_27 ((9, h_25, h_27) :: H_14) S_14)) h_25 H_14 S_14 fun v42_6 h_26 H_15 S_15 =>
        optW (pPick v37_3 v42_6 (.bool false)) fun v43_3 =>
        optW (pNilCheck a0) fun v45_3 =>
        optW (pOff 17 v45_3) fun v46_3 =>
        histC #[0, 1, 3, 7, 15, 31, 63, 127, 255, 511, 1023, 0, 2048, 6144, 14336, 0, 32768, 98304, 229376, 2047, 557055, 2097151] 14 (idOf v46_3) H_15 (
          optW (rdRow false 1 v46_3 h_26) fun v47_3 =>
          optW (pNilCheck a0) fun v49_3 =>
          optW (pOff 16 v49_3) fun v50_3 =>
          histC #[0, 1, 3, 7, 15, 31, 63, 127, 255, 511, 1023, 0, 2048, 6144, 14336, 0, 32768, 98304, 229376, 2047, 557055, 2097151] 18 (idOf v50_3) H_15 (
            optW (rdRow false 1 v50_3 h_26) fun v51_3 =>
            K (.tuple #[v43_3, v47_3, v51_3]) h_26)))))
theorem e24 (X : CallT) (a0 : Value) (h : AH) (K : Value → AH → Prop) : cwp2 Try.prog X (Try.f24.body.getD .skip) (endW Try.prog Try.f24 K) (envOf [a0]) h = s24 X a0 h K := by kernel_rfl
theorem c24 {a0 : Value} {h : AH} {K : Value → AH → Prop} (hs : s24 (callW Try.prog) a0 h K) : callW Try.prog 24 [a0] h K := callW_of Try.func24 (by kernel_rfl) (Eq.mpr (e24 _ a0 _ _) hs)

end Go.Proofs.Ytebbjimmgblcpaa.W
end

section
/- Go functions, printed by a program as predicates on what may come behind; each is the function. Conditions: none. -/
namespace Go.Proofs.Ytebbjimmgblcpaa.W
open Go Go.AM
set_option linter.unusedVariables false
set_option maxRecDepth 100000


/-- canopy/feed.Tokens () -/
def s28 (X : CallT) (a0 a1 : Value) (h : AH) (K : Value → AH → Prop) : Prop :=
  optW (bld [(.int .i64 0), (.int .i64 0), (.slice none 0 0), (.slice none 0 0), (.slice none 0 0), (.slice none 0 0), (.slice none 0 0)] [(0, 1), (1, 1), (2, 1), (3, 1), (4, 1), (5, 1), (6, 1)] []) fun v12 =>
  X 22 [a0, v12, (.int .i64 9223372036854775807)] h fun v13 h_1 =>
  strB a1 none h_1 fun v16 h_2 =>
  X 23 [v13, v16] h_2 fun v17 h_3 =>
  X 24 [v13] h_3 fun v20 h_4 =>
  optW (pExtract v20 0) fun v21 =>
  optW (pExtract v20 1) fun v22 =>
  optW (pExtract v20 2) fun v23 =>
  optW (pBin Try.prog .neq 42 v23 (.int .i64 0)) fun v25 =>
  condW v25 (
    K (.tuple #[(.slice none 0 0), v22, v23]) h_4
  ) (
    optW (pNilCheck v13) fun v29 =>
    optW (pOff 15 v29) fun v30 =>
    optW (rdRow false 1 v30 h_4) fun v31 =>
    X 40 [v31] h_4 fun v32 h_5 =>
    K (.tuple #[v32, (.int .i64 0), (.int .i64 0)]) h_5)
theorem e28 (X : CallT) (a0 a1 : Value) (h : AH) (K : Value → AH → Prop) : cwp2 Try.prog X (Try.f28.body.getD .skip) (endW Try.prog Try.f28 K) (envOf [a0, a1]) h = s28 X a0 a1 h K := by kernel_rfl
theorem c28 {a0 a1 : Value} {h : AH} {K : Value → AH → Prop} (hs : s28 (callW Try.prog) a0 a1 h K) : callW Try.prog 28 [a0, a1] h K := callW_of Try.func28 (by kernel_rfl) (Eq.mpr (e28 _ a0 a1 _ _) hs)

/-- canopy/canopyref14.Tokens () -/
def s29 (X : CallT) (a0 a1 : Value) (h : AH) (K : Value → AH → Prop) : Prop :=
  optW (bld [(.int .i64 0), (.int .i64 0), (.slice none 0 0), (.slice none 0 0), (.slice none 0 0), (.slice none 0 0), (.slice none 0 0)] [(0, 1), (1, 1), (2, 1), (3, 1), (4, 1), (5, 1), (6, 1)] []) fun v12 =>
  X 36 [a0, v12, (.int .i64 1099511627776)] h fun v13 h_1 =>
  strB a1 none h_1 fun v16 h_2 =>
  X 37 [v13, v16] h_2 fun v17 h_3 =>
  X 39 [v13] h_3 fun v20 h_4 =>
  optW (pExtract v20 0) fun v21 =>
  optW (pExtract v20 1) fun v22 =>
  optW (pExtract v20 2) fun v23 =>
  optW (pBin Try.prog .neq 3 v23 (.int .i64 0)) fun v25 =>
  condW v25 (
    K (.tuple #[(.slice none 0 0), v22, v23]) h_4
  ) (
    optW (pNilCheck v13) fun v29 =>
    optW (pOff 12 v29) fun v30 =>
    optW (rdRow false 1 v30 h_4) fun v31 =>
    K (.tuple #[v31, (.int .i64 0), (.int .i64 0)]) h_4)
theorem e29 (X : CallT) (a0 a1 : Value) (h : AH) (K : Value → AH → Prop) : cwp2 Try.prog X (Try.f29.body.getD .skip) (endW Try.prog Try.f29 K) (envOf [a0, a1]) h = s29 X a0 a1 h K := by kernel_rfl
theorem c29 {a0 a1 : Value} {h : AH} {K : Value → AH → Prop} (hs : s29 (callW Try.prog) a0 a1 h K) : callW Try.prog 29 [a0, a1] h K := callW_of Try.func29 (by kernel_rfl) (Eq.mpr (e29 _ a0 a1 _ _) hs)

/-- canopy/canopyref1.Ints (I at e: live [0, 1, 5], writes [4, 5, 11, 12, 13, 14, 15, 16, 17, 18, 19, 20, 21, 22, 23, 24, 25]) -/
def s30 (X : CallT) (a0 a1 : Value) (h : AH) (K : Value → AH → Prop) : Prop :=
  optW (lenSl a0) fun v7 =>
  optW (lenSl a1) fun v9 =>
  optW (pBin Try.prog .neq 3 v7 v9) fun v10 =>
  condW v10 (
    K (.bool false) h
  ) (
    loopE (fun I e h_1 =>
      optW (lenSl (e 0)) fun v13 =>
      optW (pBin Try.prog .lss 3 (e 5) v13) fun v14 =>
      condW v14 (
        optW (pIdxS 1 (e 0) (e 5)) fun v19 =>
        optW (rdRow false 1 v19 h_1) fun v20 =>
        optW (pIdxS 1 (e 1) (e 5)) fun v23 =>
        optW (rdRow false 1 v23 h_1) fun v24 =>
        optW (pBin Try.prog .neq 3 v20 v24) fun v25 =>
        condW v25 (
          K (.bool false) h_1
        ) (
          optW (pBin Try.prog .add 3 (e 5) (.int .i64 1)) fun v16 =>
          I (pt (pt (pt (pt (pt (pt (pt (pt (pt (pt (pt (pt (pt (pt (pt (pt e 11 (e 5)) 12 (e 0)) 13 v13) 14 v14) 17 (e 0)) 18 (e 5)) 19 v19) 20 v20) 21 (e 1)) 22 (e 5)) 23 v23) 24 v24) 25 v25) 15 (e 5)) 16 v16) 5 v16) h_1)
      ) (
        K (.bool true) h_1))
    (pt (pt (pt (pt (pt (pt (pt (envOf [a0, a1]) 4 (.bool false)) 6 a0) 7 v7) 8 a1) 9 v9) 10 v10) 5 (.int .i64 0)) h)
theorem e30 (X : CallT) (a0 a1 : Value) (h : AH) (K : Value → AH → Prop) : cwp2 Try.prog X (Try.f30.body.getD .skip) (endW Try.prog Try.f30 K) (envOf [a0, a1]) h = s30 X a0 a1 h K := by kernel_rfl
theorem c30 {a0 a1 : Value} {h : AH} {K : Value → AH → Prop} (hs : s30 (callW Try.prog) a0 a1 h K) : callW Try.prog 30 [a0, a1] h K := callW_of Try.func30 (by kernel_rfl) (Eq.mpr (e30 _ a0 a1 _ _) hs)

/-- (*canopy/feed.Feed).Deep () -/
def s31 (X : CallT) (a0 : Value) (h : AH) (K : Value → AH → Prop) : Prop :=
  optW (pNilCheck a0) fun v4 =>
  optW (pOff 0 v4) fun v5 =>
  optW (pOff 9 v5) fun v6 =>
  optW (rdRow false 1 v6 h) fun v7 =>
  optW (lenSl v7) fun v8 =>
  K v8 h
theorem e31 (X : CallT) (a0 : Value) (h : AH) (K : Value → AH → Prop) : cwp2 Try.prog X (Try.f31.body.getD .skip) (endW Try.prog Try.f31 K) (envOf [a0]) h = s31 X a0 h K := by kernel_rfl
theorem c31 {a0 : Value} {h : AH} {K : Value → AH → Prop} (hs : s31 (callW Try.prog) a0 h K) : callW Try.prog 31 [a0] h K := callW_of Try.func31 (by kernel_rfl) (Eq.mpr (e31 _ a0 _ _) hs)

/-- canopy/canopylaw14.Each (I at e: live [0, 3, 4], writes [4, 8, 9, 10, 11, 12, 13, 14, 15, 16, 17, 18, 19, 20, 21, 22, 23, 24, 25, 26, 27, 28, 29, 30, 31, 32, 33, 34, 35, 36, 37, 38, 39, 40, 41, 42, 43, 44, 45]) -/
def s32 (X : CallT) (a0 : Value) (h : AH) (K : Value → AH → Prop) : Prop :=
  newR none [(.int .i64 0), (.int .i64 0), (.slice none 0 0), (.slice none 0 0), (.slice none 0 0), (.slice none 0 0), (.slice none 0 0)] h fun v2 h_1 =>
  optW (bldSl 1 [(.int .i64 0)] 1 [(0, (.int .i64 0))]) fun c =>
  newW none (.row c true) h_1 fun i h_2 =>
  optW (bldSl 1 [(.int .i64 0)] 1 [(0, (.int .i64 0))]) fun c_1 =>
  newW none (.row c_1 true) h_2 fun i_1 h_3 =>
  optW (bld [(.int .i64 0), (.int .i64 0), (.slice none 0 0), (.slice none 0 0), (.slice none 0 0), (.slice none 0 0), (.slice none 0 0)] [(0, 1), (1, 1), (2, 1), (3, 1), (4, 1), (5, 1), (6, 1)] [(0, (.int .i64 1)), (1, (.int .i64 1)), (2, (.slice (some ⟨i, 0, none⟩) 1 1)), (3, (.slice (some ⟨i_1, 0, none⟩) 1 1))]) fun v7 =>
  newR none [(.int .i64 0), (.int .i64 0), (.slice none 0 0), (.slice none 0 0), (.slice none 0 0), (.slice none 0 0), (.slice none 0 0)] h_3 fun v3 h_4 =>
  optW (pStore 7 v3 v7 h_4) fun h_5 =>
  loopE (fun I e h_6 =>
    optW (lenSl (e 0)) fun v10 =>
    optW (pBin Try.prog .lss 3 (e 4) v10) fun v11 =>
    condW v11 (
      optW (pIdxS 2 (e 0) (e 4)) fun v16 =>
      optW (pOff 1 v16) fun v17 =>
      optW (rdRow false 1 v17 h_6) fun v18 =>
      optW (pBin Try.prog .eql 3 v18 (.int .i64 1)) fun v27 =>
      condW v27 (
        optW (pOff 4 (e 3)) fun v28 =>
        optW (rdRow false 1 v28 h_6) fun v29 =>
        optW (bld [(.int .i64 0), (.int .i64 0), (.int .i64 0), (.int .i64 0)] [(0, 1), (1, 1), (2, 1), (3, 1)] [(1, (e 4)), (3, (.int .i64 1))]) fun v31 =>
        optW (bldSl 4 [(.int .i64 0), (.int .i64 0), (.int .i64 0), (.int .i64 0)] 1 [(0, v31)]) fun c_2 =>
        newW none (.row c_2 true) h_6 fun i_2 h_7 =>
        appSl 4 v29 (.slice (some ⟨i_2, 0, none⟩) 1 1) h_7 fun v33 h_8 =>
        optW (pOff 4 (e 3)) fun v34 =>
        optW (pStore 1 v34 v33 h_8) fun h_9 =>
        optW (pBin Try.prog .add 3 (e 4) (.int .i64 1)) fun v13 =>
        I (pt (pt (pt (pt (pt (pt (pt (pt (pt (pt (pt (pt (pt (pt (pt (pt (pt (pt (pt (pt (pt e 8 (e 4)) 9 (e 0)) 10 v10) 11 v11) 14 (e 0)) 15 (e 4)) 16 v16) 17 v17) 18 v18) 27 v27) 26 v27) 28 v28) 29 v29) 30 (e 4)) 31 v31) 32 (.slice (some ⟨i_2, 0, none⟩) 1 1)) 33 v33) 34 v34) 12 (e 4)) 13 v13) 4 v13) h_9
      ) (
        optW (pBin Try.prog .eql 3 v18 (.int .i64 2)) fun v36 =>
        condW v36 (
          optW (pOff 5 (e 3)) fun v37 =>
          optW (rdRow false 1 v37 h_6) fun v38 =>
          optW (bld [(.int .i64 0), (.int .i64 0), (.int .i64 0), (.int .i64 0)] [(0, 1), (1, 1), (2, 1), (3, 1)] [(1, (e 4))]) fun v40 =>
          optW (bld [(.int .i64 0), (.int .i64 0), (.int .i64 0), (.int .i64 0)] [(0, 1), (1, 1), (2, 1), (3, 1)] [(1, (e 4)), (2, (.int .i64 1))]) fun v42 =>
          optW (bldSl 4 [(.int .i64 0), (.int .i64 0), (.int .i64 0), (.int .i64 0)] 2 [(0, v40), (1, v42)]) fun c_3 =>
          newW none (.row c_3 true) h_6 fun i_3 h_10 =>
          appSl 4 v38 (.slice (some ⟨i_3, 0, none⟩) 2 2) h_10 fun v44 h_11 =>
          optW (pOff 5 (e 3)) fun v45 =>
          optW (pStore 1 v45 v44 h_11) fun h_12 =>
          optW (pBin Try.prog .add 3 (e 4) (.int .i64 1)) fun v13_1 =>
          I (pt (pt (pt (pt (pt (pt (pt (pt (pt (pt (pt (pt (pt (pt (pt (pt (pt (pt (pt (pt (pt (pt (pt (pt (pt e 8 (e 4)) 9 (e 0)) 10 v10) 11 v11) 14 (e 0)) 15 (e 4)) 16 v16) 17 v17) 18 v18) 27 v27) 26 v27) 36 v36) 35 v36) 37 v37) 38 v38) 39 (e 4)) 40 v40) 41 (e 4)) 42 v42) 43 (.slice (some ⟨i_3, 0, none⟩) 2 2)) 44 v44) 45 v45) 12 (e 4)) 13 v13_1) 4 v13_1) h_12
        ) (
          optW (pOff 6 (e 3)) fun v19 =>
          optW (rdRow false 1 v19 h_6) fun v20 =>
          optW (bld [(.int .i64 0), (.int .i64 0), (.int .i64 0)] [(0, 1), (1, 1), (2, 1)] [(1, (e 4))]) fun v22 =>
          optW (bldSl 3 [(.int .i64 0), (.int .i64 0), (.int .i64 0)] 1 [(0, v22)]) fun c_4 =>
          newW none (.row c_4 true) h_6 fun i_4 h_13 =>
          appSl 3 v20 (.slice (some ⟨i_4, 0, none⟩) 1 1) h_13 fun v24 h_14 =>
          optW (pOff 6 (e 3)) fun v25 =>
          optW (pStore 1 v25 v24 h_14) fun h_15 =>
          optW (pBin Try.prog .add 3 (e 4) (.int .i64 1)) fun v13_2 =>
          I (pt (pt (pt (pt (pt (pt (pt (pt (pt (pt (pt (pt (pt (pt (pt (pt (pt (pt (pt (pt (pt (pt (pt e 8 (e 4)) 9 (e 0)) 10 v10) 11 v11) 14 (e 0)) 15 (e 4)) 16 v16) 17 v17) 18 v18) 27 v27) 26 v27) 36 v36) 35 v36) 19 v19) 20 v20) 21 (e 4)) 22 v22) 23 (.slice (some ⟨i_4, 0, none⟩) 1 1)) 24 v24) 25 v25) 12 (e 4)) 13 v13_2) 4 v13_2) h_15))
    ) (
      optW (rdRow true 7 (e 3) h_6) fun v46 =>
      optW (pStore 7 (e 2) v46 h_6) fun h_16 =>
      optW (resList Try.prog (pt (pt (pt (pt (pt e 8 (e 4)) 9 (e 0)) 10 v10) 11 v11) 46 v46) h_16 Try.f32.results.toList) fun vs => K (resOf vs) h_16))
  (pt (pt (pt (pt (pt (pt (envOf [a0]) 2 v2) 5 (.slice (some ⟨i, 0, none⟩) 1 1)) 6 (.slice (some ⟨i_1, 0, none⟩) 1 1)) 7 v7) 3 v3) 4 (.int .i64 0)) h_5
theorem e32 (X : CallT) (a0 : Value) (h : AH) (K : Value → AH → Prop) : cwp2 Try.prog X (Try.f32.body.getD .skip) (endW Try.prog Try.f32 K) (envOf [a0]) h = s32 X a0 h K := by kernel_rfl
theorem c32 {a0 : Value} {h : AH} {K : Value → AH → Prop} (hs : s32 (callW Try.prog) a0 h K) : callW Try.prog 32 [a0] h K := callW_of Try.func32 (by kernel_rfl) (Eq.mpr (e32 _ a0 _ _) hs)

/-- canopy/canopyref1.Sign () -/
def s33 (X : CallT) (a0 : Value) (h : AH) (K : Value → AH → Prop) : Prop :=
  aBox a0 none h fun v1 h_1 =>
  optW (pOff 1 v1) fun v3 =>
  optW (rdRow false 1 v3 h_1) fun v4 =>
  optW (pBin Try.prog .eql 3 v4 (.int .i64 1)) fun v6 =>
  condW v6 (
    optW (pOff 0 v1) fun v7 =>
    optW (rdRow false 1 v7 h_1) fun v8 =>
    optW (pBin Try.prog .add 9 (.string (bs [60])) v8) fun v9 =>
    optW (pBin Try.prog .add 9 v9 (.string (bs [62]))) fun v10 =>
    K v10 h_1
  ) (
    optW (pBin Try.prog .eql 3 v4 (.int .i64 2)) fun v12 =>
    condW v12 (
      optW (pOff 0 v1) fun v13 =>
      optW (rdRow false 1 v13 h_1) fun v14 =>
      optW (pBin Try.prog .add 9 (.string (bs [60, 47])) v14) fun v15 =>
      optW (pBin Try.prog .add 9 v15 (.string (bs [62]))) fun v16 =>
      K v16 h_1
    ) (
      optW (pOff 0 v1) fun v17 =>
      optW (rdRow false 1 v17 h_1) fun v18 =>
      K v18 h_1))
theorem e33 (X : CallT) (a0 : Value) (h : AH) (K : Value → AH → Prop) : cwp2 Try.prog X (Try.f33.body.getD .skip) (endW Try.prog Try.f33 K) (envOf [a0]) h = s33 X a0 h K := by kernel_rfl
theorem c33 {a0 : Value} {h : AH} {K : Value → AH → Prop} (hs : s33 (callW Try.prog) a0 h K) : callW Try.prog 33 [a0] h K := callW_of Try.func33 (by kernel_rfl) (Eq.mpr (e33 _ a0 _ _) hs)

/-- canopy/canopylaw1.within () -/
def s34 (X : CallT) (a0 a1 : Value) (h : AH) (K : Value → AH → Prop) : Prop :=
  optW (pBin Try.prog .rem 3 a0 a1) fun v8 =>
  optW (pBin Try.prog .lss 3 v8 (.int .i64 0)) fun v10 =>
  condW v10 (
    optW (pBin Try.prog .add 3 v8 a1) fun v13 =>
    K v13 h
  ) (
    K v8 h)
theorem e34 (X : CallT) (a0 a1 : Value) (h : AH) (K : Value → AH → Prop) : cwp2 Try.prog X (Try.f34.body.getD .skip) (endW Try.prog Try.f34 K) (envOf [a0, a1]) h = s34 X a0 a1 h K := by kernel_rfl
theorem c34 {a0 a1 : Value} {h : AH} {K : Value → AH → Prop} (hs : s34 (callW Try.prog) a0 a1 h K) : callW Try.prog 34 [a0, a1] h K := callW_of Try.func34 (by kernel_rfl) (Eq.mpr (e34 _ a0 a1 _ _) hs)

/-- canopy/canopylaw3.Make (I at e: live [0, 2, 9, 10], writes [10, 11, 12, 13, 14, 15, 16, 26, 27, 28, 29, 30, 31, 32, 33, 34, 35, 36, 37, 38, 39, 40, 41, 42, 43, 44, 45, 46, 47, 48, 49, 50, 51, 52, 53, 54, 55, 56, 57, 58, 59, 60, 61, 62, 63, 64, 65, 66, 67, 68, 69, 70, 71, 72, 73, 74, 75, 76, 77, 78, 79, 80, 81, 82, 83, 84, 85, 86, 87, 88, 89, 90, 91, 92, 93, 94, 95, 96, 97, 98, 99, 100, 101, 102, 103, 104, 105, 106, 107, 108, 109, 110, 111, 112, 113, 114, 115, 116, 117, 118, 119, 120, 121, 122, 123, 124, 125, 126, 127, 128, 129, 130, 131, 132, 133, 134]; J at e_1: live [10]; J_1 at e_2: live [0, 9, 11, 12, 13, 52, 85]) -/
def s35 (X : CallT) (a0 a1 a2 a3 : Value) (h : AH) (K : Value → AH → Prop) : Prop :=
  newR none [(.int .i64 0), (.int .i64 0), (.slice none 0 0), (.slice none 0 0), (.slice none 0 0), (.slice none 0 0), (.slice none 0 0)] h fun v8 h_1 =>
  X 54 [a1, a3] h_1 fun v19 h_2 =>
  optW (pBin Try.prog .add 3 (.int .i64 1) v19) fun v20 =>
  optW (pBin Try.prog .quo 3 a1 (.int .i64 7)) fun v22 =>
  X 54 [v22, (.int .i64 2)] h_2 fun v23 h_3 =>
  optW (pBin Try.prog .add 3 (.int .i64 1) v23) fun v24 =>
  optW (bld [(.int .i64 0), (.int .i64 0), (.slice none 0 0), (.slice none 0 0), (.slice none 0 0), (.slice none 0 0), (.slice none 0 0)] [(0, 1), (1, 1), (2, 1), (3, 1), (4, 1), (5, 1), (6, 1)] [(0, v20), (1, v24)]) fun v25 =>
  newR none [(.int .i64 0), (.int .i64 0), (.slice none 0 0), (.slice none 0 0), (.slice none 0 0), (.slice none 0 0), (.slice none 0 0)] h_3 fun v9 h_4 =>
  optW (pStore 7 v9 v25 h_4) fun h_5 =>
  loopE (fun I e h_6 =>
    optW (lenSl (e 2)) fun v28 =>
    optW (pBin Try.prog .lss 3 (e 10) v28) fun v29 =>
    gopW (gB v29 true) (fun k =>
      k (e 10) h_6) h_6 fun v31 h_7 =>
    gopW (gB v29 true) (fun k_1 =>
      optW (pBin Try.prog .lss 3 v31 (.int .i64 24)) fun v32_1 =>
      k_1 v32_1 h_7) h_7 fun v32 h_8 =>
    optW (pPick v29 v32 (.bool false)) fun v33 =>
    condW v33 (
      joinE (fun J =>
        optW (pIdxS 1 (e 2) (e 10)) fun v38 =>
        optW (rdRow false 1 v38 h_8) fun v39 =>
        X 54 [v39, (.int .i64 1099511627776)] h_8 fun v40 h_10 =>
        optW (pBin Try.prog .quo 3 v40 (.int .i64 8)) fun v42 =>
        optW (pOff 0 (e 9)) fun v43 =>
        optW (rdRow false 1 v43 h_10) fun v44 =>
        optW (pBin Try.prog .rem 3 v42 v44) fun v45 =>
        optW (pBin Try.prog .quo 3 v40 (.int .i64 80)) fun v47 =>
        optW (pOff 0 (e 9)) fun v48 =>
        optW (rdRow false 1 v48 h_10) fun v49 =>
        optW (pBin Try.prog .rem 3 v47 v49) fun v50 =>
        optW (pBin Try.prog .rem 3 v40 (.int .i64 8)) fun v52 =>
        optW (pBin Try.prog .eql 3 v52 (.int .i64 0)) fun v70 =>
        condW v70 (
          optW (pOff 2 (e 9)) fun v71 =>
          optW (rdRow false 1 v71 h_10) fun v72 =>
          optW (bldSl 1 [(.int .i64 0)] 1 [(0, v45)]) fun c =>
          newW none (.row c true) h_10 fun i h_11 =>
          appSl 1 v72 (.slice (some ⟨i, 0, none⟩) 1 1) h_11 fun v75 h_12 =>
          optW (pOff 2 (e 9)) fun v76 =>
          optW (pStore 1 v76 v75 h_12) fun h_13 =>
          J (pt (pt (pt (pt (pt (pt (pt (pt (pt (pt (pt (pt (pt (pt (pt (pt (pt (pt (pt (pt (pt (pt (pt (pt (pt (pt (pt (pt (pt (pt (pt (pt (pt (pt (pt (pt e 26 (e 10)) 27 (e 2)) 28 v28) 29 v29) 30 v29) 31 v31) 32 v32) 33 v33) 36 (e 2)) 37 (e 10)) 38 v38) 39 v39) 40 v40) 11 v40) 41 v40) 42 v42) 43 v43) 44 v44) 45 v45) 46 v40) 47 v47) 48 v48) 49 v49) 50 v50) 12 v45) 13 v50) 51 v40) 52 v52) 70 v70) 69 v70) 71 v71) 72 v72) 73 v45) 74 (.slice (some ⟨i, 0, none⟩) 1 1)) 75 v75) 76 v76) h_13
        ) (
          optW (pBin Try.prog .eql 3 v52 (.int .i64 1)) fun v78 =>
          condW v78 (
            optW (pOff 3 (e 9)) fun v79 =>
            optW (rdRow false 1 v79 h_10) fun v80 =>
            optW (bldSl 1 [(.int .i64 0)] 1 [(0, v45)]) fun c_1 =>
            newW none (.row c_1 true) h_10 fun i_1 h_14 =>
            appSl 1 v80 (.slice (some ⟨i_1, 0, none⟩) 1 1) h_14 fun v83 h_15 =>
            optW (pOff 3 (e 9)) fun v84 =>
            optW (pStore 1 v84 v83 h_15) fun h_16 =>
            J (pt (pt (pt (pt (pt (pt (pt (pt (pt (pt (pt (pt (pt (pt (pt (pt (pt (pt (pt (pt (pt (pt (pt (pt (pt (pt (pt (pt (pt (pt (pt (pt (pt (pt (pt (pt (pt (pt e 26 (e 10)) 27 (e 2)) 28 v28) 29 v29) 30 v29) 31 v31) 32 v32) 33 v33) 36 (e 2)) 37 (e 10)) 38 v38) 39 v39) 40 v40) 11 v40) 41 v40) 42 v42) 43 v43) 44 v44) 45 v45) 46 v40) 47 v47) 48 v48) 49 v49) 50 v50) 12 v45) 13 v50) 51 v40) 52 v52) 70 v70) 69 v70) 78 v78) 77 v78) 79 v79) 80 v80) 81 v45) 82 (.slice (some ⟨i_1, 0, none⟩) 1 1)) 83 v83) 84 v84) h_16
          ) (
            joinE (fun J_1 =>
              optW (pBin Try.prog .eql 3 v52 (.int .i64 2)) fun v86 =>
              condW v86 (
                J_1 (pt (pt (pt (pt (pt (pt (pt (pt (pt (pt (pt (pt (pt (pt (pt (pt (pt (pt (pt (pt (pt (pt (pt (pt (pt (pt (pt (pt (pt (pt (pt (pt (pt (pt e 26 (e 10)) 27 (e 2)) 28 v28) 29 v29) 30 v29) 31 v31) 32 v32) 33 v33) 36 (e 2)) 37 (e 10)) 38 v38) 39 v39) 40 v40) 11 v40) 41 v40) 42 v42) 43 v43) 44 v44) 45 v45) 46 v40) 47 v47) 48 v48) 49 v49) 50 v50) 12 v45) 13 v50) 51 v40) 52 v52) 70 v70) 69 v70) 78 v78) 77 v78) 86 v86) 85 v86) h_10
              ) (
                optW (pBin Try.prog .eql 3 v52 (.int .i64 3)) fun v87 =>
                J_1 (pt (pt (pt (pt (pt (pt (pt (pt (pt (pt (pt (pt (pt (pt (pt (pt (pt (pt (pt (pt (pt (pt (pt (pt (pt (pt (pt (pt (pt (pt (pt (pt (pt (pt (pt (pt e 26 (e 10)) 27 (e 2)) 28 v28) 29 v29) 30 v29) 31 v31) 32 v32) 33 v33) 36 (e 2)) 37 (e 10)) 38 v38) 39 v39) 40 v40) 11 v40) 41 v40) 42 v42) 43 v43) 44 v44) 45 v45) 46 v40) 47 v47) 48 v48) 49 v49) 50 v50) 12 v45) 13 v50) 51 v40) 52 v52) 70 v70) 69 v70) 78 v78) 77 v78) 86 v86) 85 v86) 87 v87) 85 v87) h_10))
            (fun e_2 h_17 =>
              condW (e_2 85) (
                optW (pBin Try.prog .quo 3 (e_2 11) (.int .i64 800)) fun v90 =>
                optW (pBin Try.prog .rem 3 v90 (.int .i64 7)) fun v91 =>
                X 55 [(e_2 0), (.int .i64 1), v91] h_17 fun v92 h_18 =>
                optW (pBin Try.prog .geq 3 v92 (.int .i64 0)) fun v94 =>
                condW v94 (
                  optW (pOff 4 (e_2 9)) fun v95 =>
                  optW (rdRow false 1 v95 (reserve 1 h_18)) fun v96 =>
                  optW (pBin Try.prog .quo 3 (e_2 11) (.int .i64 8000)) fun v101 =>
                  optW (pOff 1 (e_2 9)) fun v102 =>
                  optW (rdRow false 1 v102 (reserve 1 h_18)) fun v103 =>
                  optW (pBin Try.prog .rem 3 v101 v103) fun v104 =>
                  optW (pBin Try.prog .add 3 (.int .i64 1) v104) fun v105 =>
                  optW (bld [(.int .i64 0), (.int .i64 0), (.int .i64 0), (.int .i64 0)] [(0, 1), (1, 1), (2, 1), (3, 1)] [(0, (e_2 12)), (1, v92), (2, (e_2 13)), (3, v105)]) fun v106 =>
                  optW (bldSl 4 [(.int .i64 0), (.int .i64 0), (.int .i64 0), (.int .i64 0)] 1 [(0, v106)]) fun c_2 =>
                  newW (some (h_18.length)) (.row c_2 true) (reserve 1 h_18) fun i_2 h_19 =>
                  appSl 4 v96 (.slice (some ⟨i_2, 0, none⟩) 1 1) h_19 fun v108 h_20 =>
                  optW (pOff 4 (e_2 9)) fun v109 =>
                  optW (pStore 1 v109 v108 h_20) fun h_21 =>
                  J (pt (pt (pt (pt (pt (pt (pt (pt (pt (pt (pt (pt (pt (pt (pt (pt (pt (pt (pt (pt (pt (pt (pt e_2 88 (e_2 0)) 89 (e_2 11)) 90 v90) 91 v91) 92 v92) 14 v92) 93 v92) 94 v94) 95 v95) 96 v96) 97 (e_2 12)) 98 v92) 99 (e_2 13)) 100 (e_2 11)) 101 v101) 102 v102) 103 v103) 104 v104) 105 v105) 106 v106) 107 (.slice (some ⟨i_2, 0, none⟩) 1 1)) 108 v108) 109 v109) h_21
                ) (
                  J (pt (pt (pt (pt (pt (pt (pt (pt e_2 88 (e_2 0)) 89 (e_2 11)) 90 v90) 91 v91) 92 v92) 14 v92) 93 v92) 94 v94) h_18)
              ) (
                optW (pBin Try.prog .eql 3 (e_2 52) (.int .i64 4)) fun v111 =>
                condW v111 (
                  condW v111 (
                    optW (pBin Try.prog .quo 3 (e_2 11) (.int .i64 800)) fun v115 =>
                    optW (pBin Try.prog .rem 3 v115 (.int .i64 7)) fun v116 =>
                    X 55 [(e_2 0), (.int .i64 2), v116] h_17 fun v117 h_22 =>
                    optW (pBin Try.prog .geq 3 v117 (.int .i64 0)) fun v119 =>
                    condW v119 (
                      optW (pOff 5 (e_2 9)) fun v120 =>
                      optW (rdRow false 1 v120 (reserve 1 h_22)) fun v121 =>
                      optW (pBin Try.prog .quo 3 (e_2 11) (.int .i64 8000)) fun v125 =>
                      optW (pOff 1 (e_2 9)) fun v126 =>
                      optW (rdRow false 1 v126 (reserve 1 h_22)) fun v127 =>
                      optW (pBin Try.prog .add 3 v127 (.int .i64 1)) fun v128 =>
                      optW (pBin Try.prog .rem 3 v125 v128) fun v129 =>
                      optW (bld [(.int .i64 0), (.int .i64 0), (.int .i64 0), (.int .i64 0)] [(0, 1), (1, 1), (2, 1), (3, 1)] [(0, (e_2 12)), (1, v117), (2, v129), (3, (e_2 13))]) fun v131 =>
                      optW (bldSl 4 [(.int .i64 0), (.int .i64 0), (.int .i64 0), (.int .i64 0)] 1 [(0, v131)]) fun c_3 =>
                      newW (some (h_22.length)) (.row c_3 true) (reserve 1 h_22) fun i_3 h_23 =>
                      appSl 4 v121 (.slice (some ⟨i_3, 0, none⟩) 1 1) h_23 fun v133 h_24 =>
                      optW (pOff 5 (e_2 9)) fun v134 =>
                      optW (pStore 1 v134 v133 h_24) fun h_25 =>
                      J (pt (pt (pt (pt (pt (pt (pt (pt (pt (pt (pt (pt (pt (pt (pt (pt (pt (pt (pt (pt (pt (pt (pt (pt (pt e_2 111 v111) 110 v111) 113 (e_2 0)) 114 (e_2 11)) 115 v115) 116 v116) 117 v117) 15 v117) 118 v117) 119 v119) 120 v120) 121 v121) 122 (e_2 12)) 123 v117) 124 (e_2 11)) 125 v125) 126 v126) 127 v127) 128 v128) 129 v129) 130 (e_2 13)) 131 v131) 132 (.slice (some ⟨i_3, 0, none⟩) 1 1)) 133 v133) 134 v134) h_25
                    ) (
                      J (pt (pt (pt (pt (pt (pt (pt (pt (pt (pt e_2 111 v111) 110 v111) 113 (e_2 0)) 114 (e_2 11)) 115 v115) 116 v116) 117 v117) 15 v117) 118 v117) 119 v119) h_22)
                  ) (
                    optW (pBin Try.prog .quo 3 (e_2 11) (.int .i64 800)) fun v55 =>
                    optW (pBin Try.prog .rem 3 v55 (.int .i64 7)) fun v56 =>
                    X 55 [(e_2 0), (.int .i64 3), v56] h_17 fun v57 h_26 =>
                    optW (pBin Try.prog .geq 3 v57 (.int .i64 0)) fun v59 =>
                    condW v59 (
                      optW (pOff 6 (e_2 9)) fun v60 =>
                      optW (rdRow false 1 v60 h_26) fun v61 =>
                      optW (bld [(.int .i64 0), (.int .i64 0), (.int .i64 0)] [(0, 1), (1, 1), (2, 1)] [(0, (e_2 12)), (1, v57), (2, (e_2 13))]) fun v65 =>
                      optW (bldSl 3 [(.int .i64 0), (.int .i64 0), (.int .i64 0)] 1 [(0, v65)]) fun c_4 =>
                      newW none (.row c_4 true) h_26 fun i_4 h_27 =>
                      appSl 3 v61 (.slice (some ⟨i_4, 0, none⟩) 1 1) h_27 fun v67 h_28 =>
                      optW (pOff 6 (e_2 9)) fun v68 =>
                      optW (pStore 1 v68 v67 h_28) fun h_29 =>
                      J (pt (pt (pt (pt (pt (pt (pt (pt (pt (pt (pt (pt (pt (pt (pt (pt (pt (pt (pt e_2 111 v111) 110 v111) 53 (e_2 0)) 54 (e_2 11)) 55 v55) 56 v56) 57 v57) 16 v57) 58 v57) 59 v59) 60 v60) 61 v61) 62 (e_2 12)) 63 v57) 64 (e_2 13)) 65 v65) 66 (.slice (some ⟨i_4, 0, none⟩) 1 1)) 67 v67) 68 v68) h_29
                    ) (
                      J (pt (pt (pt (pt (pt (pt (pt (pt (pt (pt e_2 111 v111) 110 v111) 53 (e_2 0)) 54 (e_2 11)) 55 v55) 56 v56) 57 v57) 16 v57) 58 v57) 59 v59) h_26))
                ) (
                  optW (pBin Try.prog .eql 3 (e_2 52) (.int .i64 5)) fun v112 =>
                  condW v112 (
                    optW (pBin Try.prog .quo 3 (e_2 11) (.int .i64 800)) fun v115_1 =>
                    optW (pBin Try.prog .rem 3 v115_1 (.int .i64 7)) fun v116_1 =>
                    X 55 [(e_2 0), (.int .i64 2), v116_1] h_17 fun v117_1 h_30 =>
                    optW (pBin Try.prog .geq 3 v117_1 (.int .i64 0)) fun v119_1 =>
                    condW v119_1 (
                      optW (pOff 5 (e_2 9)) fun v120_1 =>
                      optW (rdRow false 1 v120_1 (reserve 1 h_30)) fun v121_1 =>
                      optW (pBin Try.prog .quo 3 (e_2 11) (.int .i64 8000)) fun v125_1 =>
                      optW (pOff 1 (e_2 9)) fun v126_1 =>
                      optW (rdRow false 1 v126_1 (reserve 1 h_30)) fun v127_1 =>
                      optW (pBin Try.prog .add 3 v127_1 (.int .i64 1)) fun v128_1 =>
                      optW (pBin Try.prog .rem 3 v125_1 v128_1) fun v129_1 =>
                      optW (bld [(.int .i64 0), (.int .i64 0), (.int .i64 0), (.int .i64 0)] [(0, 1), (1, 1), (2, 1), (3, 1)] [(0, (e_2 12)), (1, v117_1), (2, v129_1), (3, (e_2 13))]) fun v131_1 =>
                      optW (bldSl 4 [(.int .i64 0), (.int .i64 0), (.int .i64 0), (.int .i64 0)] 1 [(0, v131_1)]) fun c_5 =>
                      newW (some (h_30.length)) (.row c_5 true) (reserve 1 h_30) fun i_5 h_31 =>
                      appSl 4 v121_1 (.slice (some ⟨i_5, 0, none⟩) 1 1) h_31 fun v133_1 h_32 =>
                      optW (pOff 5 (e_2 9)) fun v134_1 =>
                      optW (pStore 1 v134_1 v133_1 h_32) fun h_33 =>
                      J (pt (pt (pt (pt (pt (pt (pt (pt (pt (pt (pt (pt (pt (pt (pt (pt (pt (pt (pt (pt (pt (pt (pt (pt (pt (pt (pt e_2 111 v111) 110 v111) 112 v112) 110 v112) 113 (e_2 0)) 114 (e_2 11)) 115 v115_1) 116 v116_1) 117 v117_1) 15 v117_1) 118 v117_1) 119 v119_1) 120 v120_1) 121 v121_1) 122 (e_2 12)) 123 v117_1) 124 (e_2 11)) 125 v125_1) 126 v126_1) 127 v127_1) 128 v128_1) 129 v129_1) 130 (e_2 13)) 131 v131_1) 132 (.slice (some ⟨i_5, 0, none⟩) 1 1)) 133 v133_1) 134 v134_1) h_33
                    ) (
                      J (pt (pt (pt (pt (pt (pt (pt (pt (pt (pt (pt (pt e_2 111 v111) 110 v111) 112 v112) 110 v112) 113 (e_2 0)) 114 (e_2 11)) 115 v115_1) 116 v116_1) 117 v117_1) 15 v117_1) 118 v117_1) 119 v119_1) h_30)
                  ) (
                    optW (pBin Try.prog .quo 3 (e_2 11) (.int .i64 800)) fun v55_1 =>
                    optW (pBin Try.prog .rem 3 v55_1 (.int .i64 7)) fun v56_1 =>
                    X 55 [(e_2 0), (.int .i64 3), v56_1] h_17 fun v57_1 h_34 =>
                    optW (pBin Try.prog .geq 3 v57_1 (.int .i64 0)) fun v59_1 =>
                    condW v59_1 (
                      optW (pOff 6 (e_2 9)) fun v60_1 =>
                      optW (rdRow false 1 v60_1 h_34) fun v61_1 =>
                      optW (bld [(.int .i64 0), (.int .i64 0), (.int .i64 0)] [(0, 1), (1, 1), (2, 1)] [(0, (e_2 12)), (1, v57_1), (2, (e_2 13))]) fun v65_1 =>
                      optW (bldSl 3 [(.int .i64 0), (.int .i64 0), (.int .i64 0)] 1 [(0, v65_1)]) fun c_6 =>
                      newW none (.row c_6 true) h_34 fun i_6 h_35 =>
                      appSl 3 v61_1 (.slice (some ⟨i_6, 0, none⟩) 1 1) h_35 fun v67_1 h_36 =>
                      optW (pOff 6 (e_2 9)) fun v68_1 =>
                      optW (pStore 1 v68_1 v67_1 h_36) fun h_37 =>
                      J (pt (pt (pt (pt (pt (pt (pt (pt (pt (pt (pt (pt (pt (pt (pt (pt (pt (pt (pt (pt (pt e_2 111 v111) 110 v111) 112 v112) 110 v112) 53 (e_2 0)) 54 (e_2 11)) 55 v55_1) 56 v56_1) 57 v57_1) 16 v57_1) 58 v57_1) 59 v59_1) 60 v60_1) 61 v61_1) 62 (e_2 12)) 63 v57_1) 64 (e_2 13)) 65 v65_1) 66 (.slice (some ⟨i_6, 0, none⟩) 1 1)) 67 v67_1) 68 v68_1) h_37
                    ) (
                      J (pt (pt (pt (pt (pt (pt (pt (pt (pt (pt (pt (pt e_2 111 v111) 110 v111) 112 v112) 110 v112) 53 (e_2 0)) 54 (e_2 11)) 55 v55_1) 56 v56_1) 57 v57_1) 16 v57_1) 58 v57_1) 59 v59_1) h_34))))))))
      (fun e_1 h_9 =>
        optW (pBin Try.prog .add 3 (e_1 10) (.int .i64 1)) fun v35 =>
        I (pt (pt (pt e_1 34 (e_1 10)) 35 v35) 10 v35) h_9)
    ) (
      optW (pOff 2 (e 9)) fun v135 =>
      optW (rdRow false 1 v135 h_8) fun v136 =>
      optW (lenSl v136) fun v137 =>
      optW (pBin Try.prog .eql 3 v137 (.int .i64 0)) fun v138 =>
      condW v138 (
        optW (bldSl 1 [(.int .i64 0)] 1 [(0, (.int .i64 0))]) fun c_7 =>
        newW none (.row c_7 true) h_8 fun i_7 h_38 =>
        optW (pOff 2 (e 9)) fun v140 =>
        optW (pStore 1 v140 (.slice (some ⟨i_7, 0, none⟩) 1 1) h_38) fun h_39 =>
        optW (rdRow true 7 (e 9) h_39) fun v141 =>
        optW (pStore 7 (e 8) v141 h_39) fun h_40 =>
        optW (resList Try.prog (pt (pt (pt (pt (pt (pt (pt (pt (pt (pt (pt (pt (pt (pt (pt e 26 (e 10)) 27 (e 2)) 28 v28) 29 v29) 30 v29) 31 v31) 32 v32) 33 v33) 135 v135) 136 v136) 137 v137) 138 v138) 139 (.slice (some ⟨i_7, 0, none⟩) 1 1)) 140 v140) 141 v141) h_40 Try.f35.results.toList) fun vs => K (resOf vs) h_40
      ) (
        optW (rdRow true 7 (e 9) h_8) fun v141_1 =>
        optW (pStore 7 (e 8) v141_1 h_8) fun h_41 =>
        optW (resList Try.prog (pt (pt (pt (pt (pt (pt (pt (pt (pt (pt (pt (pt (pt e 26 (e 10)) 27 (e 2)) 28 v28) 29 v29) 30 v29) 31 v31) 32 v32) 33 v33) 135 v135) 136 v136) 137 v137) 138 v138) 141 v141_1) h_41 Try.f35.results.toList) fun vs => K (resOf vs) h_41)))
  (pt (pt (pt (pt (pt (pt (pt (pt (pt (pt (pt (pt (envOf [a0, a1, a2, a3]) 8 v8) 17 a1) 18 a3) 19 v19) 20 v20) 21 a1) 22 v22) 23 v23) 24 v24) 25 v25) 9 v9) 10 (.int .i64 0)) h_5
theorem e35 (X : CallT) (a0 a1 a2 a3 : Value) (h : AH) (K : Value → AH → Prop) : cwp2 Try.prog X (Try.f35.body.getD .skip) (endW Try.prog Try.f35 K) (envOf [a0, a1, a2, a3]) h = s35 X a0 a1 a2 a3 h K := by kernel_rfl
theorem c35 {a0 a1 a2 a3 : Value} {h : AH} {K : Value → AH → Prop} (hs : s35 (callW Try.prog) a0 a1 a2 a3 h K) : callW Try.prog 35 [a0, a1, a2, a3] h K := callW_of Try.func35 (by kernel_rfl) (Eq.mpr (e35 _ a0 a1 a2 a3 _ _) hs)

/-- canopy/canopyref14.New () -/
def s36 (X : CallT) (a0 a1 a2 : Value) (h : AH) (K : Value → AH → Prop) : Prop :=
  aBox a1 none h fun v4 h_1 =>
  optW (rdRow true 7 v4 h_1) fun v8 =>
  optW (bld [(.slice none 0 0), (.int .i64 0), (.int .i64 0), (.slice none 0 0), (.slice none 0 0), (.slice none 0 0), (.slice none 0 0), (.slice none 0 0), (.int .i64 0), (.int .i64 0), (.int .i64 0), (.string (bs [])), (.slice none 0 0), (.int .i64 0), (.int .i64 0), (.int .i64 0), (.bool false)] [(0, 1), (1, 7), (8, 1), (9, 1), (10, 1), (11, 1), (12, 1), (13, 1), (14, 1), (15, 1), (16, 1)] [(0, a0), (1, v8), (2, a2)]) fun v10 =>
  aBox v10 none h_1 fun v11 h_2 =>
  K v11 h_2
theorem e36 (X : CallT) (a0 a1 a2 : Value) (h : AH) (K : Value → AH → Prop) : cwp2 Try.prog X (Try.f36.body.getD .skip) (endW Try.prog Try.f36 K) (envOf [a0, a1, a2]) h = s36 X a0 a1 a2 h K := by kernel_rfl
theorem c36 {a0 a1 a2 : Value} {h : AH} {K : Value → AH → Prop} (hs : s36 (callW Try.prog) a0 a1 a2 h K) : callW Try.prog 36 [a0, a1, a2] h K := callW_of Try.func36 (by kernel_rfl) (Eq.mpr (e36 _ a0 a1 a2 _ _) hs)

/-- (*canopy/canopyref14.Feed).Write (I at e: live [0, 1, 6], writes [6, 11, 12, 13, 14, 15, 16, 17, 18, 19, 20, 21, 22, 23, 24, 25, 26, 27, 28, 29, 30, 31, 32, 33, 34, 35, 36, 37, 38, 39, 40, 41, 42, 43, 44, 45, 46, 47]) -/
def s37 (X : CallT) (a0 a1 : Value) (h : AH) (K : Value → AH → Prop) : Prop :=
  optW (pNilCheck a0) fun v8 =>
  optW (pOff 16 v8) fun v9 =>
  optW (rdRow false 1 v9 h) fun v10 =>
  condW v10 (
    K (.tuple #[(.int .i64 0), (.int .i64 14)]) h
  ) (
    loopE (fun I e h_1 =>
      optW (lenSl (e 1)) fun v13 =>
      optW (pBin Try.prog .lss 3 (e 6) v13) fun v14 =>
      gopW (gB v14 true) (fun k =>
        k (e 0) h_1) h_1 fun v16 h_2 =>
      gopW (gB v14 true) (fun k_1 =>
        optW (pNilCheck v16) fun v17_1 =>
        k_1 v17_1 h_2) h_2 fun v17 h_3 =>
      gopW (gB v14 true) (fun k_2 =>
        optW (pOff 14 v17) fun v18_1 =>
        k_2 v18_1 h_3) h_3 fun v18 h_4 =>
      gopW (gB v14 true) (fun k_3 =>
        optW (rdRow false 1 v18 h_4) fun v19_1 =>
        k_3 v19_1 h_4) h_4 fun v19 h_5 =>
      gopW (gB v14 true) (fun k_4 =>
        optW (pBin Try.prog .eql 3 v19 (.int .i64 0)) fun v20_1 =>
        k_4 v20_1 h_5) h_5 fun v20 h_6 =>
      optW (pPick v14 v20 (.bool false)) fun v21 =>
      condW v21 (
        optW (pNilCheck (e 0)) fun v25 =>
        optW (pOff 11 v25) fun v26 =>
        optW (rdRow false 1 v26 h_6) fun v27 =>
        optW (pBin Try.prog .neq 9 v27 (.string (bs []))) fun v28 =>
        condW v28 (
          optW (pIdxS 1 (e 1) (e 6)) fun v32 =>
          optW (rdRow false 1 v32 h_6) fun v33 =>
          X 56 [(e 0), v33] h_6 fun v34 h_7 =>
          optW (pNilCheck (e 0)) fun v42 =>
          optW (pOff 9 v42) fun v43 =>
          optW (rdRow false 1 v43 h_7) fun v44 =>
          optW (pBin Try.prog .add 3 v44 (.int .i64 1)) fun v45 =>
          optW (pNilCheck (e 0)) fun v46 =>
          optW (pOff 9 v46) fun v47 =>
          optW (pStore 1 v47 v45 h_7) fun h_8 =>
          optW (pBin Try.prog .add 3 (e 6) (.int .i64 1)) fun v23 =>
          I (pt (pt (pt (pt (pt (pt (pt (pt (pt (pt (pt (pt (pt (pt (pt (pt (pt (pt (pt (pt (pt (pt (pt (pt (pt (pt (pt (pt (pt (pt (pt (pt e 11 (e 6)) 12 (e 1)) 13 v13) 14 v14) 15 v14) 16 v16) 17 v17) 18 v18) 19 v19) 20 v20) 21 v21) 24 (e 0)) 25 v25) 26 v26) 27 v27) 28 v28) 29 (e 0)) 30 (e 1)) 31 (e 6)) 32 v32) 33 v33) 34 v34) 41 (e 0)) 42 v42) 43 v43) 44 v44) 45 v45) 46 v46) 47 v47) 22 (e 6)) 23 v23) 6 v23) h_8
        ) (
          optW (pIdxS 1 (e 1) (e 6)) fun v38 =>
          optW (rdRow false 1 v38 h_6) fun v39 =>
          X 57 [(e 0), v39] h_6 fun v40 h_9 =>
          optW (pNilCheck (e 0)) fun v42_1 =>
          optW (pOff 9 v42_1) fun v43_1 =>
          optW (rdRow false 1 v43_1 h_9) fun v44_1 =>
          optW (pBin Try.prog .add 3 v44_1 (.int .i64 1)) fun v45_1 =>
          optW (pNilCheck (e 0)) fun v46_1 =>
          optW (pOff 9 v46_1) fun v47_1 =>
          optW (pStore 1 v47_1 v45_1 h_9) fun h_10 =>
          optW (pBin Try.prog .add 3 (e 6) (.int .i64 1)) fun v23_1 =>
          I (pt (pt (pt (pt (pt (pt (pt (pt (pt (pt (pt (pt (pt (pt (pt (pt (pt (pt (pt (pt (pt (pt (pt (pt (pt (pt (pt (pt (pt (pt (pt (pt e 11 (e 6)) 12 (e 1)) 13 v13) 14 v14) 15 v14) 16 v16) 17 v17) 18 v18) 19 v19) 20 v20) 21 v21) 24 (e 0)) 25 v25) 26 v26) 27 v27) 28 v28) 35 (e 0)) 36 (e 1)) 37 (e 6)) 38 v38) 39 v39) 40 v40) 41 (e 0)) 42 v42_1) 43 v43_1) 44 v44_1) 45 v45_1) 46 v46_1) 47 v47_1) 22 (e 6)) 23 v23_1) 6 v23_1) h_10)
      ) (
        optW (pNilCheck (e 0)) fun v49 =>
        optW (pOff 15 v49) fun v50 =>
        optW (rdRow false 1 v50 h_6) fun v51 =>
        optW (pNilCheck (e 0)) fun v53 =>
        optW (pOff 14 v53) fun v54 =>
        optW (rdRow false 1 v54 h_6) fun v55 =>
        K (.tuple #[v51, v55]) h_6))
    (pt (pt (pt (pt (pt (pt (pt (envOf [a0, a1]) 4 (.int .i64 0)) 5 (.int .i64 0)) 7 a0) 8 v8) 9 v9) 10 v10) 6 (.int .i64 0)) h)
theorem e37 (X : CallT) (a0 a1 : Value) (h : AH) (K : Value → AH → Prop) : cwp2 Try.prog X (Try.f37.body.getD .skip) (endW Try.prog Try.f37 K) (envOf [a0, a1]) h = s37 X a0 a1 h K := by kernel_rfl
theorem c37 {a0 a1 : Value} {h : AH} {K : Value → AH → Prop} (hs : s37 (callW Try.prog) a0 a1 h K) : callW Try.prog 37 [a0, a1] h K := callW_of Try.func37 (by kernel_rfl) (Eq.mpr (e37 _ a0 a1 _ _) hs)

/-- (*canopy/canopyref14.Feed).Deep () -/
def s38 (X : CallT) (a0 : Value) (h : AH) (K : Value → AH → Prop) : Prop :=
  optW (pNilCheck a0) fun v4 =>
  optW (pOff 13 v4) fun v5 =>
  optW (rdRow false 1 v5 h) fun v6 =>
  K v6 h
theorem e38 (X : CallT) (a0 : Value) (h : AH) (K : Value → AH → Prop) : cwp2 Try.prog X (Try.f38.body.getD .skip) (endW Try.prog Try.f38 K) (envOf [a0]) h = s38 X a0 h K := by kernel_rfl
theorem c38 {a0 : Value} {h : AH} {K : Value → AH → Prop} (hs : s38 (callW Try.prog) a0 h K) : callW Try.prog 38 [a0] h K := callW_of Try.func38 (by kernel_rfl) (Eq.mpr (e38 _ a0 _ _) hs)

/-- (*canopy/canopyref14.Feed).Close (J at e: live [0]) -/
def s39 (X : CallT) (a0 : Value) (h : AH) (K : Value → AH → Prop) : Prop :=
  optW (pNilCheck a0) fun v6 =>
  optW (pOff 16 v6) fun v7 =>
  optW (rdRow false 1 v7 h) fun v8 =>
  condW v8 (
    K (.tuple #[(.bool false), (.int .i64 0), (.int .i64 14)]) h
  ) (
    optW (pNilCheck a0) fun v10 =>
    optW (pOff 16 v10) fun v11 =>
    optW (pStore 1 v11 (.bool true) h) fun h_1 =>
    joinE (fun J =>
      optW (pNilCheck a0) fun v13 =>
      optW (pOff 14 v13) fun v14 =>
      optW (rdRow false 1 v14 h_1) fun v15 =>
      optW (pBin Try.prog .eql 3 v15 (.int .i64 0)) fun v16 =>
      gopW (gB v16 true) (fun k =>
        k a0 h_1) h_1 fun v18 h_4 =>
      gopW (gB v16 true) (fun k_1 =>
        optW (pNilCheck v18) fun v19_1 =>
        k_1 v19_1 h_4) h_4 fun v19 h_5 =>
      gopW (gB v16 true) (fun k_2 =>
        optW (pOff 11 v19) fun v20_1 =>
        k_2 v20_1 h_5) h_5 fun v20 h_6 =>
      gopW (gB v16 true) (fun k_3 =>
        optW (rdRow false 1 v20 h_6) fun v21_1 =>
        k_3 v21_1 h_6) h_6 fun v21 h_7 =>
      gopW (gB v16 true) (fun k_4 =>
        optW (pBin Try.prog .neq 9 v21 (.string (bs []))) fun v22_1 =>
        k_4 v22_1 h_7) h_7 fun v22 h_8 =>
      optW (pPick v16 v22 (.bool false)) fun v23 =>
      condW v23 (
        optW (pNilCheck a0) fun v25 =>
        optW (pOff 11 v25) fun v26 =>
        optW (rdRow false 1 v26 h_8) fun v27 =>
        optW (pIdxStr v27 (.int .i64 0)) fun v28 =>
        X 58 [v28] h_8 fun v29 h_9 =>
        condW v29 (
          X 59 [a0] h_9 fun v31 h_10 =>
          J (pt (pt (pt (pt (pt (pt (pt (pt (pt (pt (pt (pt (pt (pt (pt (pt (pt (pt (pt (pt (pt (pt (pt (pt (pt (pt (pt (pt (pt (pt (envOf [a0]) 2 (.bool false)) 3 (.int .i64 0)) 4 (.int .i64 0)) 5 a0) 6 v6) 7 v7) 8 v8) 9 a0) 10 v10) 11 v11) 12 a0) 13 v13) 14 v14) 15 v15) 16 v16) 17 v16) 18 v18) 19 v19) 20 v20) 21 v21) 22 v22) 23 v23) 24 a0) 25 v25) 26 v26) 27 v27) 28 v28) 29 v29) 30 a0) 31 v31) h_10
        ) (
          optW (pNilCheck a0) fun v34 =>
          optW (pOff 10 v34) fun v35 =>
          optW (rdRow false 1 v35 h_9) fun v36 =>
          X 60 [a0, (.int .i64 12), v36] h_9 fun v37 h_11 =>
          J (pt (pt (pt (pt (pt (pt (pt (pt (pt (pt (pt (pt (pt (pt (pt (pt (pt (pt (pt (pt (pt (pt (pt (pt (pt (pt (pt (pt (pt (pt (pt (pt (pt (pt (envOf [a0]) 2 (.bool false)) 3 (.int .i64 0)) 4 (.int .i64 0)) 5 a0) 6 v6) 7 v7) 8 v8) 9 a0) 10 v10) 11 v11) 12 a0) 13 v13) 14 v14) 15 v15) 16 v16) 17 v16) 18 v18) 19 v19) 20 v20) 21 v21) 22 v22) 23 v23) 24 a0) 25 v25) 26 v26) 27 v27) 28 v28) 29 v29) 32 a0) 33 a0) 34 v34) 35 v35) 36 v36) 37 v37) h_11)
      ) (
        J (pt (pt (pt (pt (pt (pt (pt (pt (pt (pt (pt (pt (pt (pt (pt (pt (pt (pt (pt (pt (pt (pt (envOf [a0]) 2 (.bool false)) 3 (.int .i64 0)) 4 (.int .i64 0)) 5 a0) 6 v6) 7 v7) 8 v8) 9 a0) 10 v10) 11 v11) 12 a0) 13 v13) 14 v14) 15 v15) 16 v16) 17 v16) 18 v18) 19 v19) 20 v20) 21 v21) 22 v22) 23 v23) h_8))
    (fun e h_2 =>
      optW (pNilCheck (e 0)) fun v39 =>
      optW (pOff 14 v39) fun v40 =>
      optW (rdRow false 1 v40 h_2) fun v41 =>
      optW (pBin Try.prog .neq 3 v41 (.int .i64 0)) fun v42 =>
      condW v42 (
        optW (pNilCheck (e 0)) fun v44 =>
        optW (pOff 15 v44) fun v45 =>
        optW (rdRow false 1 v45 h_2) fun v46 =>
        optW (pNilCheck (e 0)) fun v48 =>
        optW (pOff 14 v48) fun v49 =>
        optW (rdRow false 1 v49 h_2) fun v50 =>
        K (.tuple #[(.bool false), v46, v50]) h_2
      ) (
        optW (pNilCheck (e 0)) fun v52 =>
        optW (pOff 0 v52) fun v53 =>
        optW (rdRow false 1 v53 h_2) fun v54 =>
        optW (pNilCheck (e 0)) fun v56 =>
        optW (pOff 1 v56) fun v57 =>
        optW (rdRow true 7 v57 h_2) fun v58 =>
        optW (pNilCheck (e 0)) fun v60 =>
        optW (pOff 12 v60) fun v61 =>
        optW (rdRow false 1 v61 h_2) fun v62 =>
        X 27 [v54, v58, v62] h_2 fun v63 h_3 =>
        K (.tuple #[v63, (.int .i64 0), (.int .i64 0)]) h_3)))
theorem e39 (X : CallT) (a0 : Value) (h : AH) (K : Value → AH → Prop) : cwp2 Try.prog X (Try.f39.body.getD .skip) (endW Try.prog Try.f39 K) (envOf [a0]) h = s39 X a0 h K := by kernel_rfl
theorem c39 {a0 : Value} {h : AH} {K : Value → AH → Prop} (hs : s39 (callW Try.prog) a0 h K) : callW Try.prog 39 [a0] h K := callW_of Try.func39 (by kernel_rfl) (Eq.mpr (e39 _ a0 _ _) hs)

end Go.Proofs.Ytebbjimmgblcpaa.W
end

section
/- Go functions, printed by a program as predicates on what may come behind; each is the function. Conditions: none. -/
namespace Go.Proofs.Ytebbjimmgblcpaa.W
open Go Go.AM
set_option linter.unusedVariables false
set_option maxRecDepth 100000


/-- slices.Clone[[]int,int] () -/
def s40 (X : CallT) (a0 : Value) (h : AH) (K : Value → AH → Prop) : Prop :=
  optW (pBin Try.prog .eql 22 a0 (.slice none 0 0)) fun v4 =>
  condW v4 (
    K (.slice none 0 0) h
  ) (
    optW (bldSl 1 [(.int .i64 0)] 0 []) fun c =>
    newW none (.row c true) h fun i h_1 =>
    appSl 1 (.slice (some ⟨i, 0, none⟩) 0 0) a0 h_1 fun v7 h_2 =>
    K v7 h_2)
theorem e40 (X : CallT) (a0 : Value) (h : AH) (K : Value → AH → Prop) : cwp2 Try.prog X (Try.f40.body.getD .skip) (endW Try.prog Try.f40 K) (envOf [a0]) h = s40 X a0 h K := by kernel_rfl
theorem c40 {a0 : Value} {h : AH} {K : Value → AH → Prop} (hs : s40 (callW Try.prog) a0 h K) : callW Try.prog 40 [a0] h K := callW_of Try.func40 (by kernel_rfl) (Eq.mpr (e40 _ a0 _ _) hs)

/-- slices.Clone[[]canopy/api.Open,canopy/api.Open] () -/
def s41 (X : CallT) (a0 : Value) (h : AH) (K : Value → AH → Prop) : Prop :=
  optW (pBin Try.prog .eql 26 a0 (.slice none 0 0)) fun v4 =>
  condW v4 (
    K (.slice none 0 0) h
  ) (
    optW (bldSl 4 [(.int .i64 0), (.int .i64 0), (.int .i64 0), (.int .i64 0)] 0 []) fun c =>
    newW none (.row c true) h fun i h_1 =>
    appSl 4 (.slice (some ⟨i, 0, none⟩) 0 0) a0 h_1 fun v7 h_2 =>
    K v7 h_2)
theorem e41 (X : CallT) (a0 : Value) (h : AH) (K : Value → AH → Prop) : cwp2 Try.prog X (Try.f41.body.getD .skip) (endW Try.prog Try.f41 K) (envOf [a0]) h = s41 X a0 h K := by kernel_rfl
theorem c41 {a0 : Value} {h : AH} {K : Value → AH → Prop} (hs : s41 (callW Try.prog) a0 h K) : callW Try.prog 41 [a0] h K := callW_of Try.func41 (by kernel_rfl) (Eq.mpr (e41 _ a0 _ _) hs)

/-- slices.Clone[[]canopy/api.Close,canopy/api.Close] () -/
def s42 (X : CallT) (a0 : Value) (h : AH) (K : Value → AH → Prop) : Prop :=
  optW (pBin Try.prog .eql 27 a0 (.slice none 0 0)) fun v4 =>
  condW v4 (
    K (.slice none 0 0) h
  ) (
    optW (bldSl 4 [(.int .i64 0), (.int .i64 0), (.int .i64 0), (.int .i64 0)] 0 []) fun c =>
    newW none (.row c true) h fun i h_1 =>
    appSl 4 (.slice (some ⟨i, 0, none⟩) 0 0) a0 h_1 fun v7 h_2 =>
    K v7 h_2)
theorem e42 (X : CallT) (a0 : Value) (h : AH) (K : Value → AH → Prop) : cwp2 Try.prog X (Try.f42.body.getD .skip) (endW Try.prog Try.f42 K) (envOf [a0]) h = s42 X a0 h K := by kernel_rfl
theorem c42 {a0 : Value} {h : AH} {K : Value → AH → Prop} (hs : s42 (callW Try.prog) a0 h K) : callW Try.prog 42 [a0] h K := callW_of Try.func42 (by kernel_rfl) (Eq.mpr (e42 _ a0 _ _) hs)

/-- slices.Clone[[]canopy/api.Inner,canopy/api.Inner] () -/
def s43 (X : CallT) (a0 : Value) (h : AH) (K : Value → AH → Prop) : Prop :=
  optW (pBin Try.prog .eql 28 a0 (.slice none 0 0)) fun v4 =>
  condW v4 (
    K (.slice none 0 0) h
  ) (
    optW (bldSl 3 [(.int .i64 0), (.int .i64 0), (.int .i64 0)] 0 []) fun c =>
    newW none (.row c true) h fun i h_1 =>
    appSl 3 (.slice (some ⟨i, 0, none⟩) 0 0) a0 h_1 fun v7 h_2 =>
    K v7 h_2)
theorem e43 (X : CallT) (a0 : Value) (h : AH) (K : Value → AH → Prop) : cwp2 Try.prog X (Try.f43.body.getD .skip) (endW Try.prog Try.f43 K) (envOf [a0]) h = s43 X a0 h K := by kernel_rfl
theorem c43 {a0 : Value} {h : AH} {K : Value → AH → Prop} (hs : s43 (callW Try.prog) a0 h K) : callW Try.prog 43 [a0] h K := callW_of Try.func43 (by kernel_rfl) (Eq.mpr (e43 _ a0 _ _) hs)

/-- canopy/feed.begin (I at e: live [3, 11, 12, 13], writes [5, 13, 14, 15, 16, 17, 18, 19, 20, 21, 22, 23]) -/
def s44 (X : CallT) (a0 : Value) (h : AH) (K : Value → AH → Prop) : Prop :=
  aBox a0 none h fun v1 h_1 =>
  newR none [(.int .i64 0), (.int .i64 0), (.slice none 0 0), (.slice none 0 0), (.slice none 0 0), (.slice none 0 0), (.slice none 0 0), (.map none), (.int .i64 0), (.slice none 0 0)] h_1 fun v2 h_2 =>
  optW (rdRow true 7 v1 h_2) fun v6 =>
  newW none (.map [] 0) h_2 fun i h_3 =>
  optW (bld [(.map none), (.int .i64 0)] [(0, 1), (1, 1)] [(0, (.map (some i)))]) fun v8 =>
  optW (bld [(.int .i64 0), (.int .i64 0), (.slice none 0 0), (.slice none 0 0), (.slice none 0 0), (.slice none 0 0), (.slice none 0 0), (.map none), (.int .i64 0), (.slice none 0 0)] [(0, 7), (7, 2), (9, 1)] [(0, v6), (1, v8)]) fun v9 =>
  newR none [(.int .i64 0), (.int .i64 0), (.slice none 0 0), (.slice none 0 0), (.slice none 0 0), (.slice none 0 0), (.slice none 0 0), (.map none), (.int .i64 0), (.slice none 0 0)] h_3 fun v3 h_4 =>
  optW (pStore 10 v3 v9 h_4) fun h_5 =>
  optW (pOff 2 v1) fun v10 =>
  optW (rdRow false 1 v10 h_5) fun v11 =>
  optW (lenSl v11) fun v12 =>
  loopE (fun I e h_6 =>
    optW (pBin Try.prog .lss 3 (e 13) (e 12)) fun v14 =>
    condW v14 (
      optW (pIdxS 1 (e 11) (e 13)) fun v15 =>
      optW (rdRow false 1 v15 h_6) fun v16 =>
      optW (pOff 7 (e 3)) fun v17 =>
      optW (pOff 0 v17) fun v18 =>
      optW (rdRow false 1 v18 h_6) fun v19 =>
      optW (bld [(.int .i64 0), (.int .i64 0)] [(0, 1), (1, 1)] [(0, v16), (1, v16)]) fun v22 =>
      optW (pMapUpd Try.prog 88 v19 v22 (.int .i64 1) h_6) fun h_7 =>
      optW (pBin Try.prog .add 3 (e 13) (.int .i64 1)) fun v23 =>
      I (pt (pt (pt (pt (pt (pt (pt (pt (pt (pt (pt (pt e 14 v14) 15 v15) 16 v16) 5 v16) 17 v17) 18 v18) 19 v19) 20 v16) 21 v16) 22 v22) 23 v23) 13 v23) h_7
    ) (
      optW (rdRow true 10 (e 3) h_6) fun v24 =>
      optW (pStore 10 (e 2) v24 h_6) fun h_8 =>
      optW (resList Try.prog (pt (pt e 14 v14) 24 v24) h_8 Try.f44.results.toList) fun vs => K (resOf vs) h_8))
  (pt (pt (pt (pt (pt (pt (pt (pt (pt (pt (pt (envOf [a0]) 1 v1) 2 v2) 6 v6) 7 (.map (some i))) 8 v8) 9 v9) 3 v3) 10 v10) 11 v11) 12 v12) 13 (.int .i64 0)) h_5
theorem e44 (X : CallT) (a0 : Value) (h : AH) (K : Value → AH → Prop) : cwp2 Try.prog X (Try.f44.body.getD .skip) (endW Try.prog Try.f44 K) (envOf [a0]) h = s44 X a0 h K := by kernel_rfl
theorem c44 {a0 : Value} {h : AH} {K : Value → AH → Prop} (hs : s44 (callW Try.prog) a0 h K) : callW Try.prog 44 [a0] h K := callW_of Try.func44 (by kernel_rfl) (Eq.mpr (e44 _ a0 _ _) hs)

/-- slices.Clone[[]canopy/api.Sym,canopy/api.Sym] () -/
def s45 (X : CallT) (a0 : Value) (h : AH) (K : Value → AH → Prop) : Prop :=
  optW (pBin Try.prog .eql 24 a0 (.slice none 0 0)) fun v4 =>
  condW v4 (
    K (.slice none 0 0) h
  ) (
    optW (bldSl 2 [(.string (bs [])), (.int .i64 0)] 0 []) fun c =>
    newW none (.row c true) h fun i h_1 =>
    appSl 2 (.slice (some ⟨i, 0, none⟩) 0 0) a0 h_1 fun v7 h_2 =>
    K v7 h_2)
theorem e45 (X : CallT) (a0 : Value) (h : AH) (K : Value → AH → Prop) : cwp2 Try.prog X (Try.f45.body.getD .skip) (endW Try.prog Try.f45 K) (envOf [a0]) h = s45 X a0 h K := by kernel_rfl
theorem c45 {a0 : Value} {h : AH} {K : Value → AH → Prop} (hs : s45 (callW Try.prog) a0 h K) : callW Try.prog 45 [a0] h K := callW_of Try.func45 (by kernel_rfl) (Eq.mpr (e45 _ a0 _ _) hs)

/-- (*canopy/feed.Feed).step () -/
def s46 (X : CallT) (a0 a1 : Value) (h : AH) (K : Value → AH → Prop) : Prop :=
  X 61 [a1] h fun v5 h_1 =>
  optW (pUn .not v5) fun v6 =>
  condW v6 (
    X 47 [a0] h_1 fun v8 h_2 =>
    optW (pNilCheck a0) fun v14 =>
    optW (pOff 16 v14) fun v15 =>
    optW (rdRow false 1 v15 h_2) fun v16 =>
    optW (pBin Try.prog .neq 42 v16 (.int .i64 0)) fun v17 =>
    condW v17 (
      optW (pNilCheck a0) fun v30 =>
      optW (pOff 14 v30) fun v31 =>
      optW (rdRow false 1 v31 h_2) fun v32 =>
      optW (pBin Try.prog .add 3 v32 (.int .i64 1)) fun v33 =>
      optW (pNilCheck a0) fun v34 =>
      optW (pOff 14 v34) fun v35 =>
      optW (pStore 1 v35 v33 h_2) fun h_3 =>
      K (.tuple #[]) h_3
    ) (
      optW (pNilCheck a0) fun v20 =>
      optW (pOff 10 v20) fun v21 =>
      optW (pOff 0 v21) fun v22 =>
      optW (rdRow false 1 v22 h_2) fun v23 =>
      optW (lenSl v23) fun v24 =>
      optW (pBin Try.prog .eql 3 v24 (.int .i64 0)) fun v25 =>
      condW v25 (
        X 62 [a0, a1] h_2 fun v28 h_4 =>
        optW (pNilCheck a0) fun v30_1 =>
        optW (pOff 14 v30_1) fun v31_1 =>
        optW (rdRow false 1 v31_1 h_4) fun v32_1 =>
        optW (pBin Try.prog .add 3 v32_1 (.int .i64 1)) fun v33_1 =>
        optW (pNilCheck a0) fun v34_1 =>
        optW (pOff 14 v34_1) fun v35_1 =>
        optW (pStore 1 v35_1 v33_1 h_4) fun h_5 =>
        K (.tuple #[]) h_5
      ) (
        X 63 [a0, a1] h_2 fun v11 h_6 =>
        optW (pNilCheck a0) fun v30_2 =>
        optW (pOff 14 v30_2) fun v31_2 =>
        optW (rdRow false 1 v31_2 h_6) fun v32_2 =>
        optW (pBin Try.prog .add 3 v32_2 (.int .i64 1)) fun v33_2 =>
        optW (pNilCheck a0) fun v34_2 =>
        optW (pOff 14 v34_2) fun v35_2 =>
        optW (pStore 1 v35_2 v33_2 h_6) fun h_7 =>
        K (.tuple #[]) h_7))
  ) (
    optW (pNilCheck a0) fun v14_1 =>
    optW (pOff 16 v14_1) fun v15_1 =>
    optW (rdRow false 1 v15_1 h_1) fun v16_1 =>
    optW (pBin Try.prog .neq 42 v16_1 (.int .i64 0)) fun v17_1 =>
    condW v17_1 (
      optW (pNilCheck a0) fun v30_3 =>
      optW (pOff 14 v30_3) fun v31_3 =>
      optW (rdRow false 1 v31_3 h_1) fun v32_3 =>
      optW (pBin Try.prog .add 3 v32_3 (.int .i64 1)) fun v33_3 =>
      optW (pNilCheck a0) fun v34_3 =>
      optW (pOff 14 v34_3) fun v35_3 =>
      optW (pStore 1 v35_3 v33_3 h_1) fun h_8 =>
      K (.tuple #[]) h_8
    ) (
      optW (pNilCheck a0) fun v20_1 =>
      optW (pOff 10 v20_1) fun v21_1 =>
      optW (pOff 0 v21_1) fun v22_1 =>
      optW (rdRow false 1 v22_1 h_1) fun v23_1 =>
      optW (lenSl v23_1) fun v24_1 =>
      optW (pBin Try.prog .eql 3 v24_1 (.int .i64 0)) fun v25_1 =>
      condW v25_1 (
        X 62 [a0, a1] h_1 fun v28_1 h_9 =>
        optW (pNilCheck a0) fun v30_4 =>
        optW (pOff 14 v30_4) fun v31_4 =>
        optW (rdRow false 1 v31_4 h_9) fun v32_4 =>
        optW (pBin Try.prog .add 3 v32_4 (.int .i64 1)) fun v33_4 =>
        optW (pNilCheck a0) fun v34_4 =>
        optW (pOff 14 v34_4) fun v35_4 =>
        optW (pStore 1 v35_4 v33_4 h_9) fun h_10 =>
        K (.tuple #[]) h_10
      ) (
        X 63 [a0, a1] h_1 fun v11_1 h_11 =>
        optW (pNilCheck a0) fun v30_5 =>
        optW (pOff 14 v30_5) fun v31_5 =>
        optW (rdRow false 1 v31_5 h_11) fun v32_5 =>
        optW (pBin Try.prog .add 3 v32_5 (.int .i64 1)) fun v33_5 =>
        optW (pNilCheck a0) fun v34_5 =>
        optW (pOff 14 v34_5) fun v35_5 =>
        optW (pStore 1 v35_5 v33_5 h_11) fun h_12 =>
        K (.tuple #[]) h_12)))
theorem e46 (X : CallT) (a0 a1 : Value) (h : AH) (K : Value → AH → Prop) : cwp2 Try.prog X (Try.f46.body.getD .skip) (endW Try.prog Try.f46 K) (envOf [a0, a1]) h = s46 X a0 a1 h K := by kernel_rfl
theorem c46 {a0 a1 : Value} {h : AH} {K : Value → AH → Prop} (hs : s46 (callW Try.prog) a0 a1 h K) : callW Try.prog 46 [a0, a1] h K := callW_of Try.func46 (by kernel_rfl) (Eq.mpr (e46 _ a0 a1 _ _) hs)

/-- (*canopy/feed.Feed).ended () -/
def s47 (X : CallT) (a0 : Value) (h : AH) (K : Value → AH → Prop) : Prop :=
  optW (pNilCheck a0) fun v3 =>
  optW (pOff 10 v3) fun v4 =>
  optW (pOff 0 v4) fun v5 =>
  optW (rdRow false 1 v5 h) fun v6 =>
  optW (lenSl v6) fun v7 =>
  optW (pBin Try.prog .gtr 3 v7 (.int .i64 0)) fun v8 =>
  gopW (gB v8 true) (fun k =>
    k a0 h) h fun v10 h_1 =>
  gopW (gB v8 true) (fun k_1 =>
    optW (pNilCheck v10) fun v11_1 =>
    k_1 v11_1 h_1) h_1 fun v11 h_2 =>
  gopW (gB v8 true) (fun k_2 =>
    optW (pOff 10 v11) fun v12_1 =>
    k_2 v12_1 h_2) h_2 fun v12 h_3 =>
  gopW (gB v8 true) (fun k_3 =>
    optW (pOff 0 v12) fun v13_1 =>
    k_3 v13_1 h_3) h_3 fun v13 h_4 =>
  gopW (gB v8 true) (fun k_4 =>
    optW (rdRow false 1 v13 h_4) fun v14_1 =>
    k_4 v14_1 h_4) h_4 fun v14 h_5 =>
  gopW (gB v8 true) (fun k_5 =>
    optW (pIdxS 1 v14 (.int .i64 0)) fun v15_1 =>
    k_5 v15_1 h_5) h_5 fun v15 h_6 =>
  gopW (gB v8 true) (fun k_6 =>
    optW (rdRow false 1 v15 h_6) fun v16_1 =>
    k_6 v16_1 h_6) h_6 fun v16 h_7 =>
  gopW (gB v8 true) (fun k_7 =>
    X 61 [v16] h_7 fun v17_1 h_9 =>
    k_7 v17_1 h_9) h_7 fun v17 h_8 =>
  optW (pPick v8 v17 (.bool false)) fun v18 =>
  condW v18 (
    optW (pNilCheck a0) fun v21 =>
    optW (pOff 10 v21) fun v22 =>
    optW (pOff 0 v22) fun v23 =>
    optW (rdRow false 1 v23 h_8) fun v24 =>
    optW (pBytesStr v24 h_8) fun v25 =>
    X 64 [a0, v25, (.int .i64 3)] h_8 fun v26 h_10 =>
    K (.tuple #[]) h_10
  ) (
    K (.tuple #[]) h_8)
theorem e47 (X : CallT) (a0 : Value) (h : AH) (K : Value → AH → Prop) : cwp2 Try.prog X (Try.f47.body.getD .skip) (endW Try.prog Try.f47 K) (envOf [a0]) h = s47 X a0 h K := by kernel_rfl
theorem c47 {a0 : Value} {h : AH} {K : Value → AH → Prop} (hs : s47 (callW Try.prog) a0 h K) : callW Try.prog 47 [a0] h K := callW_of Try.func47 (by kernel_rfl) (Eq.mpr (e47 _ a0 _ _) hs)

/-- (*canopy/feed.Feed).wrong () -/
def s48 (X : CallT) (a0 a1 a2 : Value) (h : AH) (K : Value → AH → Prop) : Prop :=
  optW (pNilCheck a0) fun v7 =>
  optW (pOff 16 v7) fun v8 =>
  optW (rdRow false 1 v8 h) fun v9 =>
  optW (pBin Try.prog .eql 42 v9 (.int .i64 0)) fun v10 =>
  condW v10 (
    optW (pNilCheck a0) fun v15 =>
    optW (pOff 16 v15) fun v16 =>
    optW (pStore 1 v16 a1 h) fun h_1 =>
    optW (pNilCheck a0) fun v17 =>
    optW (pOff 17 v17) fun v18 =>
    optW (pStore 1 v18 a2 h_1) fun h_2 =>
    K (.tuple #[]) h_2
  ) (
    K (.tuple #[]) h)
theorem e48 (X : CallT) (a0 a1 a2 : Value) (h : AH) (K : Value → AH → Prop) : cwp2 Try.prog X (Try.f48.body.getD .skip) (endW Try.prog Try.f48 K) (envOf [a0, a1, a2]) h = s48 X a0 a1 a2 h K := by kernel_rfl
theorem c48 {a0 a1 a2 : Value} {h : AH} {K : Value → AH → Prop} (hs : s48 (callW Try.prog) a0 a1 a2 h K) : callW Try.prog 48 [a0, a1, a2] h K := callW_of Try.func48 (by kernel_rfl) (Eq.mpr (e48 _ a0 a1 a2 _ _) hs)

/-- (*canopy/feed.run).final (I at e: live [0, 9], writes [2, 3, 10, 11, 12, 13, 14, 15, 16, 17, 18, 19, 20, 21]) -/
def s49 (X : CallT) (a0 : Value) (h : AH) (K : Value → AH → Prop) : Prop :=
  optW (pNilCheck a0) fun v5 =>
  optW (pOff 7 v5) fun v6 =>
  optW (pOff 0 v6) fun v7 =>
  optW (rdRow false 1 v7 h) fun v8 =>
  aRange Try.prog 88 v8 none h fun v9 h_1 =>
  loopE (fun I e h_2 =>
    aNext (e 9) false h_2 fun v10 h_3 =>
    optW (pExtract v10 0) fun v11 =>
    condW v11 (
      optW (pEntry (e 9) h_3) fun v12 =>
      optW (pExtract v12 0) fun v13 =>
      newR none [(.int .i64 0), (.int .i64 0)] h_3 fun v3 h_4 =>
      optW (pStore 2 v3 v13 h_4) fun h_5 =>
      optW (pNilCheck (e 0)) fun v15 =>
      optW (pOff 0 v15) fun v16 =>
      optW (pOff 3 v16) fun v17 =>
      optW (rdRow false 1 v17 h_5) fun v18 =>
      optW (pOff 1 v3) fun v19 =>
      optW (rdRow false 1 v19 h_5) fun v20 =>
      X 65 [v18, v20] h_5 fun v21 h_6 =>
      condW v21 (
        K (.bool true) h_6
      ) (
        I (pt (pt (pt (pt (pt (pt (pt (pt (pt (pt (pt (pt (pt e 10 v10) 11 v11) 12 v12) 13 v13) 3 v3) 14 (e 0)) 15 v15) 16 v16) 17 v17) 18 v18) 19 v19) 20 v20) 21 v21) h_6)
    ) (
      K (.bool false) h_3))
  (pt (pt (pt (pt (pt (pt (pt (envOf [a0]) 2 (.bool false)) 4 a0) 5 v5) 6 v6) 7 v7) 8 v8) 9 v9) h_1
theorem e49 (X : CallT) (a0 : Value) (h : AH) (K : Value → AH → Prop) : cwp2 Try.prog X (Try.f49.body.getD .skip) (endW Try.prog Try.f49 K) (envOf [a0]) h = s49 X a0 h K := by kernel_rfl
theorem c49 {a0 : Value} {h : AH} {K : Value → AH → Prop} (hs : s49 (callW Try.prog) a0 h K) : callW Try.prog 49 [a0] h K := callW_of Try.func49 (by kernel_rfl) (Eq.mpr (e49 _ a0 _ _) hs)

/-- canopy/canopyref3.state () -/
def s50 (X : CallT) (a0 a1 : Value) (h : AH) (K : Value → AH → Prop) : Prop :=
  aBox a0 none h fun v2 h_1 =>
  optW (pBin Try.prog .geq 3 a1 (.int .i64 0)) fun v6 =>
  gopW (gB v6 true) (fun k =>
    k a1 h_1) h_1 fun v8 h_2 =>
  gopW (gB v6 true) (fun k_1 =>
    optW (pOff 0 v2) fun v9_1 =>
    k_1 v9_1 h_2) h_2 fun v9 h_3 =>
  gopW (gB v6 true) (fun k_2 =>
    optW (rdRow false 1 v9 h_3) fun v10_1 =>
    k_2 v10_1 h_3) h_3 fun v10 h_4 =>
  gopW (gB v6 true) (fun k_3 =>
    optW (pBin Try.prog .lss 3 v8 v10) fun v11_1 =>
    k_3 v11_1 h_4) h_4 fun v11 h_5 =>
  optW (pPick v6 v11 (.bool false)) fun v12 =>
  K v12 h_5
theorem e50 (X : CallT) (a0 a1 : Value) (h : AH) (K : Value → AH → Prop) : cwp2 Try.prog X (Try.f50.body.getD .skip) (endW Try.prog Try.f50 K) (envOf [a0, a1]) h = s50 X a0 a1 h K := by kernel_rfl
theorem c50 {a0 a1 : Value} {h : AH} {K : Value → AH → Prop} (hs : s50 (callW Try.prog) a0 a1 h K) : callW Try.prog 50 [a0, a1] h K := callW_of Try.func50 (by kernel_rfl) (Eq.mpr (e50 _ a0 a1 _ _) hs)

/-- canopy/canopyref3.kind () -/
def s51 (X : CallT) (a0 a1 a2 : Value) (h : AH) (K : Value → AH → Prop) : Prop :=
  optW (pBin Try.prog .geq 3 a1 (.int .i64 0)) fun v8 =>
  gopW (gB v8 true) (fun k =>
    k a1 h) h fun v10 h_1 =>
  gopW (gB v8 true) (fun k_1 =>
    k_1 a0 h_1) h_1 fun v11 h_2 =>
  gopW (gB v8 true) (fun k_2 =>
    optW (lenSl v11) fun v12_1 =>
    k_2 v12_1 h_2) h_2 fun v12 h_3 =>
  gopW (gB v8 true) (fun k_3 =>
    optW (pBin Try.prog .lss 3 v10 v12) fun v13_1 =>
    k_3 v13_1 h_3) h_3 fun v13 h_4 =>
  optW (pPick v8 v13 (.bool false)) fun v14 =>
  gopW (gB v14 true) (fun k_4 =>
    k_4 a0 h_4) h_4 fun v16 h_5 =>
  gopW (gB v14 true) (fun k_5 =>
    k_5 a1 h_5) h_5 fun v17 h_6 =>
  gopW (gB v14 true) (fun k_6 =>
    optW (pIdxS 2 v16 v17) fun v18_1 =>
    k_6 v18_1 h_6) h_6 fun v18 h_7 =>
  gopW (gB v14 true) (fun k_7 =>
    optW (pOff 1 v18) fun v19_1 =>
    k_7 v19_1 h_7) h_7 fun v19 h_8 =>
  gopW (gB v14 true) (fun k_8 =>
    optW (rdRow false 1 v19 h_8) fun v20_1 =>
    k_8 v20_1 h_8) h_8 fun v20 h_9 =>
  gopW (gB v14 true) (fun k_9 =>
    k_9 a2 h_9) h_9 fun v21 h_10 =>
  gopW (gB v14 true) (fun k_10 =>
    optW (pBin Try.prog .eql 3 v20 v21) fun v22_1 =>
    k_10 v22_1 h_10) h_10 fun v22 h_11 =>
  optW (pPick v14 v22 (.bool false)) fun v23 =>
  K v23 h_11
theorem e51 (X : CallT) (a0 a1 a2 : Value) (h : AH) (K : Value → AH → Prop) : cwp2 Try.prog X (Try.f51.body.getD .skip) (endW Try.prog Try.f51 K) (envOf [a0, a1, a2]) h = s51 X a0 a1 a2 h K := by kernel_rfl
theorem c51 {a0 a1 a2 : Value} {h : AH} {K : Value → AH → Prop} (hs : s51 (callW Try.prog) a0 a1 a2 h K) : callW Try.prog 51 [a0, a1, a2] h K := callW_of Try.func51 (by kernel_rfl) (Eq.mpr (e51 _ a0 a1 a2 _ _) hs)

/-- canopy/canopyref4.inside (I at e: live [1, 3, 4], writes [3, 4, 15, 16, 17, 18, 19, 20, 21, 22, 23, 24, 25, 26, 27, 28, 29, 30, 31, 32, 33, 34, 35, 36]; I_1 at e_1: live [1, 3, 5], writes [3, 5, 37, 38, 39, 40, 41, 42, 43, 44, 45, 46, 47, 48, 49, 50, 51, 52, 53, 54, 55, 56, 57, 58]; I_2 at e_2: live [1, 3, 6], writes [3, 6, 59, 60, 61, 62, 63, 64, 65, 66, 67, 68, 69, 70, 71, 72, 73, 74, 75, 76, 77, 78, 79, 80]; I_3 at e_3: live [1, 3, 7], writes [2, 7, 81, 82, 83, 84, 85, 86, 87, 88, 89, 90, 91, 92, 93, 94, 95, 96, 97, 98, 99, 100]) -/
def s52 (X : CallT) (a0 : Value) (h : AH) (K : Value → AH → Prop) : Prop :=
  aBox a0 none h fun v1 h_1 =>
  optW (bldSl 1 [(.int .i64 0)] 0 []) fun c =>
  newW (some (h_1.length)) (.row c true) (reserve 1 h_1) fun i h_2 =>
  optW (pOff 2 v1) fun v9 =>
  (∀ x ∈ (idOf v9), ((reserve 1 h_1) : AH)[x]? = (h_2 : AH)[x]?) ∧
  optW (rdRow false 1 v9 h_2) fun v10 =>
  appSl 1 (.slice (some ⟨i, 0, none⟩) 0 0) v10 h_2 fun v11 h_3 =>
  optW (pOff 3 v1) fun v12 =>
  (∀ x ∈ (idOf v12), (h_2 : AH)[x]? = (h_3 : AH)[x]?) ∧
  (∀ x ∈ (idOf v12), ((reserve 1 h_1) : AH)[x]? = (h_2 : AH)[x]?) ∧
  optW (rdRow false 1 v12 h_3) fun v13 =>
  appSl 1 v11 v13 h_3 fun v14 h_4 =>
  loopE (fun I e h_5 =>
    optW (pOff 6 (e 1)) fun v16 =>
    optW (rdRow false 1 v16 h_5) fun v17 =>
    optW (lenSl v17) fun v18 =>
    optW (pBin Try.prog .lss 3 (e 4) v18) fun v19 =>
    condW v19 (
      optW (pOff 6 (e 1)) fun v23 =>
      optW (rdRow false 1 v23 (reserve 1 h_5)) fun v24 =>
      optW (pIdxS 3 v24 (e 4)) fun v26 =>
      optW (pOff 0 v26) fun v27 =>
      optW (rdRow false 1 v27 (reserve 1 h_5)) fun v28 =>
      optW (pOff 6 (e 1)) fun v29 =>
      optW (rdRow false 1 v29 (reserve 1 h_5)) fun v30 =>
      optW (pIdxS 3 v30 (e 4)) fun v32 =>
      optW (pOff 2 v32) fun v33 =>
      optW (rdRow false 1 v33 (reserve 1 h_5)) fun v34 =>
      optW (bldSl 1 [(.int .i64 0)] 2 [(0, v28), (1, v34)]) fun c_1 =>
      newW (some (h_5.length)) (.row c_1 true) (reserve 1 h_5) fun i_1 h_6 =>
      appSl 1 (e 3) (.slice (some ⟨i_1, 0, none⟩) 2 2) h_6 fun v36 h_7 =>
      optW (pBin Try.prog .add 3 (e 4) (.int .i64 1)) fun v21 =>
      I (pt (pt (pt (pt (pt (pt (pt (pt (pt (pt (pt (pt (pt (pt (pt (pt (pt (pt (pt (pt (pt (pt (pt (pt e 15 (e 4)) 16 v16) 17 v17) 18 v18) 19 v19) 22 (e 3)) 23 v23) 24 v24) 25 (e 4)) 26 v26) 27 v27) 28 v28) 29 v29) 30 v30) 31 (e 4)) 32 v32) 33 v33) 34 v34) 35 (.slice (some ⟨i_1, 0, none⟩) 2 2)) 36 v36) 3 v36) 20 (e 4)) 21 v21) 4 v21) h_7
    ) (
      loopE (fun I_1 e_1 h_8 =>
        optW (pOff 4 (e_1 1)) fun v38 =>
        optW (rdRow false 1 v38 h_8) fun v39 =>
        optW (lenSl v39) fun v40 =>
        optW (pBin Try.prog .lss 3 (e_1 5) v40) fun v41 =>
        condW v41 (
          optW (pOff 4 (e_1 1)) fun v45 =>
          optW (rdRow false 1 v45 (reserve 1 h_8)) fun v46 =>
          optW (pIdxS 4 v46 (e_1 5)) fun v48 =>
          optW (pOff 0 v48) fun v49 =>
          optW (rdRow false 1 v49 (reserve 1 h_8)) fun v50 =>
          optW (pOff 4 (e_1 1)) fun v51 =>
          optW (rdRow false 1 v51 (reserve 1 h_8)) fun v52 =>
          optW (pIdxS 4 v52 (e_1 5)) fun v54 =>
          optW (pOff 2 v54) fun v55 =>
          optW (rdRow false 1 v55 (reserve 1 h_8)) fun v56 =>
          optW (bldSl 1 [(.int .i64 0)] 2 [(0, v50), (1, v56)]) fun c_2 =>
          newW (some (h_8.length)) (.row c_2 true) (reserve 1 h_8) fun i_2 h_9 =>
          appSl 1 (e_1 3) (.slice (some ⟨i_2, 0, none⟩) 2 2) h_9 fun v58 h_10 =>
          optW (pBin Try.prog .add 3 (e_1 5) (.int .i64 1)) fun v43 =>
          I_1 (pt (pt (pt (pt (pt (pt (pt (pt (pt (pt (pt (pt (pt (pt (pt (pt (pt (pt (pt (pt (pt (pt (pt (pt e_1 37 (e_1 5)) 38 v38) 39 v39) 40 v40) 41 v41) 44 (e_1 3)) 45 v45) 46 v46) 47 (e_1 5)) 48 v48) 49 v49) 50 v50) 51 v51) 52 v52) 53 (e_1 5)) 54 v54) 55 v55) 56 v56) 57 (.slice (some ⟨i_2, 0, none⟩) 2 2)) 58 v58) 3 v58) 42 (e_1 5)) 43 v43) 5 v43) h_10
        ) (
          loopE (fun I_2 e_2 h_11 =>
            optW (pOff 5 (e_2 1)) fun v60 =>
            optW (rdRow false 1 v60 h_11) fun v61 =>
            optW (lenSl v61) fun v62 =>
            optW (pBin Try.prog .lss 3 (e_2 6) v62) fun v63 =>
            condW v63 (
              optW (pOff 5 (e_2 1)) fun v67 =>
              optW (rdRow false 1 v67 (reserve 1 h_11)) fun v68 =>
              optW (pIdxS 4 v68 (e_2 6)) fun v70 =>
              optW (pOff 0 v70) fun v71 =>
              optW (rdRow false 1 v71 (reserve 1 h_11)) fun v72 =>
              optW (pOff 5 (e_2 1)) fun v73 =>
              optW (rdRow false 1 v73 (reserve 1 h_11)) fun v74 =>
              optW (pIdxS 4 v74 (e_2 6)) fun v76 =>
              optW (pOff 3 v76) fun v77 =>
              optW (rdRow false 1 v77 (reserve 1 h_11)) fun v78 =>
              optW (bldSl 1 [(.int .i64 0)] 2 [(0, v72), (1, v78)]) fun c_3 =>
              newW (some (h_11.length)) (.row c_3 true) (reserve 1 h_11) fun i_3 h_12 =>
              appSl 1 (e_2 3) (.slice (some ⟨i_3, 0, none⟩) 2 2) h_12 fun v80 h_13 =>
              optW (pBin Try.prog .add 3 (e_2 6) (.int .i64 1)) fun v65 =>
              I_2 (pt (pt (pt (pt (pt (pt (pt (pt (pt (pt (pt (pt (pt (pt (pt (pt (pt (pt (pt (pt (pt (pt (pt (pt e_2 59 (e_2 6)) 60 v60) 61 v61) 62 v62) 63 v63) 66 (e_2 3)) 67 v67) 68 v68) 69 (e_2 6)) 70 v70) 71 v71) 72 v72) 73 v73) 74 v74) 75 (e_2 6)) 76 v76) 77 v77) 78 v78) 79 (.slice (some ⟨i_3, 0, none⟩) 2 2)) 80 v80) 3 v80) 64 (e_2 6)) 65 v65) 6 v65) h_13
            ) (
              loopE (fun I_3 e_3 h_14 =>
                optW (lenSl (e_3 3)) fun v83 =>
                optW (pBin Try.prog .lss 3 (e_3 7) v83) fun v84 =>
                condW v84 (
                  optW (pIdxS 1 (e_3 3) (e_3 7)) fun v89 =>
                  optW (rdRow false 1 v89 h_14) fun v90 =>
                  optW (pBin Try.prog .lss 3 v90 (.int .i64 0)) fun v91 =>
                  gopD (gB v91 false) (fun k =>
                    k (e_3 3) h_14 [] ((3, (idOf v89)) :: [])) h_14 [] ((3, (idOf v89)) :: []) fun v93 h_15 H S =>
                  gopD (gB v91 false) (fun k_1 =>
                    k_1 (e_3 7) h_15 H S) h_15 H S fun v94 h_16 H_1 S_1 =>
                  gopD (gB v91 false) (fun k_2 =>
                    optW (pIdxS 1 v93 v94) fun v95_1 =>
                    k_2 v95_1 h_16 H_1 S_1) h_16 H_1 S_1 fun v95 h_17 H_2 S_2 =>
                  gopD (gB v91 false) (fun k_3 =>
                    histC #[0, 0, 3, 7, 15, 31, 63, 63, 255, 511, 63, 1087, 4095, 8191] 9 (idOf v95) H_2 (
                      optW (rdRow false 1 v95 h_17) fun v96_1 =>
                      k_3 v96_1 h_17 H_2 ((9, (idOf v95)) :: S_2))) h_17 H_2 S_2 fun v96 h_18 H_3 S_3 =>
                  gopD (gB v91 false) (fun k_4 =>
                    optW (pOff 0 (e_3 1)) fun v97_1 =>
                    k_4 v97_1 h_18 H_3 S_3) h_18 H_3 S_3 fun v97 h_19 H_4 S_4 =>
                  gopD (gB v91 false) (fun k_5 =>
                    histC #[0, 0, 3, 7, 15, 31, 63, 63, 255, 511, 63, 1087, 4095, 8191] 11 (idOf v97) H_4 (
                      optW (rdRow false 1 v97 h_19) fun v98_1 =>
                      k_5 v98_1 h_19 H_4 ((11, (idOf v97)) :: S_4))) h_19 H_4 S_4 fun v98 h_20 H_5 S_5 =>
                  gopD (gB v91 false) (fun k_6 =>
                    optW (pBin Try.prog .geq 3 v96 v98) fun v99_1 =>
                    k_6 v99_1 h_20 H_5 S_5) h_20 H_5 S_5 fun v99 h_21 H_6 S_6 =>
                  optW (pPick v91 (.bool true) v99) fun v100 =>
                  condW v100 (
                    K (.bool false) h_21
                  ) (
                    optW (pBin Try.prog .add 3 (e_3 7) (.int .i64 1)) fun v86 =>
                    I_3 (pt (pt (pt (pt (pt (pt (pt (pt (pt (pt (pt (pt (pt (pt (pt (pt (pt (pt (pt (pt (pt e_3 81 (e_3 7)) 82 (e_3 3)) 83 v83) 84 v84) 87 (e_3 3)) 88 (e_3 7)) 89 v89) 90 v90) 91 v91) 92 v91) 93 v93) 94 v94) 95 v95) 96 v96) 97 v97) 98 v98) 99 v99) 100 v100) 85 (e_3 7)) 86 v86) 7 v86) h_21)
                ) (
                  K (.bool true) h_14))
              (pt (pt (pt (pt (pt (pt e_2 59 (e_2 6)) 60 v60) 61 v61) 62 v62) 63 v63) 7 (.int .i64 0)) h_11))
          (pt (pt (pt (pt (pt (pt e_1 37 (e_1 5)) 38 v38) 39 v39) 40 v40) 41 v41) 6 (.int .i64 0)) h_8))
      (pt (pt (pt (pt (pt (pt e 15 (e 4)) 16 v16) 17 v17) 18 v18) 19 v19) 5 (.int .i64 0)) h_5))
  (pt (pt (pt (pt (pt (pt (pt (pt (pt (pt (pt (envOf [a0]) 1 v1) 2 (.bool false)) 8 (.slice (some ⟨i, 0, none⟩) 0 0)) 9 v9) 10 v10) 11 v11) 12 v12) 13 v13) 14 v14) 3 v14) 4 (.int .i64 0)) h_4
theorem e52 (X : CallT) (a0 : Value) (h : AH) (K : Value → AH → Prop) : cwp2 Try.prog X (Try.f52.body.getD .skip) (endW Try.prog Try.f52 K) (envOf [a0]) h = s52 X a0 h K := by kernel_rfl
theorem c52 {a0 : Value} {h : AH} {K : Value → AH → Prop} (hs : s52 (callW Try.prog) a0 h K) : callW Try.prog 52 [a0] h K := callW_of Try.func52 (by kernel_rfl) (Eq.mpr (e52 _ a0 _ _) hs)

/-- canopy/canopyref4.back (I at e: live [3, 4, 5, 6, 9, 10, 11], writes [11, 12, 13, 14, 15, 25, 26, 27, 28, 29, 30, 31, 32, 33, 34, 35, 36, 37, 38, 39, 40, 41, 42, 43, 44, 45, 46, 47, 48, 49, 50, 51, 52, 53, 54, 55, 56, 57, 58, 59, 60, 61, 62, 63, 64, 65, 66, 67, 68, 69, 70, 71, 72, 73, 74, 75, 76, 77, 78, 79, 80, 81, 82, 83, 84, 85, 86, 87, 88, 89, 90, 91, 92, 93, 94, 95, 96, 97, 98, 99, 100, 101, 102]; I_1 at e_1: live [3, 4, 5, 6, 9, 10, 12, 13], writes [13, 14, 15, 42, 43, 44, 45, 46, 47, 48, 49, 50, 51, 52, 53, 54, 55, 56, 57, 58, 59, 60, 61, 62, 63, 64, 65, 66, 67, 68, 69, 70, 71, 72, 73, 74, 75, 76, 77, 78, 79, 80, 81, 82, 83, 84, 85, 86, 87, 88, 89, 90, 91, 92, 93, 94, 95, 96, 97, 98, 99, 100, 101, 102]; I_2 at e_2: live [5, 9, 10, 12, 14, 15], writes [15, 79, 80, 81, 82, 83, 84, 85, 86, 87, 88, 89, 90, 91, 92, 93, 94, 95, 96, 97, 98, 99, 100, 101, 102]) -/
def s53 (X : CallT) (a0 a1 a2 a3 : Value) (h : AH) (K : Value → AH → Prop) : Prop :=
  aBox a0 none h fun v4 h_1 =>
  aBox a1 none h_1 fun v5 h_2 =>
  aBox a2 none h_2 fun v6 h_3 =>
  newR none [(.slice none 0 0), (.int .i64 0)] h_3 fun v8 h_4 =>
  optW (pOff 0 v4) fun v16 =>
  optW (rdRow false 1 v16 h_4) fun v17 =>
  optW (pBin Try.prog .mul 3 v17 v17) fun v20 =>
  optW (mkSl 1 1 [(.bool false)] v20 v20) fun c =>
  newW (some (h_4.length)) (.row c.2.2 true) (reserve 2 h_4) fun i h_5 =>
  optW (pOff 1 v5) fun v22 =>
  (∀ x ∈ (idOf v22), ((reserve 2 h_4) : AH)[x]? = (h_5 : AH)[x]?) ∧
  optW (rdRow false 1 v22 h_5) fun v23 =>
  optW (bld [(.slice none 0 0), (.int .i64 0)] [(0, 1), (1, 1)] [(0, (.slice (some ⟨i, 0, none⟩) c.1 c.2.1)), (1, v23)]) fun v24 =>
  newR (some (h_4.length + 1)) [(.slice none 0 0), (.int .i64 0)] h_5 fun v10 h_6 =>
  optW (pStore 2 v10 v24 h_6) fun h_7 =>
  loopE (fun I e h_8 =>
    optW (pOff 4 (e 4)) fun v26 =>
    optW (rdRow false 1 v26 h_8) fun v27 =>
    optW (lenSl v27) fun v28 =>
    optW (pBin Try.prog .lss 3 (e 11) v28) fun v29 =>
    condW v29 (
      optW (pOff 4 (e 4)) fun v32 =>
      optW (rdRow false 1 v32 h_8) fun v33 =>
      optW (pIdxS 4 v33 (e 11)) fun v35 =>
      optW (rdRow true 4 v35 h_8) fun v36 =>
      newR none [(.int .i64 0), (.int .i64 0), (.int .i64 0), (.int .i64 0)] h_8 fun v12 h_9 =>
      optW (pStore 4 v12 v36 h_9) fun h_10 =>
      optW (pOff 1 v12) fun v37 =>
      optW (rdRow false 1 v37 h_10) fun v38 =>
      optW (pOff 1 (e 6)) fun v39 =>
      optW (rdRow false 1 v39 h_10) fun v40 =>
      optW (pBin Try.prog .neq 3 v38 v40) fun v41 =>
      condW v41 (
        optW (pBin Try.prog .add 3 (e 11) (.int .i64 1)) fun v31 =>
        I (pt (pt (pt (pt (pt (pt (pt (pt (pt (pt (pt (pt (pt (pt (pt (pt (pt (pt (pt e 25 (e 11)) 26 v26) 27 v27) 28 v28) 29 v29) 32 v32) 33 v33) 34 (e 11)) 35 v35) 36 v36) 12 v12) 37 v37) 38 v38) 39 v39) 40 v40) 41 v41) 30 (e 11)) 31 v31) 11 v31) h_10
      ) (
        loopE (fun I_1 e_1 h_11 =>
          optW (pOff 5 (e_1 4)) fun v43 =>
          optW (rdRow false 1 v43 h_11) fun v44 =>
          optW (lenSl v44) fun v45 =>
          optW (pBin Try.prog .lss 3 (e_1 13) v45) fun v46 =>
          condW v46 (
            optW (pOff 5 (e_1 4)) fun v49 =>
            optW (rdRow false 1 v49 h_11) fun v50 =>
            optW (pIdxS 4 v50 (e_1 13)) fun v52 =>
            optW (rdRow true 4 v52 h_11) fun v53 =>
            newR none [(.int .i64 0), (.int .i64 0), (.int .i64 0), (.int .i64 0)] h_11 fun v14 h_12 =>
            optW (pStore 4 v14 v53 h_12) fun h_13 =>
            optW (pOff 1 v14) fun v54 =>
            optW (rdRow false 1 v54 h_13) fun v55 =>
            optW (pBin Try.prog .neq 3 v55 (e_1 3)) fun v57 =>
            gopW (gB v57 false) (fun k =>
              optW (pOff 2 v14) fun v59_1 =>
              k v59_1 h_13) h_13 fun v59 h_14 =>
            gopW (gB v57 false) (fun k_1 =>
              optW (rdRow false 1 v59 h_14) fun v60_1 =>
              k_1 v60_1 h_14) h_14 fun v60 h_15 =>
            gopW (gB v57 false) (fun k_2 =>
              optW (pOff 3 (e_1 12)) fun v61_1 =>
              k_2 v61_1 h_15) h_15 fun v61 h_16 =>
            gopW (gB v57 false) (fun k_3 =>
              optW (rdRow false 1 v61 h_16) fun v62_1 =>
              k_3 v62_1 h_16) h_16 fun v62 h_17 =>
            gopW (gB v57 false) (fun k_4 =>
              optW (pBin Try.prog .neq 3 v60 v62) fun v63_1 =>
              k_4 v63_1 h_17) h_17 fun v63 h_18 =>
            optW (pPick v57 (.bool true) v63) fun v64 =>
            gopW (gB v64 false) (fun k_5 =>
              optW (pOff 0 (e_1 6)) fun v66_1 =>
              k_5 v66_1 h_18) h_18 fun v66 h_19 =>
            gopW (gB v64 false) (fun k_6 =>
              optW (rdRow false 1 v66 h_19) fun v67_1 =>
              k_6 v67_1 h_19) h_19 fun v67 h_20 =>
            gopW (gB v64 false) (fun k_7 =>
              optW (pOff 2 (e_1 12)) fun v68_1 =>
              k_7 v68_1 h_20) h_20 fun v68 h_21 =>
            gopW (gB v64 false) (fun k_8 =>
              optW (rdRow false 1 v68 h_21) fun v69_1 =>
              k_8 v69_1 h_21) h_21 fun v69 h_22 =>
            gopW (gB v64 false) (fun k_9 =>
              k_9 (e_1 9) h_22) h_22 fun v70 h_23 =>
            gopW (gB v64 false) (fun k_10 =>
              optW (pBin Try.prog .mul 3 v69 v70) fun v71_1 =>
              k_10 v71_1 h_23) h_23 fun v71 h_24 =>
            gopW (gB v64 false) (fun k_11 =>
              optW (pOff 0 v14) fun v72_1 =>
              k_11 v72_1 h_24) h_24 fun v72 h_25 =>
            gopW (gB v64 false) (fun k_12 =>
              optW (rdRow false 1 v72 h_25) fun v73_1 =>
              k_12 v73_1 h_25) h_25 fun v73 h_26 =>
            gopW (gB v64 false) (fun k_13 =>
              optW (pBin Try.prog .add 3 v71 v73) fun v74_1 =>
              k_13 v74_1 h_26) h_26 fun v74 h_27 =>
            gopW (gB v64 false) (fun k_14 =>
              optW (pIdxS 1 v67 v74) fun v75_1 =>
              k_14 v75_1 h_27) h_27 fun v75 h_28 =>
            gopW (gB v64 false) (fun k_15 =>
              optW (rdRow false 1 v75 h_28) fun v76_1 =>
              k_15 v76_1 h_28) h_28 fun v76 h_29 =>
            gopW (gB v64 false) (fun k_16 =>
              optW (pUn .not v76) fun v77_1 =>
              k_16 v77_1 h_29) h_29 fun v77 h_30 =>
            optW (pPick v64 (.bool true) v77) fun v78 =>
            condW v78 (
              optW (pBin Try.prog .add 3 (e_1 13) (.int .i64 1)) fun v48 =>
              I_1 (pt (pt (pt (pt (pt (pt (pt (pt (pt (pt (pt (pt (pt (pt (pt (pt (pt (pt (pt (pt (pt (pt (pt (pt (pt (pt (pt (pt (pt (pt (pt (pt (pt (pt (pt (pt (pt (pt (pt e_1 42 (e_1 13)) 43 v43) 44 v44) 45 v45) 46 v46) 49 v49) 50 v50) 51 (e_1 13)) 52 v52) 53 v53) 14 v14) 54 v54) 55 v55) 56 (e_1 3)) 57 v57) 58 v57) 59 v59) 60 v60) 61 v61) 62 v62) 63 v63) 64 v64) 65 v64) 66 v66) 67 v67) 68 v68) 69 v69) 70 v70) 71 v71) 72 v72) 73 v73) 74 v74) 75 v75) 76 v76) 77 v77) 78 v78) 47 (e_1 13)) 48 v48) 13 v48) h_30
            ) (
              loopE (fun I_2 e_2 h_31 =>
                optW (pBin Try.prog .lss 3 (e_2 15) (e_2 9)) fun v81 =>
                condW v81 (
                  optW (pOff 0 (e_2 5)) fun v84 =>
                  optW (rdRow false 1 v84 h_31) fun v85 =>
                  optW (pBin Try.prog .mul 3 (e_2 15) (e_2 9)) fun v88 =>
                  optW (pOff 0 (e_2 12)) fun v89 =>
                  optW (rdRow false 1 v89 h_31) fun v90 =>
                  optW (pBin Try.prog .add 3 v88 v90) fun v91 =>
                  optW (pIdxS 1 v85 v91) fun v92 =>
                  optW (rdRow false 1 v92 h_31) fun v93 =>
                  condW v93 (
                    optW (pOff 0 (e_2 10)) fun v94 =>
                    optW (rdRow false 1 v94 h_31) fun v95 =>
                    optW (pBin Try.prog .mul 3 (e_2 15) (e_2 9)) fun v98 =>
                    optW (pOff 3 (e_2 14)) fun v99 =>
                    optW (rdRow false 1 v99 h_31) fun v100 =>
                    optW (pBin Try.prog .add 3 v98 v100) fun v101 =>
                    optW (pIdxS 1 v95 v101) fun v102 =>
                    optW (pStore 1 v102 (.bool true) h_31) fun h_32 =>
                    optW (pBin Try.prog .add 3 (e_2 15) (.int .i64 1)) fun v83 =>
                    I_2 (pt (pt (pt (pt (pt (pt (pt (pt (pt (pt (pt (pt (pt (pt (pt (pt (pt (pt (pt (pt (pt (pt (pt (pt (pt e_2 79 (e_2 15)) 80 (e_2 9)) 81 v81) 84 v84) 85 v85) 86 (e_2 15)) 87 (e_2 9)) 88 v88) 89 v89) 90 v90) 91 v91) 92 v92) 93 v93) 94 v94) 95 v95) 96 (e_2 15)) 97 (e_2 9)) 98 v98) 99 v99) 100 v100) 101 v101) 102 v102) 82 (e_2 15)) 83 v83) 15 v83) h_32
                  ) (
                    optW (pBin Try.prog .add 3 (e_2 15) (.int .i64 1)) fun v83_1 =>
                    I_2 (pt (pt (pt (pt (pt (pt (pt (pt (pt (pt (pt (pt (pt (pt (pt (pt e_2 79 (e_2 15)) 80 (e_2 9)) 81 v81) 84 v84) 85 v85) 86 (e_2 15)) 87 (e_2 9)) 88 v88) 89 v89) 90 v90) 91 v91) 92 v92) 93 v93) 82 (e_2 15)) 83 v83_1) 15 v83_1) h_31)
                ) (
                  optW (pBin Try.prog .add 3 (e_2 13) (.int .i64 1)) fun v48_1 =>
                  I_1 (pt (pt (pt (pt (pt (pt e_2 79 (e_2 15)) 80 (e_2 9)) 81 v81) 47 (e_2 13)) 48 v48_1) 13 v48_1) h_31))
              (pt (pt (pt (pt (pt (pt (pt (pt (pt (pt (pt (pt (pt (pt (pt (pt (pt (pt (pt (pt (pt (pt (pt (pt (pt (pt (pt (pt (pt (pt (pt (pt (pt (pt (pt (pt (pt e_1 42 (e_1 13)) 43 v43) 44 v44) 45 v45) 46 v46) 49 v49) 50 v50) 51 (e_1 13)) 52 v52) 53 v53) 14 v14) 54 v54) 55 v55) 56 (e_1 3)) 57 v57) 58 v57) 59 v59) 60 v60) 61 v61) 62 v62) 63 v63) 64 v64) 65 v64) 66 v66) 67 v67) 68 v68) 69 v69) 70 v70) 71 v71) 72 v72) 73 v73) 74 v74) 75 v75) 76 v76) 77 v77) 78 v78) 15 (.int .i64 0)) h_30)
          ) (
            optW (pBin Try.prog .add 3 (e_1 11) (.int .i64 1)) fun v31_1 =>
            I (pt (pt (pt (pt (pt (pt (pt (pt e_1 42 (e_1 13)) 43 v43) 44 v44) 45 v45) 46 v46) 30 (e_1 11)) 31 v31_1) 11 v31_1) h_11))
        (pt (pt (pt (pt (pt (pt (pt (pt (pt (pt (pt (pt (pt (pt (pt (pt (pt e 25 (e 11)) 26 v26) 27 v27) 28 v28) 29 v29) 32 v32) 33 v33) 34 (e 11)) 35 v35) 36 v36) 12 v12) 37 v37) 38 v38) 39 v39) 40 v40) 41 v41) 13 (.int .i64 0)) h_10)
    ) (
      optW (rdRow true 2 (e 10) h_8) fun v103 =>
      optW (pStore 2 (e 8) v103 h_8) fun h_33 =>
      optW (resList Try.prog (pt (pt (pt (pt (pt (pt e 25 (e 11)) 26 v26) 27 v27) 28 v28) 29 v29) 103 v103) h_33 Try.f53.results.toList) fun vs => K (resOf vs) h_33))
  (pt (pt (pt (pt (pt (pt (pt (pt (pt (pt (pt (pt (pt (pt (pt (pt (envOf [a0, a1, a2, a3]) 4 v4) 5 v5) 6 v6) 8 v8) 16 v16) 17 v17) 9 v17) 18 v17) 19 v17) 20 v20) 21 (.slice (some ⟨i, 0, none⟩) c.1 c.2.1)) 22 v22) 23 v23) 24 v24) 10 v10) 11 (.int .i64 0)) h_7
theorem e53 (X : CallT) (a0 a1 a2 a3 : Value) (h : AH) (K : Value → AH → Prop) : cwp2 Try.prog X (Try.f53.body.getD .skip) (endW Try.prog Try.f53 K) (envOf [a0, a1, a2, a3]) h = s53 X a0 a1 a2 a3 h K := by kernel_rfl
theorem c53 {a0 a1 a2 a3 : Value} {h : AH} {K : Value → AH → Prop} (hs : s53 (callW Try.prog) a0 a1 a2 a3 h K) : callW Try.prog 53 [a0, a1, a2, a3] h K := callW_of Try.func53 (by kernel_rfl) (Eq.mpr (e53 _ a0 a1 a2 a3 _ _) hs)

/-- canopy/canopylaw3.within () -/
def s54 (X : CallT) (a0 a1 : Value) (h : AH) (K : Value → AH → Prop) : Prop :=
  optW (pBin Try.prog .rem 3 a0 a1) fun v8 =>
  optW (pBin Try.prog .lss 3 v8 (.int .i64 0)) fun v10 =>
  condW v10 (
    optW (pBin Try.prog .add 3 v8 a1) fun v13 =>
    K v13 h
  ) (
    K v8 h)
theorem e54 (X : CallT) (a0 a1 : Value) (h : AH) (K : Value → AH → Prop) : cwp2 Try.prog X (Try.f54.body.getD .skip) (endW Try.prog Try.f54 K) (envOf [a0, a1]) h = s54 X a0 a1 h K := by kernel_rfl
theorem c54 {a0 a1 : Value} {h : AH} {K : Value → AH → Prop} (hs : s54 (callW Try.prog) a0 a1 h K) : callW Try.prog 54 [a0, a1] h K := callW_of Try.func54 (by kernel_rfl) (Eq.mpr (e54 _ a0 a1 _ _) hs)

/-- canopy/canopylaw3.pick (I at e: live [0, 1, 7, 8], writes [7, 8, 9, 10, 11, 12, 13, 14, 15, 16, 17, 18, 19, 20, 21, 22, 23, 24, 25]) -/
def s55 (X : CallT) (a0 a1 a2 : Value) (h : AH) (K : Value → AH → Prop) : Prop :=
  loopE (fun I e h_1 =>
    optW (lenSl (e 0)) fun v11 =>
    optW (pBin Try.prog .lss 3 (e 8) v11) fun v12 =>
    condW v12 (
      optW (pIdxS 2 (e 0) (e 8)) fun v17 =>
      optW (pOff 1 v17) fun v18 =>
      optW (rdRow false 1 v18 h_1) fun v19 =>
      optW (pBin Try.prog .eql 3 v19 (e 1)) fun v21 =>
      condW v21 (
        optW (bldSl 1 [(.int .i64 0)] 1 [(0, (e 8))]) fun c =>
        newW none (.row c true) h_1 fun i h_2 =>
        appSl 1 (e 7) (.slice (some ⟨i, 0, none⟩) 1 1) h_2 fun v25 h_3 =>
        optW (pBin Try.prog .add 3 (e 8) (.int .i64 1)) fun v14 =>
        I (pt (pt (pt (pt (pt (pt (pt (pt (pt (pt (pt (pt (pt (pt (pt (pt (pt (pt (pt e 9 (e 8)) 10 (e 0)) 11 v11) 12 v12) 15 (e 0)) 16 (e 8)) 17 v17) 18 v18) 19 v19) 20 (e 1)) 21 v21) 22 (e 7)) 23 (e 8)) 24 (.slice (some ⟨i, 0, none⟩) 1 1)) 25 v25) 7 v25) 13 (e 8)) 14 v14) 8 v14) h_3
      ) (
        optW (pBin Try.prog .add 3 (e 8) (.int .i64 1)) fun v14_1 =>
        I (pt (pt (pt (pt (pt (pt (pt (pt (pt (pt (pt (pt (pt (pt e 9 (e 8)) 10 (e 0)) 11 v11) 12 v12) 15 (e 0)) 16 (e 8)) 17 v17) 18 v18) 19 v19) 20 (e 1)) 21 v21) 13 (e 8)) 14 v14_1) 8 v14_1) h_1)
    ) (
      optW (lenSl (e 7)) fun v27 =>
      optW (pBin Try.prog .eql 3 v27 (.int .i64 0)) fun v28 =>
      condW v28 (
        K (.int .i64 (-1)) h_1
      ) (
        optW (lenSl (e 7)) fun v32 =>
        optW (pBin Try.prog .rem 3 (e 2) v32) fun v33 =>
        optW (pIdxS 1 (e 7) v33) fun v34 =>
        optW (rdRow false 1 v34 h_1) fun v35 =>
        K v35 h_1)))
  (pt (pt (pt (envOf [a0, a1, a2]) 6 (.int .i64 0)) 7 (.slice none 0 0)) 8 (.int .i64 0)) h
theorem e55 (X : CallT) (a0 a1 a2 : Value) (h : AH) (K : Value → AH → Prop) : cwp2 Try.prog X (Try.f55.body.getD .skip) (endW Try.prog Try.f55 K) (envOf [a0, a1, a2]) h = s55 X a0 a1 a2 h K := by kernel_rfl
theorem c55 {a0 a1 a2 : Value} {h : AH} {K : Value → AH → Prop} (hs : s55 (callW Try.prog) a0 a1 a2 h K) : callW Try.prog 55 [a0, a1, a2] h K := callW_of Try.func55 (by kernel_rfl) (Eq.mpr (e55 _ a0 a1 a2 _ _) hs)

end Go.Proofs.Ytebbjimmgblcpaa.W
end

section
/- Go functions, printed by a program as predicates on what may come behind; each is the function. Conditions: none. -/
namespace Go.Proofs.Ytebbjimmgblcpaa.W
open Go Go.AM
set_option linter.unusedVariables false
set_option maxRecDepth 100000


/-- (*canopy/canopyref14.Feed).inside () -/
def s56 (X : CallT) (a0 a1 : Value) (h : AH) (K : Value → AH → Prop) : Prop :=
  optW (pNilCheck a0) fun v6 =>
  optW (pOff 11 v6) fun v7 =>
  optW (rdRow false 1 v7 h) fun v8 =>
  X 66 [v8] h fun v9 h_1 =>
  X 58 [a1] h_1 fun v18 h_2 =>
  gopW (gB v18 true) (fun k =>
    k v9 h_2) h_2 fun v20 h_3 =>
  gopW (gB v18 true) (fun k_1 =>
    optW (pBin Try.prog .lss 3 v20 (.int .i64 8)) fun v21_1 =>
    k_1 v21_1 h_3) h_3 fun v21 h_4 =>
  optW (pPick v18 v21 (.bool false)) fun v22 =>
  condW v22 (
    optW (pNilCheck a0) fun v25 =>
    optW (pOff 11 v25) fun v26 =>
    optW (rdRow false 1 v26 (reserve 1 h_4)) fun v27 =>
    optW (bldSl 1 [(.int .u8 0)] 1 [(0, a1)]) fun c =>
    newW (some (h_4.length)) (.row c true) (reserve 1 h_4) fun i h_5 =>
    optW (pBytesStr (.slice (some ⟨i, 0, none⟩) 1 1) h_5) fun v30 =>
    optW (pBin Try.prog .add 9 v27 v30) fun v31 =>
    optW (pNilCheck a0) fun v32 =>
    optW (pOff 11 v32) fun v33 =>
    optW (pStore 1 v33 v31 h_5) fun h_6 =>
    K (.tuple #[]) h_6
  ) (
    optW (pBin Try.prog .eql 5 a1 (.int .u8 47)) fun v36 =>
    gopW (gB v36 true) (fun k_2 =>
      k_2 a0 h_4) h_4 fun v38 h_7 =>
    gopW (gB v36 true) (fun k_3 =>
      optW (pNilCheck v38) fun v39_1 =>
      k_3 v39_1 h_7) h_7 fun v39 h_8 =>
    gopW (gB v36 true) (fun k_4 =>
      optW (pOff 11 v39) fun v40_1 =>
      k_4 v40_1 h_8) h_8 fun v40 h_9 =>
    gopW (gB v36 true) (fun k_5 =>
      optW (rdRow false 1 v40 h_9) fun v41_1 =>
      k_5 v41_1 h_9) h_9 fun v41 h_10 =>
    gopW (gB v36 true) (fun k_6 =>
      optW (pBin Try.prog .eql 9 v41 (.string (bs [60]))) fun v42_1 =>
      k_6 v42_1 h_10) h_10 fun v42 h_11 =>
    optW (pPick v36 v42 (.bool false)) fun v43 =>
    condW v43 (
      optW (pNilCheck a0) fun v45 =>
      optW (pOff 11 v45) fun v46 =>
      optW (pStore 1 v46 (.string (bs [60, 47])) h_11) fun h_12 =>
      K (.tuple #[]) h_12
    ) (
      optW (pBin Try.prog .eql 5 a1 (.int .u8 62)) fun v49 =>
      gopW (gB v49 true) (fun k_7 =>
        k_7 a0 h_11) h_11 fun v51 h_13 =>
      gopW (gB v49 true) (fun k_8 =>
        optW (pNilCheck v51) fun v52_1 =>
        k_8 v52_1 h_13) h_13 fun v52 h_14 =>
      gopW (gB v49 true) (fun k_9 =>
        optW (pOff 11 v52) fun v53_1 =>
        k_9 v53_1 h_14) h_14 fun v53 h_15 =>
      gopW (gB v49 true) (fun k_10 =>
        optW (rdRow false 1 v53 h_15) fun v54_1 =>
        k_10 v54_1 h_15) h_15 fun v54 h_16 =>
      gopW (gB v49 true) (fun k_11 =>
        optW (pIdxStr v54 (.int .i64 0)) fun v55_1 =>
        k_11 v55_1 h_16) h_16 fun v55 h_17 =>
      gopW (gB v49 true) (fun k_12 =>
        optW (pBin Try.prog .eql 5 v55 (.int .u8 60)) fun v56_1 =>
        k_12 v56_1 h_17) h_17 fun v56 h_18 =>
      optW (pPick v49 v56 (.bool false)) fun v57 =>
      gopW (gB v57 true) (fun k_13 =>
        k_13 v9 h_18) h_18 fun v59 h_19 =>
      gopW (gB v57 true) (fun k_14 =>
        optW (pBin Try.prog .gtr 3 v59 (.int .i64 0)) fun v60_1 =>
        k_14 v60_1 h_19) h_19 fun v60 h_20 =>
      optW (pPick v57 v60 (.bool false)) fun v61 =>
      condW v61 (
        optW (pNilCheck a0) fun v64 =>
        optW (pOff 11 v64) fun v65 =>
        optW (rdRow false 1 v65 h_20) fun v66 =>
        optW (pBin Try.prog .add 9 v66 (.string (bs [62]))) fun v67 =>
        optW (pNilCheck a0) fun v68 =>
        optW (pOff 11 v68) fun v69 =>
        optW (pStore 1 v69 v67 h_20) fun h_21 =>
        X 59 [a0] h_21 fun v71 h_22 =>
        K (.tuple #[]) h_22
      ) (
        optW (pNilCheck a0) fun v74 =>
        optW (pOff 11 v74) fun v75 =>
        optW (rdRow false 1 v75 h_20) fun v76 =>
        optW (pIdxStr v76 (.int .i64 0)) fun v77 =>
        X 58 [v77] h_20 fun v78 h_23 =>
        gopW (gB v78 true) (fun k_15 =>
          k_15 a1 h_23) h_23 fun v80 h_24 =>
        gopW (gB v78 true) (fun k_16 =>
          X 58 [v80] h_24 fun v81_1 h_26 =>
          k_16 v81_1 h_26) h_24 fun v81 h_25 =>
        gopW (gB v78 true) (fun k_17 =>
          optW (pUn .not v81) fun v82_1 =>
          k_17 v82_1 h_25) h_25 fun v82 h_27 =>
        optW (pPick v78 v82 (.bool false)) fun v83 =>
        condW v83 (
          X 59 [a0] h_27 fun v85 h_28 =>
          optW (pNilCheck a0) fun v87 =>
          optW (pOff 14 v87) fun v88 =>
          optW (rdRow false 1 v88 h_28) fun v89 =>
          optW (pBin Try.prog .eql 3 v89 (.int .i64 0)) fun v90 =>
          condW v90 (
            X 57 [a0, a1] h_28 fun v93 h_29 =>
            K (.tuple #[]) h_29
          ) (
            K (.tuple #[]) h_28)
        ) (
          optW (pNilCheck a0) fun v12 =>
          optW (pOff 10 v12) fun v13 =>
          optW (rdRow false 1 v13 h_27) fun v14 =>
          X 60 [a0, (.int .i64 12), v14] h_27 fun v15 h_30 =>
          K (.tuple #[]) h_30))))
theorem e56 (X : CallT) (a0 a1 : Value) (h : AH) (K : Value → AH → Prop) : cwp2 Try.prog X (Try.f56.body.getD .skip) (endW Try.prog Try.f56 K) (envOf [a0, a1]) h = s56 X a0 a1 h K := by kernel_rfl
theorem c56 {a0 a1 : Value} {h : AH} {K : Value → AH → Prop} (hs : s56 (callW Try.prog) a0 a1 h K) : callW Try.prog 56 [a0, a1] h K := callW_of Try.func56 (by kernel_rfl) (Eq.mpr (e56 _ a0 a1 _ _) hs)

/-- (*canopy/canopyref14.Feed).outside () -/
def s57 (X : CallT) (a0 a1 : Value) (h : AH) (K : Value → AH → Prop) : Prop :=
  optW (pBin Try.prog .eql 5 a1 (.int .u8 32)) fun v12 =>
  gopW (gB v12 false) (fun k =>
    k a1 h) h fun v14 h_1 =>
  gopW (gB v12 false) (fun k_1 =>
    optW (pBin Try.prog .eql 5 v14 (.int .u8 9)) fun v15_1 =>
    k_1 v15_1 h_1) h_1 fun v15 h_2 =>
  optW (pPick v12 (.bool true) v15) fun v16 =>
  gopW (gB v16 false) (fun k_2 =>
    k_2 a1 h_2) h_2 fun v18 h_3 =>
  gopW (gB v16 false) (fun k_3 =>
    optW (pBin Try.prog .eql 5 v18 (.int .u8 10)) fun v19_1 =>
    k_3 v19_1 h_3) h_3 fun v19 h_4 =>
  optW (pPick v16 (.bool true) v19) fun v20 =>
  condW v20 (
    K (.tuple #[]) h_4
  ) (
    optW (pBin Try.prog .eql 5 a1 (.int .u8 60)) fun v23 =>
    gopW (gB v23 false) (fun k_4 =>
      k_4 a1 h_4) h_4 fun v25 h_5 =>
    gopW (gB v23 false) (fun k_5 =>
      X 58 [v25] h_5 fun v26_1 h_7 =>
      k_5 v26_1 h_7) h_5 fun v26 h_6 =>
    optW (pPick v23 (.bool true) v26) fun v27 =>
    condW v27 (
      optW (pNilCheck a0) fun v31 =>
      optW (pOff 9 v31) fun v32 =>
      optW (rdRow false 1 v32 (reserve 1 h_6)) fun v33 =>
      optW (bldSl 1 [(.int .u8 0)] 1 [(0, a1)]) fun c =>
      newW (some (h_6.length)) (.row c true) (reserve 1 h_6) fun i h_8 =>
      optW (pBytesStr (.slice (some ⟨i, 0, none⟩) 1 1) h_8) fun v36 =>
      optW (pNilCheck a0) fun v37 =>
      optW (pOff 10 v37) fun v38 =>
      optW (pStore 1 v38 v33 h_8) fun h_9 =>
      optW (pNilCheck a0) fun v39 =>
      optW (pOff 11 v39) fun v40 =>
      optW (pStore 1 v40 v36 h_9) fun h_10 =>
      K (.tuple #[]) h_10
    ) (
      optW (pNilCheck a0) fun v6 =>
      optW (pOff 9 v6) fun v7 =>
      optW (rdRow false 1 v7 h_6) fun v8 =>
      X 60 [a0, (.int .i64 12), v8] h_6 fun v9 h_11 =>
      K (.tuple #[]) h_11))
theorem e57 (X : CallT) (a0 a1 : Value) (h : AH) (K : Value → AH → Prop) : cwp2 Try.prog X (Try.f57.body.getD .skip) (endW Try.prog Try.f57 K) (envOf [a0, a1]) h = s57 X a0 a1 h K := by kernel_rfl
theorem c57 {a0 a1 : Value} {h : AH} {K : Value → AH → Prop} (hs : s57 (callW Try.prog) a0 a1 h K) : callW Try.prog 57 [a0, a1] h K := callW_of Try.func57 (by kernel_rfl) (Eq.mpr (e57 _ a0 a1 _ _) hs)

/-- canopy/canopyref14.letter () -/
def s58 (X : CallT) (a0 : Value) (h : AH) (K : Value → AH → Prop) : Prop :=
  optW (pBin Try.prog .geq 5 a0 (.int .u8 97)) fun v4 =>
  gopW (gB v4 true) (fun k =>
    k a0 h) h fun v6 h_1 =>
  gopW (gB v4 true) (fun k_1 =>
    optW (pBin Try.prog .leq 5 v6 (.int .u8 122)) fun v7_1 =>
    k_1 v7_1 h_1) h_1 fun v7 h_2 =>
  optW (pPick v4 v7 (.bool false)) fun v8 =>
  K v8 h_2
theorem e58 (X : CallT) (a0 : Value) (h : AH) (K : Value → AH → Prop) : cwp2 Try.prog X (Try.f58.body.getD .skip) (endW Try.prog Try.f58 K) (envOf [a0]) h = s58 X a0 h K := by kernel_rfl
theorem c58 {a0 : Value} {h : AH} {K : Value → AH → Prop} (hs : s58 (callW Try.prog) a0 h K) : callW Try.prog 58 [a0] h K := callW_of Try.func58 (by kernel_rfl) (Eq.mpr (e58 _ a0 _ _) hs)

/-- (*canopy/canopyref14.Feed).whole () -/
def s59 (X : CallT) (a0 : Value) (h : AH) (K : Value → AH → Prop) : Prop :=
  optW (pNilCheck a0) fun v7 =>
  optW (pOff 11 v7) fun v8 =>
  optW (rdRow false 1 v8 h) fun v9 =>
  X 67 [v9] h fun v10 h_1 =>
  optW (pExtract v10 0) fun v11 =>
  optW (pExtract v10 1) fun v12 =>
  newR none [(.string (bs [])), (.int .i64 0)] h_1 fun v2 h_2 =>
  optW (pStore 2 v2 v11 h_2) fun h_3 =>
  optW (pNilCheck a0) fun v14 =>
  optW (pOff 0 v14) fun v15 =>
  optW (rdRow false 1 v15 h_3) fun v16 =>
  optW (rdRow true 2 v2 h_3) fun v17 =>
  X 68 [v16, v17] h_3 fun v18 h_4 =>
  optW (pNilCheck a0) fun v20 =>
  optW (pOff 11 v20) fun v21 =>
  optW (pStore 1 v21 (.string (bs [])) h_4) fun h_5 =>
  optW (pUn .not v12) fun v23 =>
  gopW (gB v23 false) (fun k =>
    k v18 h_5) h_5 fun v25 h_6 =>
  gopW (gB v23 false) (fun k_1 =>
    optW (pBin Try.prog .lss 3 v25 (.int .i64 0)) fun v26_1 =>
    k_1 v26_1 h_6) h_6 fun v26 h_7 =>
  optW (pPick v23 (.bool true) v26) fun v27 =>
  condW v27 (
    optW (pNilCheck a0) fun v30 =>
    optW (pOff 10 v30) fun v31 =>
    optW (rdRow false 1 v31 h_7) fun v32 =>
    X 60 [a0, (.int .i64 12), v32] h_7 fun v33 h_8 =>
    K (.tuple #[]) h_8
  ) (
    optW (pOff 1 v2) fun v34 =>
    optW (rdRow false 1 v34 h_7) fun v35 =>
    optW (pBin Try.prog .eql 3 v35 (.int .i64 1)) fun v36 =>
    gopD (gB v36 true) (fun k_2 =>
      k_2 a0 h_7 [] ((1, (idOf v34)) :: [])) h_7 [] ((1, (idOf v34)) :: []) fun v38 h_9 H S =>
    gopD (gB v36 true) (fun k_3 =>
      optW (pNilCheck v38) fun v39_1 =>
      k_3 v39_1 h_9 H S) h_9 H S fun v39 h_10 H_1 S_1 =>
    gopD (gB v36 true) (fun k_4 =>
      optW (pOff 13 v39) fun v40_1 =>
      k_4 v40_1 h_10 H_1 S_1) h_10 H_1 S_1 fun v40 h_11 H_2 S_2 =>
    gopD (gB v36 true) (fun k_5 =>
      histC #[0, 1, 3, 7, 15, 31, 63, 127, 15, 271, 783, 1807, 4095, 8191] 7 (idOf v40) H_2 (
        optW (rdRow false 1 v40 h_11) fun v41_1 =>
        k_5 v41_1 h_11 H_2 ((7, (idOf v40)) :: S_2))) h_11 H_2 S_2 fun v41 h_12 H_3 S_3 =>
    gopD (gB v36 true) (fun k_6 =>
      k_6 a0 h_12 H_3 S_3) h_12 H_3 S_3 fun v42 h_13 H_4 S_4 =>
    gopD (gB v36 true) (fun k_7 =>
      optW (pNilCheck v42) fun v43_1 =>
      k_7 v43_1 h_13 H_4 S_4) h_13 H_4 S_4 fun v43 h_14 H_5 S_5 =>
    gopD (gB v36 true) (fun k_8 =>
      optW (pOff 8 v43) fun v44_1 =>
      k_8 v44_1 h_14 H_5 S_5) h_14 H_5 S_5 fun v44 h_15 H_6 S_6 =>
    gopD (gB v36 true) (fun k_9 =>
      histC #[0, 1, 3, 7, 15, 31, 63, 127, 15, 271, 783, 1807, 4095, 8191] 11 (idOf v44) H_6 (
        optW (rdRow false 1 v44 h_15) fun v45_1 =>
        k_9 v45_1 h_15 H_6 ((11, (idOf v44)) :: S_6))) h_15 H_6 S_6 fun v45 h_16 H_7 S_7 =>
    gopD (gB v36 true) (fun k_10 =>
      optW (pBin Try.prog .geq 3 v41 v45) fun v46_1 =>
      k_10 v46_1 h_16 H_7 S_7) h_16 H_7 S_7 fun v46 h_17 H_8 S_8 =>
    optW (pPick v36 v46 (.bool false)) fun v47 =>
    condW v47 (
      optW (pNilCheck a0) fun v50 =>
      optW (pOff 10 v50) fun v51 =>
      optW (rdRow false 1 v51 h_17) fun v52 =>
      X 60 [a0, (.int .i64 13), v52] h_17 fun v53 h_18 =>
      K (.tuple #[]) h_18
    ) (
      optW (pOff 1 v2) fun v54 =>
      optW (rdRow false 1 v54 h_17) fun v55 =>
      optW (pBin Try.prog .eql 3 v55 (.int .i64 1)) fun v56 =>
      condW v56 (
        optW (pNilCheck a0) fun v58 =>
        optW (pOff 13 v58) fun v59 =>
        optW (rdRow false 1 v59 h_17) fun v60 =>
        optW (pBin Try.prog .add 3 v60 (.int .i64 1)) fun v61 =>
        optW (pNilCheck a0) fun v62 =>
        optW (pOff 13 v62) fun v63 =>
        optW (pStore 1 v63 v61 h_17) fun h_19 =>
        optW (pOff 1 v2) fun v64 =>
        optW (rdRow false 1 v64 h_19) fun v65 =>
        optW (pBin Try.prog .eql 3 v65 (.int .i64 2)) fun v66 =>
        condW v66 (
          optW (pNilCheck a0) fun v69 =>
          optW (pOff 13 v69) fun v70 =>
          optW (rdRow false 1 v70 h_19) fun v71 =>
          optW (pBin Try.prog .sub 3 v71 (.int .i64 1)) fun v72 =>
          optW (pMax2 true v72 (.int .i64 0)) fun v73 =>
          optW (pNilCheck a0) fun v74 =>
          optW (pOff 13 v74) fun v75 =>
          optW (pStore 1 v75 v73 h_19) fun h_20 =>
          optW (pNilCheck a0) fun v78 =>
          optW (pOff 12 v78) fun v79 =>
          optW (rdRow false 1 v79 h_20) fun v80 =>
          optW (bldSl 1 [(.int .i64 0)] 1 [(0, v18)]) fun c =>
          newW none (.row c true) h_20 fun i h_21 =>
          appSl 1 v80 (.slice (some ⟨i, 0, none⟩) 1 1) h_21 fun v83 h_22 =>
          optW (pNilCheck a0) fun v84 =>
          optW (pOff 12 v84) fun v85 =>
          optW (pStore 1 v85 v83 h_22) fun h_23 =>
          K (.tuple #[]) h_23
        ) (
          optW (pNilCheck a0) fun v78_1 =>
          optW (pOff 12 v78_1) fun v79_1 =>
          optW (rdRow false 1 v79_1 h_19) fun v80_1 =>
          optW (bldSl 1 [(.int .i64 0)] 1 [(0, v18)]) fun c_1 =>
          newW none (.row c_1 true) h_19 fun i_1 h_24 =>
          appSl 1 v80_1 (.slice (some ⟨i_1, 0, none⟩) 1 1) h_24 fun v83_1 h_25 =>
          optW (pNilCheck a0) fun v84_1 =>
          optW (pOff 12 v84_1) fun v85_1 =>
          optW (pStore 1 v85_1 v83_1 h_25) fun h_26 =>
          K (.tuple #[]) h_26)
      ) (
        optW (pOff 1 v2) fun v64_1 =>
        optW (rdRow false 1 v64_1 h_17) fun v65_1 =>
        optW (pBin Try.prog .eql 3 v65_1 (.int .i64 2)) fun v66_1 =>
        condW v66_1 (
          optW (pNilCheck a0) fun v69_1 =>
          optW (pOff 13 v69_1) fun v70_1 =>
          optW (rdRow false 1 v70_1 h_17) fun v71_1 =>
          optW (pBin Try.prog .sub 3 v71_1 (.int .i64 1)) fun v72_1 =>
          optW (pMax2 true v72_1 (.int .i64 0)) fun v73_1 =>
          optW (pNilCheck a0) fun v74_1 =>
          optW (pOff 13 v74_1) fun v75_1 =>
          optW (pStore 1 v75_1 v73_1 h_17) fun h_27 =>
          optW (pNilCheck a0) fun v78_2 =>
          optW (pOff 12 v78_2) fun v79_2 =>
          optW (rdRow false 1 v79_2 h_27) fun v80_2 =>
          optW (bldSl 1 [(.int .i64 0)] 1 [(0, v18)]) fun c_2 =>
          newW none (.row c_2 true) h_27 fun i_2 h_28 =>
          appSl 1 v80_2 (.slice (some ⟨i_2, 0, none⟩) 1 1) h_28 fun v83_2 h_29 =>
          optW (pNilCheck a0) fun v84_2 =>
          optW (pOff 12 v84_2) fun v85_2 =>
          optW (pStore 1 v85_2 v83_2 h_29) fun h_30 =>
          K (.tuple #[]) h_30
        ) (
          optW (pNilCheck a0) fun v78_3 =>
          optW (pOff 12 v78_3) fun v79_3 =>
          optW (rdRow false 1 v79_3 h_17) fun v80_3 =>
          optW (bldSl 1 [(.int .i64 0)] 1 [(0, v18)]) fun c_3 =>
          newW none (.row c_3 true) h_17 fun i_3 h_31 =>
          appSl 1 v80_3 (.slice (some ⟨i_3, 0, none⟩) 1 1) h_31 fun v83_3 h_32 =>
          optW (pNilCheck a0) fun v84_3 =>
          optW (pOff 12 v84_3) fun v85_3 =>
          optW (pStore 1 v85_3 v83_3 h_32) fun h_33 =>
          K (.tuple #[]) h_33))))
theorem e59 (X : CallT) (a0 : Value) (h : AH) (K : Value → AH → Prop) : cwp2 Try.prog X (Try.f59.body.getD .skip) (endW Try.prog Try.f59 K) (envOf [a0]) h = s59 X a0 h K := by kernel_rfl
theorem c59 {a0 : Value} {h : AH} {K : Value → AH → Prop} (hs : s59 (callW Try.prog) a0 h K) : callW Try.prog 59 [a0] h K := callW_of Try.func59 (by kernel_rfl) (Eq.mpr (e59 _ a0 _ _) hs)

/-- (*canopy/canopyref14.Feed).wrong () -/
def s60 (X : CallT) (a0 a1 a2 : Value) (h : AH) (K : Value → AH → Prop) : Prop :=
  optW (pNilCheck a0) fun v10 =>
  optW (pOff 14 v10) fun v11 =>
  optW (pStore 1 v11 a1 h) fun h_1 =>
  optW (pNilCheck a0) fun v12 =>
  optW (pOff 15 v12) fun v13 =>
  optW (pStore 1 v13 a2 h_1) fun h_2 =>
  K (.tuple #[]) h_2
theorem e60 (X : CallT) (a0 a1 a2 : Value) (h : AH) (K : Value → AH → Prop) : cwp2 Try.prog X (Try.f60.body.getD .skip) (endW Try.prog Try.f60 K) (envOf [a0, a1, a2]) h = s60 X a0 a1 a2 h K := by kernel_rfl
theorem c60 {a0 a1 a2 : Value} {h : AH} {K : Value → AH → Prop} (hs : s60 (callW Try.prog) a0 a1 a2 h K) : callW Try.prog 60 [a0, a1, a2] h K := callW_of Try.func60 (by kernel_rfl) (Eq.mpr (e60 _ a0 a1 a2 _ _) hs)

/-- canopy/feed.letter () -/
def s61 (X : CallT) (a0 : Value) (h : AH) (K : Value → AH → Prop) : Prop :=
  optW (pBin Try.prog .geq 5 a0 (.int .u8 97)) fun v4 =>
  gopW (gB v4 true) (fun k =>
    k a0 h) h fun v6 h_1 =>
  gopW (gB v4 true) (fun k_1 =>
    optW (pBin Try.prog .leq 5 v6 (.int .u8 122)) fun v7_1 =>
    k_1 v7_1 h_1) h_1 fun v7 h_2 =>
  optW (pPick v4 v7 (.bool false)) fun v8 =>
  K v8 h_2
theorem e61 (X : CallT) (a0 : Value) (h : AH) (K : Value → AH → Prop) : cwp2 Try.prog X (Try.f61.body.getD .skip) (endW Try.prog Try.f61 K) (envOf [a0]) h = s61 X a0 h K := by kernel_rfl
theorem c61 {a0 : Value} {h : AH} {K : Value → AH → Prop} (hs : s61 (callW Try.prog) a0 h K) : callW Try.prog 61 [a0] h K := callW_of Try.func61 (by kernel_rfl) (Eq.mpr (e61 _ a0 _ _) hs)

/-- (*canopy/feed.Feed).first () -/
def s62 (X : CallT) (a0 a1 : Value) (h : AH) (K : Value → AH → Prop) : Prop :=
  optW (pBin Try.prog .eql 5 a1 (.int .u8 32)) fun v12 =>
  gopW (gB v12 false) (fun k =>
    k a1 h) h fun v14 h_1 =>
  gopW (gB v12 false) (fun k_1 =>
    optW (pBin Try.prog .eql 5 v14 (.int .u8 9)) fun v15_1 =>
    k_1 v15_1 h_1) h_1 fun v15 h_2 =>
  optW (pPick v12 (.bool true) v15) fun v16 =>
  gopW (gB v16 false) (fun k_2 =>
    k_2 a1 h_2) h_2 fun v18 h_3 =>
  gopW (gB v16 false) (fun k_3 =>
    optW (pBin Try.prog .eql 5 v18 (.int .u8 10)) fun v19_1 =>
    k_3 v19_1 h_3) h_3 fun v19 h_4 =>
  optW (pPick v16 (.bool true) v19) fun v20 =>
  condW v20 (
    K (.tuple #[]) h_4
  ) (
    X 61 [a1] h_4 fun v23 h_5 =>
    gopW (gB v23 false) (fun k_4 =>
      k_4 a1 h_5) h_5 fun v25 h_6 =>
    gopW (gB v23 false) (fun k_5 =>
      optW (pBin Try.prog .eql 5 v25 (.int .u8 60)) fun v26_1 =>
      k_5 v26_1 h_6) h_6 fun v26 h_7 =>
    optW (pPick v23 (.bool true) v26) fun v27 =>
    condW v27 (
      optW (pNilCheck a0) fun v31 =>
      optW (pOff 10 v31) fun v32 =>
      optW (pOff 0 v32) fun v33 =>
      optW (rdRow false 1 v33 (reserve 1 h_7)) fun v34 =>
      optW (bldSl 1 [(.int .u8 0)] 1 [(0, a1)]) fun c =>
      newW (some (h_7.length)) (.row c true) (reserve 1 h_7) fun i h_8 =>
      appSl 1 v34 (.slice (some ⟨i, 0, none⟩) 1 1) h_8 fun v37 h_9 =>
      optW (pNilCheck a0) fun v39 =>
      optW (pOff 14 v39) fun v40 =>
      (∀ x ∈ (idOf v40), (h_8 : AH)[x]? = (h_9 : AH)[x]?) ∧
      (∀ x ∈ (idOf v40), ((reserve 1 h_7) : AH)[x]? = (h_8 : AH)[x]?) ∧
      optW (rdRow false 1 v40 h_9) fun v41 =>
      optW (pNilCheck a0) fun v42 =>
      optW (pOff 10 v42) fun v43 =>
      optW (pOff 0 v43) fun v44 =>
      optW (pStore 1 v44 v37 h_9) fun h_10 =>
      optW (pNilCheck a0) fun v45 =>
      optW (pOff 10 v45) fun v46 =>
      optW (pOff 1 v46) fun v47 =>
      optW (pStore 1 v47 v41 h_10) fun h_11 =>
      K (.tuple #[]) h_11
    ) (
      optW (pNilCheck a0) fun v6 =>
      optW (pOff 14 v6) fun v7 =>
      optW (rdRow false 1 v7 h_7) fun v8 =>
      X 48 [a0, (.int .i64 12), v8] h_7 fun v9 h_12 =>
      K (.tuple #[]) h_12))
theorem e62 (X : CallT) (a0 a1 : Value) (h : AH) (K : Value → AH → Prop) : cwp2 Try.prog X (Try.f62.body.getD .skip) (endW Try.prog Try.f62 K) (envOf [a0, a1]) h = s62 X a0 a1 h K := by kernel_rfl
theorem c62 {a0 a1 : Value} {h : AH} {K : Value → AH → Prop} (hs : s62 (callW Try.prog) a0 a1 h K) : callW Try.prog 62 [a0, a1] h K := callW_of Try.func62 (by kernel_rfl) (Eq.mpr (e62 _ a0 a1 _ _) hs)

/-- (*canopy/feed.Feed).more (J at e: live [0, 1, 4, 5]) -/
def s63 (X : CallT) (a0 a1 : Value) (h : AH) (K : Value → AH → Prop) : Prop :=
  joinE (fun J =>
    optW (pNilCheck a0) fun v8 =>
    optW (pOff 10 v8) fun v9 =>
    optW (pOff 0 v9) fun v10 =>
    optW (rdRow false 1 v10 h) fun v11 =>
    optW (pIdxS 1 v11 (.int .i64 0)) fun v12 =>
    optW (rdRow false 1 v12 h) fun v13 =>
    optW (pBin Try.prog .eql 5 v13 (.int .u8 60)) fun v14 =>
    condW v14 (
      optW (pNilCheck a0) fun v16 =>
      optW (pOff 10 v16) fun v17 =>
      optW (pOff 0 v17) fun v18 =>
      optW (rdRow false 1 v18 h) fun v19 =>
      optW (lenSl v19) fun v20 =>
      optW (pBin Try.prog .gtr 3 v20 (.int .i64 1)) fun v21 =>
      gopW (gB v21 true) (fun k_14 =>
        k_14 a0 h) h fun v23 h_27 =>
      gopW (gB v21 true) (fun k_15 =>
        optW (pNilCheck v23) fun v24_1 =>
        k_15 v24_1 h_27) h_27 fun v24 h_28 =>
      gopW (gB v21 true) (fun k_16 =>
        optW (pOff 10 v24) fun v25_1 =>
        k_16 v25_1 h_28) h_28 fun v25 h_29 =>
      gopW (gB v21 true) (fun k_17 =>
        optW (pOff 0 v25) fun v26_1 =>
        k_17 v26_1 h_29) h_29 fun v26 h_30 =>
      gopW (gB v21 true) (fun k_18 =>
        optW (rdRow false 1 v26 h_30) fun v27_1 =>
        k_18 v27_1 h_30) h_30 fun v27 h_31 =>
      gopW (gB v21 true) (fun k_19 =>
        optW (pIdxS 1 v27 (.int .i64 1)) fun v28_1 =>
        k_19 v28_1 h_31) h_31 fun v28 h_32 =>
      gopW (gB v21 true) (fun k_20 =>
        optW (rdRow false 1 v28 h_32) fun v29_1 =>
        k_20 v29_1 h_32) h_32 fun v29 h_33 =>
      gopW (gB v21 true) (fun k_21 =>
        optW (pBin Try.prog .eql 5 v29 (.int .u8 47)) fun v30_1 =>
        k_21 v30_1 h_33) h_33 fun v30 h_34 =>
      optW (pPick v21 v30 (.bool false)) fun v31 =>
      condW v31 (
        J (pt (pt (pt (pt (pt (pt (pt (pt (pt (pt (pt (pt (pt (pt (pt (pt (pt (pt (pt (pt (pt (pt (pt (pt (pt (pt (pt (pt (pt (pt (pt (envOf [a0, a1]) 4 (.int .i64 0)) 5 (.int .i64 3)) 7 a0) 8 v8) 9 v9) 10 v10) 11 v11) 12 v12) 13 v13) 14 v14) 4 (.int .i64 1)) 5 (.int .i64 1)) 15 a0) 16 v16) 17 v17) 18 v18) 19 v19) 20 v20) 21 v21) 22 v21) 23 v23) 24 v24) 25 v25) 26 v26) 27 v27) 28 v28) 29 v29) 30 v30) 31 v31) 4 (.int .i64 2)) 5 (.int .i64 2)) h_34
      ) (
        J (pt (pt (pt (pt (pt (pt (pt (pt (pt (pt (pt (pt (pt (pt (pt (pt (pt (pt (pt (pt (pt (pt (pt (pt (pt (pt (pt (pt (pt (envOf [a0, a1]) 4 (.int .i64 0)) 5 (.int .i64 3)) 7 a0) 8 v8) 9 v9) 10 v10) 11 v11) 12 v12) 13 v13) 14 v14) 4 (.int .i64 1)) 5 (.int .i64 1)) 15 a0) 16 v16) 17 v17) 18 v18) 19 v19) 20 v20) 21 v21) 22 v21) 23 v23) 24 v24) 25 v25) 26 v26) 27 v27) 28 v28) 29 v29) 30 v30) 31 v31) h_34)
    ) (
      J (pt (pt (pt (pt (pt (pt (pt (pt (pt (pt (envOf [a0, a1]) 4 (.int .i64 0)) 5 (.int .i64 3)) 7 a0) 8 v8) 9 v9) 10 v10) 11 v11) 12 v12) 13 v13) 14 v14) h))
  (fun e h_1 =>
    optW (pNilCheck (e 0)) fun v33 =>
    optW (pOff 10 v33) fun v34 =>
    optW (pOff 0 v34) fun v35 =>
    optW (rdRow false 1 v35 h_1) fun v36 =>
    optW (lenSl v36) fun v37 =>
    optW (pBin Try.prog .sub 3 v37 (e 4)) fun v39 =>
    X 61 [(e 1)] h_1 fun v49 h_2 =>
    gopW (gB v49 true) (fun k =>
      k v39 h_2) h_2 fun v51 h_3 =>
    gopW (gB v49 true) (fun k_1 =>
      optW (pBin Try.prog .lss 3 v51 (.int .i64 8)) fun v52_1 =>
      k_1 v52_1 h_3) h_3 fun v52 h_4 =>
    optW (pPick v49 v52 (.bool false)) fun v53 =>
    condW v53 (
      condW v53 (
        optW (pNilCheck (e 0)) fun v66 =>
        optW (pOff 10 v66) fun v67 =>
        optW (pOff 0 v67) fun v68 =>
        optW (rdRow false 1 v68 h_4) fun v69 =>
        optW (bldSl 1 [(.int .u8 0)] 1 [(0, (e 1))]) fun c =>
        newW none (.row c true) h_4 fun i h_5 =>
        appSl 1 v69 (.slice (some ⟨i, 0, none⟩) 1 1) h_5 fun v72 h_6 =>
        optW (pNilCheck (e 0)) fun v73 =>
        optW (pOff 10 v73) fun v74 =>
        optW (pOff 0 v74) fun v75 =>
        optW (pStore 1 v75 v72 h_6) fun h_7 =>
        K (.tuple #[]) h_7
      ) (
        optW (pBin Try.prog .eql 5 (e 1) (.int .u8 62)) fun v78 =>
        gopW (gB v78 true) (fun k_2 =>
          k_2 (e 5) h_4) h_4 fun v80 h_8 =>
        gopW (gB v78 true) (fun k_3 =>
          optW (pBin Try.prog .neq 3 v80 (.int .i64 3)) fun v81_1 =>
          k_3 v81_1 h_8) h_8 fun v81 h_9 =>
        optW (pPick v78 v81 (.bool false)) fun v82 =>
        gopW (gB v82 true) (fun k_4 =>
          k_4 v39 h_9) h_9 fun v84 h_10 =>
        gopW (gB v82 true) (fun k_5 =>
          optW (pBin Try.prog .gtr 3 v84 (.int .i64 0)) fun v85_1 =>
          k_5 v85_1 h_10) h_10 fun v85 h_11 =>
        optW (pPick v82 v85 (.bool false)) fun v86 =>
        condW v86 (
          optW (pNilCheck (e 0)) fun v89 =>
          optW (pOff 10 v89) fun v90 =>
          optW (pOff 0 v90) fun v91 =>
          optW (rdRow false 1 v91 h_11) fun v92 =>
          optW (pSliceSl 1 v92 (some (e 4)) none none) fun v94 =>
          optW (pBytesStr v94 h_11) fun v95 =>
          X 64 [(e 0), v95, (e 5)] h_11 fun v97 h_12 =>
          K (.tuple #[]) h_12
        ) (
          optW (pNilCheck (e 0)) fun v42 =>
          optW (pOff 10 v42) fun v43 =>
          optW (pOff 1 v43) fun v44 =>
          optW (rdRow false 1 v44 h_11) fun v45 =>
          X 48 [(e 0), (.int .i64 12), v45] h_11 fun v46 h_13 =>
          K (.tuple #[]) h_13))
    ) (
      optW (pBin Try.prog .eql 5 (e 1) (.int .u8 47)) fun v55 =>
      gopW (gB v55 true) (fun k_6 =>
        k_6 (e 5) h_4) h_4 fun v57 h_14 =>
      gopW (gB v55 true) (fun k_7 =>
        optW (pBin Try.prog .eql 3 v57 (.int .i64 1)) fun v58_1 =>
        k_7 v58_1 h_14) h_14 fun v58 h_15 =>
      optW (pPick v55 v58 (.bool false)) fun v59 =>
      gopW (gB v59 true) (fun k_8 =>
        k_8 v39 h_15) h_15 fun v61 h_16 =>
      gopW (gB v59 true) (fun k_9 =>
        optW (pBin Try.prog .eql 3 v61 (.int .i64 0)) fun v62_1 =>
        k_9 v62_1 h_16) h_16 fun v62 h_17 =>
      optW (pPick v59 v62 (.bool false)) fun v63 =>
      condW v63 (
        optW (pNilCheck (e 0)) fun v66_1 =>
        optW (pOff 10 v66_1) fun v67_1 =>
        optW (pOff 0 v67_1) fun v68_1 =>
        optW (rdRow false 1 v68_1 h_17) fun v69_1 =>
        optW (bldSl 1 [(.int .u8 0)] 1 [(0, (e 1))]) fun c_1 =>
        newW none (.row c_1 true) h_17 fun i_1 h_18 =>
        appSl 1 v69_1 (.slice (some ⟨i_1, 0, none⟩) 1 1) h_18 fun v72_1 h_19 =>
        optW (pNilCheck (e 0)) fun v73_1 =>
        optW (pOff 10 v73_1) fun v74_1 =>
        optW (pOff 0 v74_1) fun v75_1 =>
        optW (pStore 1 v75_1 v72_1 h_19) fun h_20 =>
        K (.tuple #[]) h_20
      ) (
        optW (pBin Try.prog .eql 5 (e 1) (.int .u8 62)) fun v78_1 =>
        gopW (gB v78_1 true) (fun k_10 =>
          k_10 (e 5) h_17) h_17 fun v80_1 h_21 =>
        gopW (gB v78_1 true) (fun k_11 =>
          optW (pBin Try.prog .neq 3 v80_1 (.int .i64 3)) fun v81_3 =>
          k_11 v81_3 h_21) h_21 fun v81_2 h_22 =>
        optW (pPick v78_1 v81_2 (.bool false)) fun v82_1 =>
        gopW (gB v82_1 true) (fun k_12 =>
          k_12 v39 h_22) h_22 fun v84_1 h_23 =>
        gopW (gB v82_1 true) (fun k_13 =>
          optW (pBin Try.prog .gtr 3 v84_1 (.int .i64 0)) fun v85_3 =>
          k_13 v85_3 h_23) h_23 fun v85_2 h_24 =>
        optW (pPick v82_1 v85_2 (.bool false)) fun v86_1 =>
        condW v86_1 (
          optW (pNilCheck (e 0)) fun v89_1 =>
          optW (pOff 10 v89_1) fun v90_1 =>
          optW (pOff 0 v90_1) fun v91_1 =>
          optW (rdRow false 1 v91_1 h_24) fun v92_1 =>
          optW (pSliceSl 1 v92_1 (some (e 4)) none none) fun v94_1 =>
          optW (pBytesStr v94_1 h_24) fun v95_1 =>
          X 64 [(e 0), v95_1, (e 5)] h_24 fun v97_1 h_25 =>
          K (.tuple #[]) h_25
        ) (
          optW (pNilCheck (e 0)) fun v42_1 =>
          optW (pOff 10 v42_1) fun v43_1 =>
          optW (pOff 1 v43_1) fun v44_1 =>
          optW (rdRow false 1 v44_1 h_24) fun v45_1 =>
          X 48 [(e 0), (.int .i64 12), v45_1] h_24 fun v46_1 h_26 =>
          K (.tuple #[]) h_26))))
theorem e63 (X : CallT) (a0 a1 : Value) (h : AH) (K : Value → AH → Prop) : cwp2 Try.prog X (Try.f63.body.getD .skip) (endW Try.prog Try.f63 K) (envOf [a0, a1]) h = s63 X a0 a1 h K := by kernel_rfl
theorem c63 {a0 a1 : Value} {h : AH} {K : Value → AH → Prop} (hs : s63 (callW Try.prog) a0 a1 h K) : callW Try.prog 63 [a0, a1] h K := callW_of Try.func63 (by kernel_rfl) (Eq.mpr (e63 _ a0 a1 _ _) hs)

/-- (*canopy/feed.Feed).sym () -/
def s64 (X : CallT) (a0 a1 a2 : Value) (h : AH) (K : Value → AH → Prop) : Prop :=
  optW (pNilCheck a0) fun v9 =>
  optW (pOff 12 v9) fun v10 =>
  optW (rdRow false 1 v10 h) fun v11 =>
  optW (bld [(.string (bs [])), (.int .i64 0)] [(0, 1), (1, 1)] [(0, a1), (1, a2)]) fun v14 =>
  X 69 [v11, v14] h fun v15 h_1 =>
  optW (pNilCheck a0) fun v17 =>
  optW (pOff 10 v17) fun v18 =>
  optW (pOff 1 v18) fun v19 =>
  optW (rdRow false 1 v19 h_1) fun v20 =>
  optW (pNilCheck a0) fun v23 =>
  optW (pOff 10 v23) fun v24 =>
  optW (pOff 0 v24) fun v25 =>
  optW (rdRow false 1 v25 h_1) fun v26 =>
  optW (pSliceSl 1 v26 none (some (.int .i64 0)) none) fun v27 =>
  optW (pNilCheck a0) fun v28 =>
  optW (pOff 10 v28) fun v29 =>
  optW (pOff 0 v29) fun v30 =>
  optW (pStore 1 v30 v27 h_1) fun h_2 =>
  optW (pBin Try.prog .lss 3 v15 (.int .i64 0)) fun v38 =>
  condW v38 (
    X 48 [a0, (.int .i64 12), v20] h_2 fun v41 h_3 =>
    K (.tuple #[]) h_3
  ) (
    optW (pBin Try.prog .eql 3 a2 (.int .i64 1)) fun v44 =>
    gopD (gB v44 true) (fun k =>
      k a0 h_2 [] []) h_2 [] [] fun v46 h_4 H S =>
    gopD (gB v44 true) (fun k_1 =>
      optW (pNilCheck v46) fun v47_1 =>
      k_1 v47_1 h_4 H S) h_4 H S fun v47 h_5 H_1 S_1 =>
    gopD (gB v44 true) (fun k_2 =>
      optW (pOff 0 v47) fun v48_1 =>
      k_2 v48_1 h_5 H_1 S_1) h_5 H_1 S_1 fun v48 h_6 H_2 S_2 =>
    gopD (gB v44 true) (fun k_3 =>
      optW (pOff 9 v48) fun v49_1 =>
      k_3 v49_1 h_6 H_2 S_2) h_6 H_2 S_2 fun v49 h_7 H_3 S_3 =>
    gopD (gB v44 true) (fun k_4 =>
      histC #[0, 1, 3, 7, 15, 31, 63, 127, 255, 7, 519, 1543, 3591, 8191, 16383, 32767] 7 (idOf v49) H_3 (
        optW (rdRow false 1 v49 h_7) fun v50_1 =>
        k_4 v50_1 h_7 H_3 ((7, (idOf v49)) :: S_3))) h_7 H_3 S_3 fun v50 h_8 H_4 S_4 =>
    gopD (gB v44 true) (fun k_5 =>
      optW (lenSl v50) fun v51_1 =>
      k_5 v51_1 h_8 H_4 S_4) h_8 H_4 S_4 fun v51 h_9 H_5 S_5 =>
    gopD (gB v44 true) (fun k_6 =>
      k_6 a0 h_9 H_5 S_5) h_9 H_5 S_5 fun v52 h_10 H_6 S_6 =>
    gopD (gB v44 true) (fun k_7 =>
      optW (pNilCheck v52) fun v53_1 =>
      k_7 v53_1 h_10 H_6 S_6) h_10 H_6 S_6 fun v53 h_11 H_7 S_7 =>
    gopD (gB v44 true) (fun k_8 =>
      optW (pOff 13 v53) fun v54_1 =>
      k_8 v54_1 h_11 H_7 S_7) h_11 H_7 S_7 fun v54 h_12 H_8 S_8 =>
    gopD (gB v44 true) (fun k_9 =>
      histC #[0, 1, 3, 7, 15, 31, 63, 127, 255, 7, 519, 1543, 3591, 8191, 16383, 32767] 12 (idOf v54) H_8 (
        optW (rdRow false 1 v54 h_12) fun v55_1 =>
        k_9 v55_1 h_12 H_8 ((12, (idOf v54)) :: S_8))) h_12 H_8 S_8 fun v55 h_13 H_9 S_9 =>
    gopD (gB v44 true) (fun k_10 =>
      optW (pBin Try.prog .geq 3 v51 v55) fun v56_1 =>
      k_10 v56_1 h_13 H_9 S_9) h_13 H_9 S_9 fun v56 h_14 H_10 S_10 =>
    optW (pPick v44 v56 (.bool false)) fun v57 =>
    condW v57 (
      X 48 [a0, (.int .i64 13), v20] h_14 fun v60 h_15 =>
      K (.tuple #[]) h_15
    ) (
      optW (pBin Try.prog .eql 3 a2 (.int .i64 1)) fun v63 =>
      condW v63 (
        optW (pNilCheck a0) fun v65 =>
        optW (pOff 0 v65) fun v66 =>
        X 70 [v66, v15] h_14 fun v68 h_16 =>
        optW (pNilCheck a0) fun v79 =>
        optW (pOff 15 v79) fun v80 =>
        optW (rdRow false 1 v80 h_16) fun v81 =>
        optW (bldSl 1 [(.int .i64 0)] 1 [(0, v15)]) fun c =>
        newW none (.row c true) h_16 fun i h_17 =>
        appSl 1 v81 (.slice (some ⟨i, 0, none⟩) 1 1) h_17 fun v84 h_18 =>
        optW (pNilCheck a0) fun v85 =>
        optW (pOff 15 v85) fun v86 =>
        optW (pStore 1 v86 v84 h_18) fun h_19 =>
        K (.tuple #[]) h_19
      ) (
        optW (pBin Try.prog .eql 3 a2 (.int .i64 2)) fun v71 =>
        condW v71 (
          optW (pNilCheck a0) fun v73 =>
          optW (pOff 0 v73) fun v74 =>
          X 71 [v74, v15] h_14 fun v76 h_20 =>
          optW (pNilCheck a0) fun v79_1 =>
          optW (pOff 15 v79_1) fun v80_1 =>
          optW (rdRow false 1 v80_1 h_20) fun v81_1 =>
          optW (bldSl 1 [(.int .i64 0)] 1 [(0, v15)]) fun c_1 =>
          newW none (.row c_1 true) h_20 fun i_1 h_21 =>
          appSl 1 v81_1 (.slice (some ⟨i_1, 0, none⟩) 1 1) h_21 fun v84_1 h_22 =>
          optW (pNilCheck a0) fun v85_1 =>
          optW (pOff 15 v85_1) fun v86_1 =>
          optW (pStore 1 v86_1 v84_1 h_22) fun h_23 =>
          K (.tuple #[]) h_23
        ) (
          optW (pNilCheck a0) fun v32 =>
          optW (pOff 0 v32) fun v33 =>
          X 72 [v33, v15] h_14 fun v35 h_24 =>
          optW (pNilCheck a0) fun v79_2 =>
          optW (pOff 15 v79_2) fun v80_2 =>
          optW (rdRow false 1 v80_2 h_24) fun v81_2 =>
          optW (bldSl 1 [(.int .i64 0)] 1 [(0, v15)]) fun c_2 =>
          newW none (.row c_2 true) h_24 fun i_2 h_25 =>
          appSl 1 v81_2 (.slice (some ⟨i_2, 0, none⟩) 1 1) h_25 fun v84_2 h_26 =>
          optW (pNilCheck a0) fun v85_2 =>
          optW (pOff 15 v85_2) fun v86_2 =>
          optW (pStore 1 v86_2 v84_2 h_26) fun h_27 =>
          K (.tuple #[]) h_27))))
theorem e64 (X : CallT) (a0 a1 a2 : Value) (h : AH) (K : Value → AH → Prop) : cwp2 Try.prog X (Try.f64.body.getD .skip) (endW Try.prog Try.f64 K) (envOf [a0, a1, a2]) h = s64 X a0 a1 a2 h K := by kernel_rfl
theorem c64 {a0 a1 a2 : Value} {h : AH} {K : Value → AH → Prop} (hs : s64 (callW Try.prog) a0 a1 a2 h K) : callW Try.prog 64 [a0, a1, a2] h K := callW_of Try.func64 (by kernel_rfl) (Eq.mpr (e64 _ a0 a1 a2 _ _) hs)

/-- slices.Contains[[]int,int] () -/
def s65 (X : CallT) (a0 a1 : Value) (h : AH) (K : Value → AH → Prop) : Prop :=
  X 73 [a0, a1] h fun v7 h_1 =>
  optW (pBin Try.prog .geq 3 v7 (.int .i64 0)) fun v8 =>
  K v8 h_1
theorem e65 (X : CallT) (a0 a1 : Value) (h : AH) (K : Value → AH → Prop) : cwp2 Try.prog X (Try.f65.body.getD .skip) (endW Try.prog Try.f65 K) (envOf [a0, a1]) h = s65 X a0 a1 h K := by kernel_rfl
theorem c65 {a0 a1 : Value} {h : AH} {K : Value → AH → Prop} (hs : s65 (callW Try.prog) a0 a1 h K) : callW Try.prog 65 [a0, a1] h K := callW_of Try.func65 (by kernel_rfl) (Eq.mpr (e65 _ a0 a1 _ _) hs)

/-- canopy/canopyref14.name (I at e: live [0, 3, 4], writes [3, 4, 5, 6, 7, 8, 9, 10, 11, 12, 13, 14, 15, 16]) -/
def s66 (X : CallT) (a0 : Value) (h : AH) (K : Value → AH → Prop) : Prop :=
  loopE (fun I e h_1 =>
    optW (lenStr (e 0)) fun v7 =>
    optW (pBin Try.prog .lss 3 (e 4) v7) fun v8 =>
    condW v8 (
      optW (pIdxStr (e 0) (e 4)) fun v13 =>
      X 58 [v13] h_1 fun v14 h_2 =>
      condW v14 (
        optW (pBin Try.prog .add 3 (e 3) (.int .i64 1)) fun v16 =>
        optW (pBin Try.prog .add 3 (e 4) (.int .i64 1)) fun v10 =>
        I (pt (pt (pt (pt (pt (pt (pt (pt (pt (pt (pt (pt (pt (pt e 5 (e 4)) 6 (e 0)) 7 v7) 8 v8) 11 (e 0)) 12 (e 4)) 13 v13) 14 v14) 15 (e 3)) 16 v16) 3 v16) 9 (e 4)) 10 v10) 4 v10) h_2
      ) (
        optW (pBin Try.prog .add 3 (e 4) (.int .i64 1)) fun v10_1 =>
        I (pt (pt (pt (pt (pt (pt (pt (pt (pt (pt (pt e 5 (e 4)) 6 (e 0)) 7 v7) 8 v8) 11 (e 0)) 12 (e 4)) 13 v13) 14 v14) 9 (e 4)) 10 v10_1) 4 v10_1) h_2)
    ) (
      K (e 3) h_1))
  (pt (pt (pt (envOf [a0]) 2 (.int .i64 0)) 3 (.int .i64 0)) 4 (.int .i64 0)) h
theorem e66 (X : CallT) (a0 : Value) (h : AH) (K : Value → AH → Prop) : cwp2 Try.prog X (Try.f66.body.getD .skip) (endW Try.prog Try.f66 K) (envOf [a0]) h = s66 X a0 h K := by kernel_rfl
theorem c66 {a0 : Value} {h : AH} {K : Value → AH → Prop} (hs : s66 (callW Try.prog) a0 h K) : callW Try.prog 66 [a0] h K := callW_of Try.func66 (by kernel_rfl) (Eq.mpr (e66 _ a0 _ _) hs)

/-- canopy/canopyref1.Read () -/
def s67 (X : CallT) (a0 : Value) (h : AH) (K : Value → AH → Prop) : Prop :=
  newR none [(.string (bs [])), (.int .i64 0)] h fun v2 h_1 =>
  optW (bld [(.string (bs [])), (.int .i64 0)] [(0, 1), (1, 1)] [(0, a0), (1, (.int .i64 3))]) fun v6 =>
  newR none [(.string (bs [])), (.int .i64 0)] h_1 fun v4 h_2 =>
  optW (pStore 2 v4 v6 h_2) fun h_3 =>
  optW (pBin Try.prog .neq 9 a0 (.string (bs []))) fun v8 =>
  gopW (gB v8 true) (fun k =>
    k a0 h_3) h_3 fun v10 h_4 =>
  gopW (gB v8 true) (fun k_1 =>
    optW (pIdxStr v10 (.int .i64 0)) fun v11_1 =>
    k_1 v11_1 h_4) h_4 fun v11 h_5 =>
  gopW (gB v8 true) (fun k_2 =>
    optW (pBin Try.prog .eql 5 v11 (.int .u8 60)) fun v12_1 =>
    k_2 v12_1 h_5) h_5 fun v12 h_6 =>
  optW (pPick v8 v12 (.bool false)) fun v13 =>
  gopW (gB v13 true) (fun k_3 =>
    k_3 a0 h_6) h_6 fun v15 h_7 =>
  gopW (gB v13 true) (fun k_4 =>
    k_4 a0 h_7) h_7 fun v16 h_8 =>
  gopW (gB v13 true) (fun k_5 =>
    optW (lenStr v16) fun v17_1 =>
    k_5 v17_1 h_8) h_8 fun v17 h_9 =>
  gopW (gB v13 true) (fun k_6 =>
    optW (pBin Try.prog .sub 3 v17 (.int .i64 1)) fun v18_1 =>
    k_6 v18_1 h_9) h_9 fun v18 h_10 =>
  gopW (gB v13 true) (fun k_7 =>
    optW (pIdxStr v15 v18) fun v19_1 =>
    k_7 v19_1 h_10) h_10 fun v19 h_11 =>
  gopW (gB v13 true) (fun k_8 =>
    optW (pBin Try.prog .eql 5 v19 (.int .u8 62)) fun v20_1 =>
    k_8 v20_1 h_11) h_11 fun v20 h_12 =>
  optW (pPick v13 v20 (.bool false)) fun v21 =>
  condW v21 (
    optW (lenStr a0) fun v24 =>
    optW (pBin Try.prog .sub 3 v24 (.int .i64 1)) fun v25 =>
    optW (pSliceStr a0 (some (.int .i64 1)) (some v25)) fun v26 =>
    optW (bld [(.string (bs [])), (.int .i64 0)] [(0, 1), (1, 1)] [(0, v26), (1, (.int .i64 1))]) fun v27 =>
    optW (pStore 2 v4 v27 h_12) fun h_13 =>
    optW (lenStr a0) fun v29 =>
    optW (pBin Try.prog .gtr 3 v29 (.int .i64 2)) fun v30 =>
    gopW (gB v30 true) (fun k_9 =>
      k_9 a0 h_13) h_13 fun v32 h_14 =>
    gopW (gB v30 true) (fun k_10 =>
      optW (pIdxStr v32 (.int .i64 1)) fun v33_1 =>
      k_10 v33_1 h_14) h_14 fun v33 h_15 =>
    gopW (gB v30 true) (fun k_11 =>
      optW (pBin Try.prog .eql 5 v33 (.int .u8 47)) fun v34_1 =>
      k_11 v34_1 h_15) h_15 fun v34 h_16 =>
    optW (pPick v30 v34 (.bool false)) fun v35 =>
    condW v35 (
      optW (lenStr a0) fun v38 =>
      optW (pBin Try.prog .sub 3 v38 (.int .i64 1)) fun v39 =>
      optW (pSliceStr a0 (some (.int .i64 2)) (some v39)) fun v40 =>
      optW (bld [(.string (bs [])), (.int .i64 0)] [(0, 1), (1, 1)] [(0, v40), (1, (.int .i64 2))]) fun v41 =>
      optW (pStore 2 v4 v41 h_16) fun h_17 =>
      optW (rdRow true 2 v4 h_17) fun v42 =>
      optW (pOff 0 v4) fun v43 =>
      optW (rdRow false 1 v43 h_17) fun v44 =>
      X 74 [v44] h_17 fun v45 h_18 =>
      (∀ x ∈ (idOf v4), (h_17 : AH)[x]? = (h_18 : AH)[x]?) ∧
      optW (pStore 2 v2 v42 h_18) fun h_19 =>
      optW (resList Try.prog (pt (pt (pt (pt (pt (pt (pt (pt (pt (pt (pt (pt (pt (pt (pt (pt (pt (pt (pt (pt (pt (pt (pt (pt (pt (pt (pt (pt (pt (pt (pt (pt (pt (pt (pt (pt (pt (pt (pt (pt (pt (pt (pt (pt (pt (envOf [a0]) 2 v2) 3 (.bool false)) 5 a0) 6 v6) 4 v4) 7 a0) 8 v8) 9 v8) 10 v10) 11 v11) 12 v12) 13 v13) 14 v13) 15 v15) 16 v16) 17 v17) 18 v18) 19 v19) 20 v20) 21 v21) 22 a0) 23 a0) 24 v24) 25 v25) 26 v26) 27 v27) 28 a0) 29 v29) 30 v30) 31 v30) 32 v32) 33 v33) 34 v34) 35 v35) 36 a0) 37 a0) 38 v38) 39 v39) 40 v40) 41 v41) 42 v42) 43 v43) 44 v44) 45 v45) 3 v45) h_19 Try.f67.results.toList) fun vs => K (resOf vs) h_19
    ) (
      optW (rdRow true 2 v4 h_16) fun v42_1 =>
      optW (pOff 0 v4) fun v43_1 =>
      optW (rdRow false 1 v43_1 h_16) fun v44_1 =>
      X 74 [v44_1] h_16 fun v45_1 h_20 =>
      (∀ x ∈ (idOf v4), (h_16 : AH)[x]? = (h_20 : AH)[x]?) ∧
      optW (pStore 2 v2 v42_1 h_20) fun h_21 =>
      optW (resList Try.prog (pt (pt (pt (pt (pt (pt (pt (pt (pt (pt (pt (pt (pt (pt (pt (pt (pt (pt (pt (pt (pt (pt (pt (pt (pt (pt (pt (pt (pt (pt (pt (pt (pt (pt (pt (pt (pt (pt (pt (envOf [a0]) 2 v2) 3 (.bool false)) 5 a0) 6 v6) 4 v4) 7 a0) 8 v8) 9 v8) 10 v10) 11 v11) 12 v12) 13 v13) 14 v13) 15 v15) 16 v16) 17 v17) 18 v18) 19 v19) 20 v20) 21 v21) 22 a0) 23 a0) 24 v24) 25 v25) 26 v26) 27 v27) 28 a0) 29 v29) 30 v30) 31 v30) 32 v32) 33 v33) 34 v34) 35 v35) 42 v42_1) 43 v43_1) 44 v44_1) 45 v45_1) 3 v45_1) h_21 Try.f67.results.toList) fun vs => K (resOf vs) h_21)
  ) (
    optW (rdRow true 2 v4 h_12) fun v42_2 =>
    optW (pOff 0 v4) fun v43_2 =>
    optW (rdRow false 1 v43_2 h_12) fun v44_2 =>
    X 74 [v44_2] h_12 fun v45_2 h_22 =>
    (∀ x ∈ (idOf v4), (h_12 : AH)[x]? = (h_22 : AH)[x]?) ∧
    optW (pStore 2 v2 v42_2 h_22) fun h_23 =>
    optW (resList Try.prog (pt (pt (pt (pt (pt (pt (pt (pt (pt (pt (pt (pt (pt (pt (pt (pt (pt (pt (pt (pt (pt (pt (pt (pt (pt (envOf [a0]) 2 v2) 3 (.bool false)) 5 a0) 6 v6) 4 v4) 7 a0) 8 v8) 9 v8) 10 v10) 11 v11) 12 v12) 13 v13) 14 v13) 15 v15) 16 v16) 17 v17) 18 v18) 19 v19) 20 v20) 21 v21) 42 v42_2) 43 v43_2) 44 v44_2) 45 v45_2) 3 v45_2) h_23 Try.f67.results.toList) fun vs => K (resOf vs) h_23)
theorem e67 (X : CallT) (a0 : Value) (h : AH) (K : Value → AH → Prop) : cwp2 Try.prog X (Try.f67.body.getD .skip) (endW Try.prog Try.f67 K) (envOf [a0]) h = s67 X a0 h K := by kernel_rfl
theorem c67 {a0 : Value} {h : AH} {K : Value → AH → Prop} (hs : s67 (callW Try.prog) a0 h K) : callW Try.prog 67 [a0] h K := callW_of Try.func67 (by kernel_rfl) (Eq.mpr (e67 _ a0 _ _) hs)

end Go.Proofs.Ytebbjimmgblcpaa.W
end

section
/- Go functions, printed by a program as predicates on what may come behind; each is the function. Conditions: none. -/
namespace Go.Proofs.Ytebbjimmgblcpaa.W
open Go Go.AM
set_option linter.unusedVariables false
set_option maxRecDepth 100000


/-- canopy/canopyref1.Find (I at e: live [0, 3, 5], writes [4, 5, 6, 7, 8, 9, 10, 11, 12, 13, 14, 15, 16, 17, 18]) -/
def s68 (X : CallT) (a0 a1 : Value) (h : AH) (K : Value → AH → Prop) : Prop :=
  aBox a1 none h fun v3 h_1 =>
  loopE (fun I e h_2 =>
    optW (lenSl (e 0)) fun v8 =>
    optW (pBin Try.prog .lss 3 (e 5) v8) fun v9 =>
    condW v9 (
      optW (pIdxS 2 (e 0) (e 5)) fun v14 =>
      optW (rdRow true 2 v14 h_2) fun v15 =>
      optW (rdRow true 2 (e 3) h_2) fun v16 =>
      optW (pBin Try.prog .eql 67 v15 v16) fun v17 =>
      condW v17 (
        K (e 5) h_2
      ) (
        optW (pBin Try.prog .add 3 (e 5) (.int .i64 1)) fun v11 =>
        I (pt (pt (pt (pt (pt (pt (pt (pt (pt (pt (pt (pt (pt e 6 (e 5)) 7 (e 0)) 8 v8) 9 v9) 12 (e 0)) 13 (e 5)) 14 v14) 15 v15) 16 v16) 17 v17) 10 (e 5)) 11 v11) 5 v11) h_2)
    ) (
      K (.int .i64 (-1)) h_2))
  (pt (pt (pt (envOf [a0, a1]) 3 v3) 4 (.int .i64 0)) 5 (.int .i64 0)) h_1
theorem e68 (X : CallT) (a0 a1 : Value) (h : AH) (K : Value → AH → Prop) : cwp2 Try.prog X (Try.f68.body.getD .skip) (endW Try.prog Try.f68 K) (envOf [a0, a1]) h = s68 X a0 a1 h K := by kernel_rfl
theorem c68 {a0 a1 : Value} {h : AH} {K : Value → AH → Prop} (hs : s68 (callW Try.prog) a0 a1 h K) : callW Try.prog 68 [a0, a1] h K := callW_of Try.func68 (by kernel_rfl) (Eq.mpr (e68 _ a0 a1 _ _) hs)

/-- slices.Index[[]canopy/api.Sym,canopy/api.Sym] (I at e: live [0, 3, 7, 8], writes [4, 5, 8, 9, 10, 11, 12, 13, 14, 15, 16, 17, 18]) -/
def s69 (X : CallT) (a0 a1 : Value) (h : AH) (K : Value → AH → Prop) : Prop :=
  aBox a1 none h fun v3 h_1 =>
  optW (lenSl a0) fun v7 =>
  loopE (fun I e h_2 =>
    optW (pBin Try.prog .lss 3 (e 8) (e 7)) fun v9 =>
    condW v9 (
      optW (rdRow true 2 (e 3) h_2) fun v11 =>
      optW (pIdxS 2 (e 0) (e 8)) fun v14 =>
      optW (rdRow true 2 v14 h_2) fun v15 =>
      optW (pBin Try.prog .eql 67 v11 v15) fun v16 =>
      condW v16 (
        K (e 8) h_2
      ) (
        optW (pBin Try.prog .add 3 (e 8) (.int .i64 1)) fun v18 =>
        I (pt (pt (pt (pt (pt (pt (pt (pt (pt (pt (pt e 9 v9) 10 (e 8)) 5 (e 8)) 11 v11) 12 (e 0)) 13 (e 8)) 14 v14) 15 v15) 16 v16) 18 v18) 8 v18) h_2)
    ) (
      K (.int .i64 (-1)) h_2))
  (pt (pt (pt (pt (pt (envOf [a0, a1]) 3 v3) 4 (.int .i64 0)) 6 a0) 7 v7) 8 (.int .i64 0)) h_1
theorem e69 (X : CallT) (a0 a1 : Value) (h : AH) (K : Value → AH → Prop) : cwp2 Try.prog X (Try.f69.body.getD .skip) (endW Try.prog Try.f69 K) (envOf [a0, a1]) h = s69 X a0 a1 h K := by kernel_rfl
theorem c69 {a0 a1 : Value} {h : AH} {K : Value → AH → Prop} (hs : s69 (callW Try.prog) a0 a1 h K) : callW Try.prog 69 [a0, a1] h K := callW_of Try.func69 (by kernel_rfl) (Eq.mpr (e69 _ a0 a1 _ _) hs)

/-- (*canopy/feed.run).open (I at e: live [0, 1, 4, 16], writes [5, 7, 17, 18, 19, 20, 21, 22, 23, 24, 25, 26, 27, 28, 29, 30, 31, 32, 33, 34, 35, 36, 37, 38, 39, 40, 41, 42, 43, 44, 45, 46, 47, 48, 49]; I_1 at e_1: live [1, 4, 5, 25, 26, 27], writes [7, 27, 28, 29, 30, 31, 32, 33, 34, 35, 36, 37, 38, 39, 40, 41, 42, 43, 44, 45, 46, 47, 48, 49]) -/
def s70 (X : CallT) (a0 a1 : Value) (h : AH) (K : Value → AH → Prop) : Prop :=
  newW none (.map [] 0) h fun i h_1 =>
  optW (bld [(.map none), (.int .i64 0)] [(0, 1), (1, 1)] [(0, (.map (some i))), (1, a1)]) fun v10 =>
  newR none [(.map none), (.int .i64 0)] h_1 fun v4 h_2 =>
  optW (pStore 2 v4 v10 h_2) fun h_3 =>
  optW (pNilCheck a0) fun v12 =>
  optW (pOff 7 v12) fun v13 =>
  optW (pOff 0 v13) fun v14 =>
  optW (rdRow false 1 v14 h_3) fun v15 =>
  aRange Try.prog 88 v15 none h_3 fun v16 h_4 =>
  loopE (fun I e h_5 =>
    aNext (e 16) false h_5 fun v17 h_6 =>
    optW (pExtract v17 0) fun v18 =>
    condW v18 (
      optW (pEntry (e 16) h_6) fun v19 =>
      optW (pExtract v19 0) fun v20 =>
      newR none [(.int .i64 0), (.int .i64 0)] h_6 fun v5 h_7 =>
      optW (pStore 2 v5 v20 h_7) fun h_8 =>
      optW (pNilCheck (e 0)) fun v22 =>
      optW (pOff 0 v22) fun v23 =>
      optW (pOff 4 v23) fun v24 =>
      optW (rdRow false 1 v24 h_8) fun v25 =>
      optW (lenSl v25) fun v26 =>
      loopE (fun I_1 e_1 h_9 =>
        optW (pBin Try.prog .lss 3 (e_1 27) (e_1 26)) fun v28 =>
        condW v28 (
          optW (pIdxS 4 (e_1 25) (e_1 27)) fun v29 =>
          optW (rdRow true 4 v29 h_9) fun v30 =>
          newR none [(.int .i64 0), (.int .i64 0), (.int .i64 0), (.int .i64 0)] h_9 fun v7 h_10 =>
          optW (pStore 4 v7 v30 h_10) fun h_11 =>
          optW (pOff 0 v7) fun v31 =>
          optW (rdRow false 1 v31 h_11) fun v32 =>
          optW (pOff 1 (e_1 5)) fun v33 =>
          optW (rdRow false 1 v33 h_11) fun v34 =>
          optW (pBin Try.prog .eql 3 v32 v34) fun v35 =>
          gopW (gB v35 true) (fun k =>
            optW (pOff 1 v7) fun v37_1 =>
            k v37_1 h_11) h_11 fun v37 h_12 =>
          gopW (gB v35 true) (fun k_1 =>
            optW (rdRow false 1 v37 h_12) fun v38_1 =>
            k_1 v38_1 h_12) h_12 fun v38 h_13 =>
          gopW (gB v35 true) (fun k_2 =>
            k_2 (e_1 1) h_13) h_13 fun v39 h_14 =>
          gopW (gB v35 true) (fun k_3 =>
            optW (pBin Try.prog .eql 3 v38 v39) fun v40_1 =>
            k_3 v40_1 h_14) h_14 fun v40 h_15 =>
          optW (pPick v35 v40 (.bool false)) fun v41 =>
          condW v41 (
            optW (pOff 0 (e_1 4)) fun v42 =>
            optW (rdRow false 1 v42 h_15) fun v43 =>
            optW (pOff 2 v7) fun v44 =>
            optW (rdRow false 1 v44 h_15) fun v45 =>
            optW (pOff 2 v7) fun v46 =>
            optW (rdRow false 1 v46 h_15) fun v47 =>
            optW (bld [(.int .i64 0), (.int .i64 0)] [(0, 1), (1, 1)] [(0, v45), (1, v47)]) fun v48 =>
            optW (pMapUpd Try.prog 88 v43 v48 (.int .i64 1) h_15) fun h_16 =>
            optW (pBin Try.prog .add 3 (e_1 27) (.int .i64 1)) fun v49 =>
            I_1 (pt (pt (pt (pt (pt (pt (pt (pt (pt (pt (pt (pt (pt (pt (pt (pt (pt (pt (pt (pt (pt (pt (pt (pt e_1 28 v28) 29 v29) 30 v30) 7 v7) 31 v31) 32 v32) 33 v33) 34 v34) 35 v35) 36 v35) 37 v37) 38 v38) 39 v39) 40 v40) 41 v41) 42 v42) 43 v43) 44 v44) 45 v45) 46 v46) 47 v47) 48 v48) 49 v49) 27 v49) h_16
          ) (
            optW (pBin Try.prog .add 3 (e_1 27) (.int .i64 1)) fun v49_1 =>
            I_1 (pt (pt (pt (pt (pt (pt (pt (pt (pt (pt (pt (pt (pt (pt (pt (pt (pt e_1 28 v28) 29 v29) 30 v30) 7 v7) 31 v31) 32 v32) 33 v33) 34 v34) 35 v35) 36 v35) 37 v37) 38 v38) 39 v39) 40 v40) 41 v41) 49 v49_1) 27 v49_1) h_15)
        ) (
          I (pt e_1 28 v28) h_9))
      (pt (pt (pt (pt (pt (pt (pt (pt (pt (pt (pt (pt e 17 v17) 18 v18) 19 v19) 20 v20) 5 v5) 21 (e 0)) 22 v22) 23 v23) 24 v24) 25 v25) 26 v26) 27 (.int .i64 0)) h_8
    ) (
      optW (pNilCheck (e 0)) fun v53 =>
      optW (pOff 9 v53) fun v54 =>
      optW (rdRow false 1 v54 (reserve 1 h_6)) fun v55 =>
      optW (pNilCheck (e 0)) fun v57 =>
      optW (pOff 7 v57) fun v58 =>
      optW (rdRow true 2 v58 (reserve 1 h_6)) fun v59 =>
      optW (bldSl 2 [(.map none), (.int .i64 0)] 1 [(0, v59)]) fun c =>
      newW (some (h_6.length)) (.row c true) (reserve 1 h_6) fun i_1 h_17 =>
      appSl 2 v55 (.slice (some ⟨i_1, 0, none⟩) 1 1) h_17 fun v61 h_18 =>
      (∀ x ∈ (idOf (e 4)), (h_17 : AH)[x]? = (h_18 : AH)[x]?) ∧
      (∀ x ∈ (idOf (e 4)), ((reserve 1 h_6) : AH)[x]? = (h_17 : AH)[x]?) ∧
      optW (rdRow true 2 (e 4) h_18) fun v62 =>
      optW (pNilCheck (e 0)) fun v63 =>
      optW (pOff 9 v63) fun v64 =>
      optW (pStore 1 v64 v61 h_18) fun h_19 =>
      (∀ x ∈ (idOf (e 4)), (h_18 : AH)[x]? = (h_19 : AH)[x]?) ∧
      optW (pNilCheck (e 0)) fun v65 =>
      optW (pOff 7 v65) fun v66 =>
      optW (pStore 2 v66 v62 h_19) fun h_20 =>
      K (.tuple #[]) h_20))
  (pt (pt (pt (pt (pt (pt (pt (pt (pt (pt (envOf [a0, a1]) 8 (.map (some i))) 9 a1) 10 v10) 4 v4) 11 a0) 12 v12) 13 v13) 14 v14) 15 v15) 16 v16) h_4
theorem e70 (X : CallT) (a0 a1 : Value) (h : AH) (K : Value → AH → Prop) : cwp2 Try.prog X (Try.f70.body.getD .skip) (endW Try.prog Try.f70 K) (envOf [a0, a1]) h = s70 X a0 a1 h K := by kernel_rfl
theorem c70 {a0 a1 : Value} {h : AH} {K : Value → AH → Prop} (hs : s70 (callW Try.prog) a0 a1 h K) : callW Try.prog 70 [a0, a1] h K := callW_of Try.func70 (by kernel_rfl) (Eq.mpr (e70 _ a0 a1 _ _) hs)

/-- (*canopy/feed.run).close (I at e: live [5, 54], writes [6, 55, 56, 57, 58, 59, 60, 61, 62, 63, 64, 65, 66, 67, 68, 69]; I_1 at e_1: live [0, 1, 5, 7, 76], writes [8, 10, 12, 77, 78, 79, 80, 81, 82, 83, 84, 85, 86, 87, 88, 89, 90, 91, 92, 93, 94, 95, 96, 97, 98, 99, 100, 101, 102, 103, 104, 105, 106, 107, 108, 109, 110, 111, 112, 113, 114, 115, 116, 117, 118, 119, 120, 121, 122, 123, 124, 125, 126, 127, 128, 129, 130, 131, 132, 133, 134, 135, 136, 137, 138, 139, 140, 141, 142, 143, 144, 145, 146, 147, 148, 149, 150, 151, 152]; I_2 at e_2: live [0, 1, 5, 7, 8, 85, 86, 87], writes [10, 12, 87, 88, 89, 90, 91, 92, 93, 94, 95, 96, 97, 98, 99, 100, 101, 102, 103, 104, 105, 106, 107, 108, 109, 110, 111, 112, 113, 114, 115, 116, 117, 118, 119, 120, 121, 122, 123, 124, 125, 126, 127, 128, 129, 130, 131, 132, 133, 134, 135, 136, 137, 138, 139, 140, 141, 142, 143, 144, 145, 146, 147, 148, 149, 150, 151, 152]; I_3 at e_3: live [1, 5, 7, 8, 10, 118, 119, 120], writes [12, 120, 121, 122, 123, 124, 125, 126, 127, 128, 129, 130, 131, 132, 133, 134, 135, 136, 137, 138, 139, 140, 141, 142, 143, 144, 145, 146, 147, 148, 149, 150, 151]) -/
def s71 (X : CallT) (a0 a1 : Value) (h : AH) (K : Value → AH → Prop) : Prop :=
  optW (pNilCheck a0) fun v14 =>
  optW (pOff 9 v14) fun v15 =>
  optW (rdRow false 1 v15 h) fun v16 =>
  optW (lenSl v16) fun v17 =>
  optW (pBin Try.prog .eql 3 v17 (.int .i64 0)) fun v18 =>
  condW v18 (
    X 75 [a0, a1] h fun v21 h_1 =>
    K (.tuple #[]) h_1
  ) (
    optW (pNilCheck a0) fun v23 =>
    optW (pOff 9 v23) fun v24 =>
    optW (rdRow false 1 v24 (reserve 1 h)) fun v25 =>
    optW (pNilCheck a0) fun v27 =>
    optW (pOff 9 v27) fun v28 =>
    optW (rdRow false 1 v28 (reserve 1 h)) fun v29 =>
    optW (lenSl v29) fun v30 =>
    optW (pBin Try.prog .sub 3 v30 (.int .i64 1)) fun v31 =>
    optW (pIdxS 2 v25 v31) fun v32 =>
    optW (rdRow true 2 v32 (reserve 1 h)) fun v33 =>
    newR (some (h.length)) [(.map none), (.int .i64 0)] (reserve 1 h) fun v4 h_2 =>
    optW (pStore 2 v4 v33 h_2) fun h_3 =>
    optW (pNilCheck a0) fun v36 =>
    optW (pOff 9 v36) fun v37 =>
    optW (rdRow false 1 v37 h_3) fun v38 =>
    optW (pNilCheck a0) fun v40 =>
    optW (pOff 9 v40) fun v41 =>
    optW (rdRow false 1 v41 h_3) fun v42 =>
    optW (lenSl v42) fun v43 =>
    optW (pBin Try.prog .sub 3 v43 (.int .i64 1)) fun v44 =>
    optW (pSliceSl 2 v38 none (some v44) none) fun v45 =>
    optW (pNilCheck a0) fun v46 =>
    optW (pOff 9 v46) fun v47 =>
    optW (pStore 1 v47 v45 h_3) fun h_4 =>
    newW none (.map [] 0) h_4 fun i h_5 =>
    optW (pNilCheck a0) fun v50 =>
    optW (pOff 7 v50) fun v51 =>
    optW (pOff 0 v51) fun v52 =>
    optW (rdRow false 1 v52 h_5) fun v53 =>
    aRange Try.prog 88 v53 none h_5 fun v54 h_6 =>
    loopE (fun I e h_7 =>
      aNext (e 54) false h_7 fun v55 h_8 =>
      optW (pExtract v55 0) fun v56 =>
      condW v56 (
        optW (pEntry (e 54) h_8) fun v57 =>
        optW (pExtract v57 0) fun v58 =>
        newR none [(.int .i64 0), (.int .i64 0)] h_8 fun v6 h_9 =>
        optW (pStore 2 v6 v58 h_9) fun h_10 =>
        optW (pOff 0 v6) fun v60 =>
        optW (rdRow false 1 v60 (reserve 1 h_10)) fun v61 =>
        optW (pOff 0 v6) fun v63 =>
        optW (rdRow false 1 v63 (reserve 1 h_10)) fun v64 =>
        optW (pLookup Try.prog 125 (e 5) v64 false (reserve 1 h_10)) fun v65 =>
        optW (pOff 1 v6) fun v66 =>
        optW (rdRow false 1 v66 (reserve 1 h_10)) fun v67 =>
        optW (bldSl 1 [(.int .i64 0)] 1 [(0, v67)]) fun c =>
        newW (some (h_10.length)) (.row c true) (reserve 1 h_10) fun i_1 h_11 =>
        appSl 1 v65 (.slice (some ⟨i_1, 0, none⟩) 1 1) h_11 fun v69 h_12 =>
        (∀ x ∈ (idOf v60), (h_11 : AH)[x]? = (h_12 : AH)[x]?) ∧
        optW (pMapUpd Try.prog 125 (e 5) v61 v69 h_12) fun h_13 =>
        I (pt (pt (pt (pt (pt (pt (pt (pt (pt (pt (pt (pt (pt (pt (pt (pt e 55 v55) 56 v56) 57 v57) 58 v58) 6 v6) 59 (e 5)) 60 v60) 61 v61) 62 (e 5)) 63 v63) 64 v64) 65 v65) 66 v66) 67 v67) 68 (.slice (some ⟨i_1, 0, none⟩) 1 1)) 69 v69) h_13
      ) (
        newW none (.map [] 0) h_8 fun i_2 h_14 =>
        optW (pOff 1 (e 4)) fun v71 =>
        optW (rdRow false 1 v71 h_14) fun v72 =>
        optW (bld [(.map none), (.int .i64 0)] [(0, 1), (1, 1)] [(0, (.map (some i_2))), (1, v72)]) fun v73 =>
        newR none [(.map none), (.int .i64 0)] h_14 fun v7 h_15 =>
        optW (pStore 2 v7 v73 h_15) fun h_16 =>
        optW (pOff 0 (e 4)) fun v74 =>
        optW (rdRow false 1 v74 h_16) fun v75 =>
        aRange Try.prog 88 v75 none h_16 fun v76 h_17 =>
        loopE (fun I_1 e_1 h_18 =>
          aNext (e_1 76) false h_18 fun v77 h_19 =>
          optW (pExtract v77 0) fun v78 =>
          condW v78 (
            optW (pEntry (e_1 76) h_19) fun v79 =>
            optW (pExtract v79 0) fun v80 =>
            newR none [(.int .i64 0), (.int .i64 0)] h_19 fun v8 h_20 =>
            optW (pStore 2 v8 v80 h_20) fun h_21 =>
            optW (pNilCheck (e_1 0)) fun v82 =>
            optW (pOff 0 v82) fun v83 =>
            optW (pOff 4 v83) fun v84 =>
            optW (rdRow false 1 v84 h_21) fun v85 =>
            optW (lenSl v85) fun v86 =>
            loopE (fun I_2 e_2 h_22 =>
              optW (pBin Try.prog .lss 3 (e_2 87) (e_2 86)) fun v88 =>
              condW v88 (
                optW (pIdxS 4 (e_2 85) (e_2 87)) fun v89 =>
                optW (rdRow true 4 v89 h_22) fun v90 =>
                newR none [(.int .i64 0), (.int .i64 0), (.int .i64 0), (.int .i64 0)] h_22 fun v10 h_23 =>
                optW (pStore 4 v10 v90 h_23) fun h_24 =>
                optW (pOff 0 v10) fun v91 =>
                optW (rdRow false 1 v91 h_24) fun v92 =>
                optW (pOff 1 (e_2 8)) fun v93 =>
                optW (rdRow false 1 v93 h_24) fun v94 =>
                optW (pBin Try.prog .neq 3 v92 v94) fun v95 =>
                gopD (gB v95 false) (fun k =>
                  optW (pOff 1 v10) fun v97_1 =>
                  k v97_1 h_24 [] ((3, (idOf v93)) :: ((1, (idOf v91)) :: []))) h_24 [] ((3, (idOf v93)) :: ((1, (idOf v91)) :: [])) fun v97 h_25 H S =>
                gopD (gB v95 false) (fun k_1 =>
                  histC #[0, 1, 0, 4, 15, 31, 63, 127, 63, 319, 831, 1855, 3903, 8191, 16383, 32767, 65535, 65535, 196607, 524287, 1048575, 2097151, 4194303] 7 (idOf v97) H (
                    optW (rdRow false 1 v97 h_25) fun v98_1 =>
                    k_1 v98_1 h_25 H ((7, (idOf v97)) :: S))) h_25 H S fun v98 h_26 H_1 S_1 =>
                gopD (gB v95 false) (fun k_2 =>
                  k_2 (e_2 0) h_26 H_1 S_1) h_26 H_1 S_1 fun v99 h_27 H_2 S_2 =>
                gopD (gB v95 false) (fun k_3 =>
                  optW (pNilCheck v99) fun v100_1 =>
                  k_3 v100_1 h_27 H_2 S_2) h_27 H_2 S_2 fun v100 h_28 H_3 S_3 =>
                gopD (gB v95 false) (fun k_4 =>
                  optW (pOff 7 v100) fun v101_1 =>
                  k_4 v101_1 h_28 H_3 S_3) h_28 H_3 S_3 fun v101 h_29 H_4 S_4 =>
                gopD (gB v95 false) (fun k_5 =>
                  optW (pOff 1 v101) fun v102_1 =>
                  k_5 v102_1 h_29 H_4 S_4) h_29 H_4 S_4 fun v102 h_30 H_5 S_5 =>
                gopD (gB v95 false) (fun k_6 =>
                  histC #[0, 1, 0, 4, 15, 31, 63, 127, 63, 319, 831, 1855, 3903, 8191, 16383, 32767, 65535, 65535, 196607, 524287, 1048575, 2097151, 4194303] 12 (idOf v102) H_5 (
                    optW (rdRow false 1 v102 h_30) fun v103_1 =>
                    k_6 v103_1 h_30 H_5 ((12, (idOf v102)) :: S_5))) h_30 H_5 S_5 fun v103 h_31 H_6 S_6 =>
                gopD (gB v95 false) (fun k_7 =>
                  optW (pBin Try.prog .neq 3 v98 v103) fun v104_1 =>
                  k_7 v104_1 h_31 H_6 S_6) h_31 H_6 S_6 fun v104 h_32 H_7 S_7 =>
                optW (pPick v95 (.bool true) v104) fun v105 =>
                gopD (gB v105 false) (fun k_8 =>
                  k_8 (e_2 5) h_32 H_7 S_7) h_32 H_7 S_7 fun v107 h_33 H_8 S_8 =>
                gopD (gB v105 false) (fun k_9 =>
                  optW (pOff 2 v10) fun v108_1 =>
                  k_9 v108_1 h_33 H_8 S_8) h_33 H_8 S_8 fun v108 h_34 H_9 S_9 =>
                gopD (gB v105 false) (fun k_10 =>
                  histC #[0, 1, 0, 4, 15, 31, 63, 127, 63, 319, 831, 1855, 3903, 8191, 16383, 32767, 65535, 65535, 196607, 524287, 1048575, 2097151, 4194303] 18 (idOf v108) H_9 (
                    optW (rdRow false 1 v108 h_34) fun v109_1 =>
                    k_10 v109_1 h_34 H_9 ((18, (idOf v108)) :: S_9))) h_34 H_9 S_9 fun v109 h_35 H_10 S_10 =>
                gopD (gB v105 false) (fun k_11 =>
                  histC #[0, 1, 0, 4, 15, 31, 63, 127, 63, 319, 831, 1855, 3903, 8191, 16383, 32767, 65535, 65535, 196607, 524287, 1048575, 2097151, 4194303] 19 (idOf v107) H_10 (
                    optW (pLookup Try.prog 125 v107 v109 false h_35) fun v110_1 =>
                    k_11 v110_1 h_35 H_10 ((19, (idOf v107)) :: S_10))) h_35 H_10 S_10 fun v110 h_36 H_11 S_11 =>
                gopD (gB v105 false) (fun k_12 =>
                  optW (lenSl v110) fun v111_1 =>
                  k_12 v111_1 h_36 H_11 S_11) h_36 H_11 S_11 fun v111 h_37 H_12 S_12 =>
                gopD (gB v105 false) (fun k_13 =>
                  optW (pBin Try.prog .eql 3 v111 (.int .i64 0)) fun v112_1 =>
                  k_13 v112_1 h_37 H_12 S_12) h_37 H_12 S_12 fun v112 h_38 H_13 S_13 =>
                optW (pPick v105 (.bool true) v112) fun v113 =>
                condW v113 (
                  optW (pBin Try.prog .add 3 (e_2 87) (.int .i64 1)) fun v152 =>
                  I_2 (pt (pt (pt (pt (pt (pt (pt (pt (pt (pt (pt (pt (pt (pt (pt (pt (pt (pt (pt (pt (pt (pt (pt (pt (pt (pt (pt (pt (pt e_2 88 v88) 89 v89) 90 v90) 10 v10) 91 v91) 92 v92) 93 v93) 94 v94) 95 v95) 96 v95) 97 v97) 98 v98) 99 v99) 100 v100) 101 v101) 102 v102) 103 v103) 104 v104) 105 v105) 106 v105) 107 v107) 108 v108) 109 v109) 110 v110) 111 v111) 112 v112) 113 v113) 152 v152) 87 v152) h_38
                ) (
                  optW (pNilCheck (e_2 0)) fun v115 =>
                  optW (pOff 0 v115) fun v116 =>
                  optW (pOff 5 v116) fun v117 =>
                  optW (rdRow false 1 v117 h_38) fun v118 =>
                  optW (lenSl v118) fun v119 =>
                  loopE (fun I_3 e_3 h_39 =>
                    optW (pBin Try.prog .lss 3 (e_3 120) (e_3 119)) fun v121 =>
                    condW v121 (
                      optW (pIdxS 4 (e_3 118) (e_3 120)) fun v122 =>
                      optW (rdRow true 4 v122 h_39) fun v123 =>
                      newR none [(.int .i64 0), (.int .i64 0), (.int .i64 0), (.int .i64 0)] h_39 fun v12 h_40 =>
                      optW (pStore 4 v12 v123 h_40) fun h_41 =>
                      optW (pOff 1 v12) fun v124 =>
                      optW (rdRow false 1 v124 h_41) fun v125 =>
                      optW (pBin Try.prog .eql 3 v125 (e_3 1)) fun v127 =>
                      gopW (gB v127 true) (fun k_14 =>
                        optW (pOff 2 v12) fun v129_1 =>
                        k_14 v129_1 h_41) h_41 fun v129 h_42 =>
                      gopW (gB v127 true) (fun k_15 =>
                        optW (rdRow false 1 v129 h_42) fun v130_1 =>
                        k_15 v130_1 h_42) h_42 fun v130 h_43 =>
                      gopW (gB v127 true) (fun k_16 =>
                        optW (pOff 3 (e_3 10)) fun v131_1 =>
                        k_16 v131_1 h_43) h_43 fun v131 h_44 =>
                      gopW (gB v127 true) (fun k_17 =>
                        optW (rdRow false 1 v131 h_44) fun v132_1 =>
                        k_17 v132_1 h_44) h_44 fun v132 h_45 =>
                      gopW (gB v127 true) (fun k_18 =>
                        optW (pBin Try.prog .eql 3 v130 v132) fun v133_1 =>
                        k_18 v133_1 h_45) h_45 fun v133 h_46 =>
                      optW (pPick v127 v133 (.bool false)) fun v134 =>
                      gopW (gB v134 true) (fun k_19 =>
                        k_19 (e_3 5) h_46) h_46 fun v136 h_47 =>
                      gopW (gB v134 true) (fun k_20 =>
                        optW (pOff 2 (e_3 10)) fun v137_1 =>
                        k_20 v137_1 h_47) h_47 fun v137 h_48 =>
                      gopW (gB v134 true) (fun k_21 =>
                        optW (rdRow false 1 v137 h_48) fun v138_1 =>
                        k_21 v138_1 h_48) h_48 fun v138 h_49 =>
                      gopW (gB v134 true) (fun k_22 =>
                        optW (pLookup Try.prog 125 v136 v138 false h_49) fun v139_1 =>
                        k_22 v139_1 h_49) h_49 fun v139 h_50 =>
                      gopW (gB v134 true) (fun k_23 =>
                        optW (pOff 0 v12) fun v140_1 =>
                        k_23 v140_1 h_50) h_50 fun v140 h_51 =>
                      gopW (gB v134 true) (fun k_24 =>
                        optW (rdRow false 1 v140 h_51) fun v141_1 =>
                        k_24 v141_1 h_51) h_51 fun v141 h_52 =>
                      gopW (gB v134 true) (fun k_25 =>
                        X 65 [v139, v141] h_52 fun v142_1 h_54 =>
                        k_25 v142_1 h_54) h_52 fun v142 h_53 =>
                      optW (pPick v134 v142 (.bool false)) fun v143 =>
                      condW v143 (
                        optW (pOff 0 (e_3 7)) fun v144 =>
                        optW (rdRow false 1 v144 h_53) fun v145 =>
                        optW (pOff 0 (e_3 8)) fun v146 =>
                        optW (rdRow false 1 v146 h_53) fun v147 =>
                        optW (pOff 3 v12) fun v148 =>
                        optW (rdRow false 1 v148 h_53) fun v149 =>
                        optW (bld [(.int .i64 0), (.int .i64 0)] [(0, 1), (1, 1)] [(0, v147), (1, v149)]) fun v150 =>
                        optW (pMapUpd Try.prog 88 v145 v150 (.int .i64 1) h_53) fun h_55 =>
                        optW (pBin Try.prog .add 3 (e_3 120) (.int .i64 1)) fun v151 =>
                        I_3 (pt (pt (pt (pt (pt (pt (pt (pt (pt (pt (pt (pt (pt (pt (pt (pt (pt (pt (pt (pt (pt (pt (pt (pt (pt (pt (pt (pt (pt (pt (pt (pt (pt e_3 121 v121) 122 v122) 123 v123) 12 v12) 124 v124) 125 v125) 126 (e_3 1)) 127 v127) 128 v127) 129 v129) 130 v130) 131 v131) 132 v132) 133 v133) 134 v134) 135 v134) 136 v136) 137 v137) 138 v138) 139 v139) 140 v140) 141 v141) 142 v142) 143 v143) 144 v144) 145 v145) 146 v146) 147 v147) 148 v148) 149 v149) 150 v150) 151 v151) 120 v151) h_55
                      ) (
                        optW (pBin Try.prog .add 3 (e_3 120) (.int .i64 1)) fun v151_1 =>
                        I_3 (pt (pt (pt (pt (pt (pt (pt (pt (pt (pt (pt (pt (pt (pt (pt (pt (pt (pt (pt (pt (pt (pt (pt (pt (pt (pt e_3 121 v121) 122 v122) 123 v123) 12 v12) 124 v124) 125 v125) 126 (e_3 1)) 127 v127) 128 v127) 129 v129) 130 v130) 131 v131) 132 v132) 133 v133) 134 v134) 135 v134) 136 v136) 137 v137) 138 v138) 139 v139) 140 v140) 141 v141) 142 v142) 143 v143) 151 v151_1) 120 v151_1) h_53)
                    ) (
                      optW (pBin Try.prog .add 3 (e_3 87) (.int .i64 1)) fun v152_1 =>
                      I_2 (pt (pt (pt e_3 121 v121) 152 v152_1) 87 v152_1) h_39))
                  (pt (pt (pt (pt (pt (pt (pt (pt (pt (pt (pt (pt (pt (pt (pt (pt (pt (pt (pt (pt (pt (pt (pt (pt (pt (pt (pt (pt (pt (pt (pt (pt (pt (pt e_2 88 v88) 89 v89) 90 v90) 10 v10) 91 v91) 92 v92) 93 v93) 94 v94) 95 v95) 96 v95) 97 v97) 98 v98) 99 v99) 100 v100) 101 v101) 102 v102) 103 v103) 104 v104) 105 v105) 106 v105) 107 v107) 108 v108) 109 v109) 110 v110) 111 v111) 112 v112) 113 v113) 114 (e_2 0)) 115 v115) 116 v116) 117 v117) 118 v118) 119 v119) 120 (.int .i64 0)) h_38)
              ) (
                I_1 (pt e_2 88 v88) h_22))
            (pt (pt (pt (pt (pt (pt (pt (pt (pt (pt (pt (pt e_1 77 v77) 78 v78) 79 v79) 80 v80) 8 v8) 81 (e_1 0)) 82 v82) 83 v83) 84 v84) 85 v85) 86 v86) 87 (.int .i64 0)) h_21
          ) (
            optW (rdRow true 2 (e_1 7) h_19) fun v154 =>
            optW (pNilCheck (e_1 0)) fun v155 =>
            optW (pOff 7 v155) fun v156 =>
            optW (pStore 2 v156 v154 h_19) fun h_56 =>
            K (.tuple #[]) h_56))
        (pt (pt (pt (pt (pt (pt (pt (pt (pt (pt e 55 v55) 56 v56) 70 (.map (some i_2))) 71 v71) 72 v72) 73 v73) 7 v7) 74 v74) 75 v75) 76 v76) h_17))
    (pt (pt (pt (pt (pt (pt (pt (pt (pt (pt (pt (pt (pt (pt (pt (pt (pt (pt (pt (pt (pt (pt (pt (pt (pt (pt (pt (pt (pt (pt (pt (pt (pt (pt (pt (pt (pt (pt (pt (pt (pt (envOf [a0, a1]) 13 a0) 14 v14) 15 v15) 16 v16) 17 v17) 18 v18) 22 a0) 23 v23) 24 v24) 25 v25) 26 a0) 27 v27) 28 v28) 29 v29) 30 v30) 31 v31) 32 v32) 33 v33) 4 v4) 34 a0) 35 a0) 36 v36) 37 v37) 38 v38) 39 a0) 40 v40) 41 v41) 42 v42) 43 v43) 44 v44) 45 v45) 46 v46) 47 v47) 48 (.map (some i))) 5 (.map (some i))) 49 a0) 50 v50) 51 v51) 52 v52) 53 v53) 54 v54) h_6)
theorem e71 (X : CallT) (a0 a1 : Value) (h : AH) (K : Value → AH → Prop) : cwp2 Try.prog X (Try.f71.body.getD .skip) (endW Try.prog Try.f71 K) (envOf [a0, a1]) h = s71 X a0 a1 h K := by kernel_rfl
theorem c71 {a0 a1 : Value} {h : AH} {K : Value → AH → Prop} (hs : s71 (callW Try.prog) a0 a1 h K) : callW Try.prog 71 [a0, a1] h K := callW_of Try.func71 (by kernel_rfl) (Eq.mpr (e71 _ a0 a1 _ _) hs)

/-- (*canopy/feed.run).inner (I at e: live [0, 1, 4, 20], writes [5, 7, 21, 22, 23, 24, 25, 26, 27, 28, 29, 30, 31, 32, 33, 34, 35, 36, 37, 38, 39, 40, 41, 42, 43, 44, 45, 46, 47, 48, 49, 50, 51, 52, 53]; I_1 at e_1: live [1, 4, 5, 29, 30, 31], writes [7, 31, 32, 33, 34, 35, 36, 37, 38, 39, 40, 41, 42, 43, 44, 45, 46, 47, 48, 49, 50, 51, 52, 53]) -/
def s72 (X : CallT) (a0 a1 : Value) (h : AH) (K : Value → AH → Prop) : Prop :=
  newW none (.map [] 0) h fun i h_1 =>
  optW (pNilCheck a0) fun v10 =>
  optW (pOff 7 v10) fun v11 =>
  optW (pOff 1 v11) fun v12 =>
  optW (rdRow false 1 v12 h_1) fun v13 =>
  optW (bld [(.map none), (.int .i64 0)] [(0, 1), (1, 1)] [(0, (.map (some i))), (1, v13)]) fun v14 =>
  newR none [(.map none), (.int .i64 0)] h_1 fun v4 h_2 =>
  optW (pStore 2 v4 v14 h_2) fun h_3 =>
  optW (pNilCheck a0) fun v16 =>
  optW (pOff 7 v16) fun v17 =>
  optW (pOff 0 v17) fun v18 =>
  optW (rdRow false 1 v18 h_3) fun v19 =>
  aRange Try.prog 88 v19 none h_3 fun v20 h_4 =>
  loopE (fun I e h_5 =>
    aNext (e 20) false h_5 fun v21 h_6 =>
    optW (pExtract v21 0) fun v22 =>
    condW v22 (
      optW (pEntry (e 20) h_6) fun v23 =>
      optW (pExtract v23 0) fun v24 =>
      newR none [(.int .i64 0), (.int .i64 0)] h_6 fun v5 h_7 =>
      optW (pStore 2 v5 v24 h_7) fun h_8 =>
      optW (pNilCheck (e 0)) fun v26 =>
      optW (pOff 0 v26) fun v27 =>
      optW (pOff 6 v27) fun v28 =>
      optW (rdRow false 1 v28 h_8) fun v29 =>
      optW (lenSl v29) fun v30 =>
      loopE (fun I_1 e_1 h_9 =>
        optW (pBin Try.prog .lss 3 (e_1 31) (e_1 30)) fun v32 =>
        condW v32 (
          optW (pIdxS 3 (e_1 29) (e_1 31)) fun v33 =>
          optW (rdRow true 3 v33 h_9) fun v34 =>
          newR none [(.int .i64 0), (.int .i64 0), (.int .i64 0)] h_9 fun v7 h_10 =>
          optW (pStore 3 v7 v34 h_10) fun h_11 =>
          optW (pOff 0 v7) fun v35 =>
          optW (rdRow false 1 v35 h_11) fun v36 =>
          optW (pOff 1 (e_1 5)) fun v37 =>
          optW (rdRow false 1 v37 h_11) fun v38 =>
          optW (pBin Try.prog .eql 3 v36 v38) fun v39 =>
          gopW (gB v39 true) (fun k =>
            optW (pOff 1 v7) fun v41_1 =>
            k v41_1 h_11) h_11 fun v41 h_12 =>
          gopW (gB v39 true) (fun k_1 =>
            optW (rdRow false 1 v41 h_12) fun v42_1 =>
            k_1 v42_1 h_12) h_12 fun v42 h_13 =>
          gopW (gB v39 true) (fun k_2 =>
            k_2 (e_1 1) h_13) h_13 fun v43 h_14 =>
          gopW (gB v39 true) (fun k_3 =>
            optW (pBin Try.prog .eql 3 v42 v43) fun v44_1 =>
            k_3 v44_1 h_14) h_14 fun v44 h_15 =>
          optW (pPick v39 v44 (.bool false)) fun v45 =>
          condW v45 (
            optW (pOff 0 (e_1 4)) fun v46 =>
            optW (rdRow false 1 v46 h_15) fun v47 =>
            optW (pOff 0 (e_1 5)) fun v48 =>
            optW (rdRow false 1 v48 h_15) fun v49 =>
            optW (pOff 2 v7) fun v50 =>
            optW (rdRow false 1 v50 h_15) fun v51 =>
            optW (bld [(.int .i64 0), (.int .i64 0)] [(0, 1), (1, 1)] [(0, v49), (1, v51)]) fun v52 =>
            optW (pMapUpd Try.prog 88 v47 v52 (.int .i64 1) h_15) fun h_16 =>
            optW (pBin Try.prog .add 3 (e_1 31) (.int .i64 1)) fun v53 =>
            I_1 (pt (pt (pt (pt (pt (pt (pt (pt (pt (pt (pt (pt (pt (pt (pt (pt (pt (pt (pt (pt (pt (pt (pt (pt e_1 32 v32) 33 v33) 34 v34) 7 v7) 35 v35) 36 v36) 37 v37) 38 v38) 39 v39) 40 v39) 41 v41) 42 v42) 43 v43) 44 v44) 45 v45) 46 v46) 47 v47) 48 v48) 49 v49) 50 v50) 51 v51) 52 v52) 53 v53) 31 v53) h_16
          ) (
            optW (pBin Try.prog .add 3 (e_1 31) (.int .i64 1)) fun v53_1 =>
            I_1 (pt (pt (pt (pt (pt (pt (pt (pt (pt (pt (pt (pt (pt (pt (pt (pt (pt e_1 32 v32) 33 v33) 34 v34) 7 v7) 35 v35) 36 v36) 37 v37) 38 v38) 39 v39) 40 v39) 41 v41) 42 v42) 43 v43) 44 v44) 45 v45) 53 v53_1) 31 v53_1) h_15)
        ) (
          I (pt e_1 32 v32) h_9))
      (pt (pt (pt (pt (pt (pt (pt (pt (pt (pt (pt (pt e 21 v21) 22 v22) 23 v23) 24 v24) 5 v5) 25 (e 0)) 26 v26) 27 v27) 28 v28) 29 v29) 30 v30) 31 (.int .i64 0)) h_8
    ) (
      optW (rdRow true 2 (e 4) h_6) fun v55 =>
      optW (pNilCheck (e 0)) fun v56 =>
      optW (pOff 7 v56) fun v57 =>
      optW (pStore 2 v57 v55 h_6) fun h_17 =>
      K (.tuple #[]) h_17))
  (pt (pt (pt (pt (pt (pt (pt (pt (pt (pt (pt (pt (pt (pt (envOf [a0, a1]) 8 (.map (some i))) 9 a0) 10 v10) 11 v11) 12 v12) 13 v13) 14 v14) 4 v4) 15 a0) 16 v16) 17 v17) 18 v18) 19 v19) 20 v20) h_4
theorem e72 (X : CallT) (a0 a1 : Value) (h : AH) (K : Value → AH → Prop) : cwp2 Try.prog X (Try.f72.body.getD .skip) (endW Try.prog Try.f72 K) (envOf [a0, a1]) h = s72 X a0 a1 h K := by kernel_rfl
theorem c72 {a0 a1 : Value} {h : AH} {K : Value → AH → Prop} (hs : s72 (callW Try.prog) a0 a1 h K) : callW Try.prog 72 [a0, a1] h K := callW_of Try.func72 (by kernel_rfl) (Eq.mpr (e72 _ a0 a1 _ _) hs)

/-- slices.Index[[]int,int] (I at e: live [0, 1, 7, 8], writes [4, 5, 8, 9, 10, 11, 12, 13, 14, 15, 16, 17, 18]) -/
def s73 (X : CallT) (a0 a1 : Value) (h : AH) (K : Value → AH → Prop) : Prop :=
  optW (lenSl a0) fun v7 =>
  loopE (fun I e h_1 =>
    optW (pBin Try.prog .lss 3 (e 8) (e 7)) fun v9 =>
    condW v9 (
      optW (pIdxS 1 (e 0) (e 8)) fun v14 =>
      optW (rdRow false 1 v14 h_1) fun v15 =>
      optW (pBin Try.prog .eql 3 (e 1) v15) fun v16 =>
      condW v16 (
        K (e 8) h_1
      ) (
        optW (pBin Try.prog .add 3 (e 8) (.int .i64 1)) fun v18 =>
        I (pt (pt (pt (pt (pt (pt (pt (pt (pt (pt (pt e 9 v9) 10 (e 8)) 5 (e 8)) 11 (e 1)) 12 (e 0)) 13 (e 8)) 14 v14) 15 v15) 16 v16) 18 v18) 8 v18) h_1)
    ) (
      K (.int .i64 (-1)) h_1))
  (pt (pt (pt (pt (envOf [a0, a1]) 4 (.int .i64 0)) 6 a0) 7 v7) 8 (.int .i64 0)) h
theorem e73 (X : CallT) (a0 a1 : Value) (h : AH) (K : Value → AH → Prop) : cwp2 Try.prog X (Try.f73.body.getD .skip) (endW Try.prog Try.f73 K) (envOf [a0, a1]) h = s73 X a0 a1 h K := by kernel_rfl
theorem c73 {a0 a1 : Value} {h : AH} {K : Value → AH → Prop} (hs : s73 (callW Try.prog) a0 a1 h K) : callW Try.prog 73 [a0, a1] h K := callW_of Try.func73 (by kernel_rfl) (Eq.mpr (e73 _ a0 a1 _ _) hs)

/-- canopy/canopyref1.Letters (I at e: live [0, 3], writes [2, 3, 4, 5, 6, 7, 8, 9, 10, 11, 12, 13, 14, 15, 16, 17, 18, 19]) -/
def s74 (X : CallT) (a0 : Value) (h : AH) (K : Value → AH → Prop) : Prop :=
  loopE (fun I e h_1 =>
    optW (lenStr (e 0)) fun v6 =>
    optW (pBin Try.prog .lss 3 (e 3) v6) fun v7 =>
    condW v7 (
      optW (pIdxStr (e 0) (e 3)) fun v12 =>
      optW (pBin Try.prog .lss 5 v12 (.int .u8 97)) fun v13 =>
      gopW (gB v13 false) (fun k =>
        k (e 0) h_1) h_1 fun v15 h_2 =>
      gopW (gB v13 false) (fun k_1 =>
        k_1 (e 3) h_2) h_2 fun v16 h_3 =>
      gopW (gB v13 false) (fun k_2 =>
        optW (pIdxStr v15 v16) fun v17_1 =>
        k_2 v17_1 h_3) h_3 fun v17 h_4 =>
      gopW (gB v13 false) (fun k_3 =>
        optW (pBin Try.prog .gtr 5 v17 (.int .u8 122)) fun v18_1 =>
        k_3 v18_1 h_4) h_4 fun v18 h_5 =>
      optW (pPick v13 (.bool true) v18) fun v19 =>
      condW v19 (
        K (.bool false) h_5
      ) (
        optW (pBin Try.prog .add 3 (e 3) (.int .i64 1)) fun v9 =>
        I (pt (pt (pt (pt (pt (pt (pt (pt (pt (pt (pt (pt (pt (pt (pt (pt (pt e 4 (e 3)) 5 (e 0)) 6 v6) 7 v7) 10 (e 0)) 11 (e 3)) 12 v12) 13 v13) 14 v13) 15 v15) 16 v16) 17 v17) 18 v18) 19 v19) 8 (e 3)) 9 v9) 3 v9) h_5)
    ) (
      optW (lenStr (e 0)) fun v21 =>
      optW (pBin Try.prog .gtr 3 v21 (.int .i64 0)) fun v22 =>
      gopW (gB v22 true) (fun k_4 =>
        k_4 (e 0) h_1) h_1 fun v24 h_6 =>
      gopW (gB v22 true) (fun k_5 =>
        optW (lenStr v24) fun v25_1 =>
        k_5 v25_1 h_6) h_6 fun v25 h_7 =>
      gopW (gB v22 true) (fun k_6 =>
        optW (pBin Try.prog .leq 3 v25 (.int .i64 8)) fun v26_1 =>
        k_6 v26_1 h_7) h_7 fun v26 h_8 =>
      optW (pPick v22 v26 (.bool false)) fun v27 =>
      K v27 h_8))
  (pt (pt (envOf [a0]) 2 (.bool false)) 3 (.int .i64 0)) h
theorem e74 (X : CallT) (a0 : Value) (h : AH) (K : Value → AH → Prop) : cwp2 Try.prog X (Try.f74.body.getD .skip) (endW Try.prog Try.f74 K) (envOf [a0]) h = s74 X a0 h K := by kernel_rfl
theorem c74 {a0 : Value} {h : AH} {K : Value → AH → Prop} (hs : s74 (callW Try.prog) a0 h K) : callW Try.prog 74 [a0] h K := callW_of Try.func74 (by kernel_rfl) (Eq.mpr (e74 _ a0 _ _) hs)

/-- (*canopy/feed.run).lowest (I at e: live [0, 1, 4, 20], writes [5, 7, 21, 22, 23, 24, 25, 26, 27, 28, 29, 30, 31, 32, 33, 34, 35, 36, 37, 38, 39, 40, 41, 42, 43, 44, 45, 46, 47, 48, 49, 50, 51, 52, 53, 54, 55, 56, 57, 58]; I_1 at e_1: live [1, 4, 5, 29, 30, 31], writes [7, 31, 32, 33, 34, 35, 36, 37, 38, 39, 40, 41, 42, 43, 44, 45, 46, 47, 48, 49, 50, 51, 52, 53, 54, 55, 56, 57, 58]) -/
def s75 (X : CallT) (a0 a1 : Value) (h : AH) (K : Value → AH → Prop) : Prop :=
  newW none (.map [] 0) h fun i h_1 =>
  optW (pNilCheck a0) fun v10 =>
  optW (pOff 7 v10) fun v11 =>
  optW (pOff 1 v11) fun v12 =>
  optW (rdRow false 1 v12 h_1) fun v13 =>
  optW (bld [(.map none), (.int .i64 0)] [(0, 1), (1, 1)] [(0, (.map (some i))), (1, v13)]) fun v14 =>
  newR none [(.map none), (.int .i64 0)] h_1 fun v4 h_2 =>
  optW (pStore 2 v4 v14 h_2) fun h_3 =>
  optW (pNilCheck a0) fun v16 =>
  optW (pOff 7 v16) fun v17 =>
  optW (pOff 0 v17) fun v18 =>
  optW (rdRow false 1 v18 h_3) fun v19 =>
  aRange Try.prog 88 v19 none h_3 fun v20 h_4 =>
  loopE (fun I e h_5 =>
    aNext (e 20) false h_5 fun v21 h_6 =>
    optW (pExtract v21 0) fun v22 =>
    condW v22 (
      optW (pEntry (e 20) h_6) fun v23 =>
      optW (pExtract v23 0) fun v24 =>
      newR none [(.int .i64 0), (.int .i64 0)] h_6 fun v5 h_7 =>
      optW (pStore 2 v5 v24 h_7) fun h_8 =>
      optW (pNilCheck (e 0)) fun v26 =>
      optW (pOff 0 v26) fun v27 =>
      optW (pOff 5 v27) fun v28 =>
      optW (rdRow false 1 v28 h_8) fun v29 =>
      optW (lenSl v29) fun v30 =>
      loopE (fun I_1 e_1 h_9 =>
        optW (pBin Try.prog .lss 3 (e_1 31) (e_1 30)) fun v32 =>
        condW v32 (
          optW (pIdxS 4 (e_1 29) (e_1 31)) fun v33 =>
          optW (rdRow true 4 v33 h_9) fun v34 =>
          newR none [(.int .i64 0), (.int .i64 0), (.int .i64 0), (.int .i64 0)] h_9 fun v7 h_10 =>
          optW (pStore 4 v7 v34 h_10) fun h_11 =>
          optW (pOff 0 v7) fun v35 =>
          optW (rdRow false 1 v35 h_11) fun v36 =>
          optW (pOff 1 (e_1 5)) fun v37 =>
          optW (rdRow false 1 v37 h_11) fun v38 =>
          optW (pBin Try.prog .eql 3 v36 v38) fun v39 =>
          gopW (gB v39 true) (fun k =>
            optW (pOff 1 v7) fun v41_1 =>
            k v41_1 h_11) h_11 fun v41 h_12 =>
          gopW (gB v39 true) (fun k_1 =>
            optW (rdRow false 1 v41 h_12) fun v42_1 =>
            k_1 v42_1 h_12) h_12 fun v42 h_13 =>
          gopW (gB v39 true) (fun k_2 =>
            k_2 (e_1 1) h_13) h_13 fun v43 h_14 =>
          gopW (gB v39 true) (fun k_3 =>
            optW (pBin Try.prog .eql 3 v42 v43) fun v44_1 =>
            k_3 v44_1 h_14) h_14 fun v44 h_15 =>
          optW (pPick v39 v44 (.bool false)) fun v45 =>
          gopW (gB v45 true) (fun k_4 =>
            optW (pOff 2 v7) fun v47_1 =>
            k_4 v47_1 h_15) h_15 fun v47 h_16 =>
          gopW (gB v45 true) (fun k_5 =>
            optW (rdRow false 1 v47 h_16) fun v48_1 =>
            k_5 v48_1 h_16) h_16 fun v48 h_17 =>
          gopW (gB v45 true) (fun k_6 =>
            optW (pBin Try.prog .eql 3 v48 (.int .i64 0)) fun v49_1 =>
            k_6 v49_1 h_17) h_17 fun v49 h_18 =>
          optW (pPick v45 v49 (.bool false)) fun v50 =>
          condW v50 (
            optW (pOff 0 (e_1 4)) fun v51 =>
            optW (rdRow false 1 v51 h_18) fun v52 =>
            optW (pOff 0 (e_1 5)) fun v53 =>
            optW (rdRow false 1 v53 h_18) fun v54 =>
            optW (pOff 3 v7) fun v55 =>
            optW (rdRow false 1 v55 h_18) fun v56 =>
            optW (bld [(.int .i64 0), (.int .i64 0)] [(0, 1), (1, 1)] [(0, v54), (1, v56)]) fun v57 =>
            optW (pMapUpd Try.prog 88 v52 v57 (.int .i64 1) h_18) fun h_19 =>
            optW (pBin Try.prog .add 3 (e_1 31) (.int .i64 1)) fun v58 =>
            I_1 (pt (pt (pt (pt (pt (pt (pt (pt (pt (pt (pt (pt (pt (pt (pt (pt (pt (pt (pt (pt (pt (pt (pt (pt (pt (pt (pt (pt (pt e_1 32 v32) 33 v33) 34 v34) 7 v7) 35 v35) 36 v36) 37 v37) 38 v38) 39 v39) 40 v39) 41 v41) 42 v42) 43 v43) 44 v44) 45 v45) 46 v45) 47 v47) 48 v48) 49 v49) 50 v50) 51 v51) 52 v52) 53 v53) 54 v54) 55 v55) 56 v56) 57 v57) 58 v58) 31 v58) h_19
          ) (
            optW (pBin Try.prog .add 3 (e_1 31) (.int .i64 1)) fun v58_1 =>
            I_1 (pt (pt (pt (pt (pt (pt (pt (pt (pt (pt (pt (pt (pt (pt (pt (pt (pt (pt (pt (pt (pt (pt e_1 32 v32) 33 v33) 34 v34) 7 v7) 35 v35) 36 v36) 37 v37) 38 v38) 39 v39) 40 v39) 41 v41) 42 v42) 43 v43) 44 v44) 45 v45) 46 v45) 47 v47) 48 v48) 49 v49) 50 v50) 58 v58_1) 31 v58_1) h_18)
        ) (
          I (pt e_1 32 v32) h_9))
      (pt (pt (pt (pt (pt (pt (pt (pt (pt (pt (pt (pt e 21 v21) 22 v22) 23 v23) 24 v24) 5 v5) 25 (e 0)) 26 v26) 27 v27) 28 v28) 29 v29) 30 v30) 31 (.int .i64 0)) h_8
    ) (
      optW (rdRow true 2 (e 4) h_6) fun v60 =>
      optW (pNilCheck (e 0)) fun v61 =>
      optW (pOff 7 v61) fun v62 =>
      optW (pStore 2 v62 v60 h_6) fun h_20 =>
      K (.tuple #[]) h_20))
  (pt (pt (pt (pt (pt (pt (pt (pt (pt (pt (pt (pt (pt (pt (envOf [a0, a1]) 8 (.map (some i))) 9 a0) 10 v10) 11 v11) 12 v12) 13 v13) 14 v14) 4 v4) 15 a0) 16 v16) 17 v17) 18 v18) 19 v19) 20 v20) h_4
theorem e75 (X : CallT) (a0 a1 : Value) (h : AH) (K : Value → AH → Prop) : cwp2 Try.prog X (Try.f75.body.getD .skip) (endW Try.prog Try.f75 K) (envOf [a0, a1]) h = s75 X a0 a1 h K := by kernel_rfl
theorem c75 {a0 a1 : Value} {h : AH} {K : Value → AH → Prop} (hs : s75 (callW Try.prog) a0 a1 h K) : callW Try.prog 75 [a0, a1] h K := callW_of Try.func75 (by kernel_rfl) (Eq.mpr (e75 _ a0 a1 _ _) hs)

end Go.Proofs.Ytebbjimmgblcpaa.W
end

section
/- Go functions, printed by a program as predicates on what may come behind; each is the function. Conditions: none. -/
namespace Go.Proofs.Ytebbjimmgblcpaa.W
open Go Go.AM
set_option linter.unusedVariables false
set_option maxRecDepth 100000

end Go.Proofs.Ytebbjimmgblcpaa.W
end

section
/- Go functions, printed by a program as predicates on what may come behind; each is the function. Conditions: none. -/
namespace Go.Proofs.Ytebbjimmgblcpaa.W
open Go Go.AM
set_option linter.unusedVariables false
set_option maxRecDepth 100000


/-- canopy/canopylaw14.FeedPlays (I at e: live [9, 21, 22, 25, 26, 27], writes [20, 27, 94, 95, 96, 97, 98, 99, 100, 101, 102, 103, 104, 105, 106, 107, 108, 109, 110, 111, 112, 113, 114, 115, 116, 117]) -/
def s3 (X : CallT) (a0 a1 a2 a3 a4 a5 a6 a7 a8 a9 : Value) (h : AH) (K : Value → AH → Prop) : Prop :=
  X 13 [] h fun v28 h_1 =>
  optW (pUn .not v28) fun v29 =>
  condW v29 (
    K (.bool false) h_1
  ) (
    optW (lenStr a7) fun v31 =>
    optW (pBin Try.prog .gtr 3 v31 (.int .i64 30)) fun v32 =>
    gopW (gB v32 false) (fun k =>
      k a8 h_1) h_1 fun v34 h_2 =>
    gopW (gB v32 false) (fun k_1 =>
      optW (lenStr v34) fun v35_1 =>
      k_1 v35_1 h_2) h_2 fun v35 h_3 =>
    gopW (gB v32 false) (fun k_2 =>
      optW (pBin Try.prog .gtr 3 v35 (.int .i64 100)) fun v36_1 =>
      k_2 v36_1 h_3) h_3 fun v36 h_4 =>
    optW (pPick v32 (.bool true) v36) fun v37 =>
    condW v37 (
      K (.bool true) h_4
    ) (
      X 14 [a0, a2] h_4 fun v40 h_5 =>
      X 15 [v40, a1, a2] h_5 fun v44 h_6 =>
      newR none [(.int .i64 0), (.int .i64 0), (.slice none 0 0), (.slice none 0 0), (.slice none 0 0), (.slice none 0 0), (.slice none 0 0)] h_6 fun v22 h_7 =>
      optW (pStore 7 v22 v44 h_7) fun h_8 =>
      X 17 [v40, a3, (.int .i64 8)] h_8 fun v48 h_9 =>
      X 16 [v40, v48, a5] h_9 fun v50 h_10 =>
      optW (lenStr v50) fun v53 =>
      optW (pBin Try.prog .add 3 v53 (.int .i64 1)) fun v54 =>
      X 18 [a5, v54] h_10 fun v55 h_11 =>
      optW (bldSl 1 [(.int .i64 0)] 6 [(0, (.int .i64 0)), (1, (.int .i64 1)), (2, (.int .i64 2)), (3, (.int .i64 3)), (4, (.int .i64 100)), (5, (.int .i64 (-1)))]) fun c =>
      newW none (.row c true) h_11 fun i h_12 =>
      X 18 [a4, (.int .i64 6)] h_12 fun v58 h_13 =>
      optW (pIdxS 1 (.slice (some ⟨i, 0, none⟩) 6 6) v58) fun v59 =>
      optW (rdRow false 1 v59 h_13) fun v60 =>
      X 19 [v50, a5, a6] (reserve 1 h_13) fun v65 h_14 =>
      optW (pSliceStr v50 none (some v55)) fun v68 =>
      optW (pSliceStr v50 none (some v55)) fun v71 =>
      optW (pBin Try.prog .add 9 v71 a7) fun v73 =>
      optW (pSliceStr v50 (some v55) none) fun v76 =>
      optW (pBin Try.prog .add 9 v73 v76) fun v77 =>
      optW (pBin Try.prog .add 9 v50 a8) fun v80 =>
      optW (pBin Try.prog .add 9 v50 (.string (bs [60, 97]))) fun v82 =>
      optW (pBin Try.prog .add 9 v50 (.string (bs [32, 97, 98, 99, 100, 101, 102, 103, 104, 105]))) fun v84 =>
      optW (pBin Try.prog .add 9 v50 (.string (bs [32, 60, 97, 98, 99, 100, 101, 102, 103, 104, 105, 62]))) fun v86 =>
      optW (pBin Try.prog .add 9 v50 (.string (bs [32, 122, 122, 32]))) fun v88 =>
      optW (pBin Try.prog .add 9 v50 (.string (bs [60, 47]))) fun v90 =>
      optW (pBin Try.prog .add 9 v50 (.string (bs [98, 49]))) fun v92 =>
      optW (bldSl 1 [(.string (bs []))] 11 [(0, v50), (1, v65), (2, v68), (3, v77), (4, v80), (5, v82), (6, v84), (7, v86), (8, v88), (9, v90), (10, v92)]) fun c_1 =>
      newW (some (h_13.length)) (.row c_1 true) h_14 fun i_1 h_15 =>
      loopE (fun I e h_16 =>
        optW (lenSl (e 26)) fun v96 =>
        optW (pBin Try.prog .lss 3 (e 27) v96) fun v97 =>
        condW v97 (
          optW (pIdxS 1 (e 26) (e 27)) fun v102 =>
          optW (rdRow false 1 v102 h_16) fun v103 =>
          X 20 [v103] h_16 fun v104 h_17 =>
          optW (pBin Try.prog .lss 3 v104 (.int .i64 7)) fun v105 =>
          gopD (gB v105 true) (fun k_3 =>
            k_3 (e 21) h_17 ((4, h_16, h_17) :: []) ((3, (idOf v102)) :: [])) h_17 ((4, h_16, h_17) :: []) ((3, (idOf v102)) :: []) fun v107 h_18 H S =>
          gopD (gB v105 true) (fun k_4 =>
            histC #[0, 0, 3, 7, 15, 31, 63, 127, 127, 127, 127, 127, 3199, 7295, 127, 32767, 65535, 131071] 8 (idOf (e 22)) H (
              optW (rdRow true 7 (e 22) h_18) fun v108_1 =>
              k_4 v108_1 h_18 H ((8, (idOf (e 22))) :: S))) h_18 H S fun v108 h_19 H_1 S_1 =>
          gopD (gB v105 true) (fun k_5 =>
            k_5 (e 25) h_19 H_1 S_1) h_19 H_1 S_1 fun v109 h_20 H_2 S_2 =>
          gopD (gB v105 true) (fun k_6 =>
            k_6 (e 26) h_20 H_2 S_2) h_20 H_2 S_2 fun v110 h_21 H_3 S_3 =>
          gopD (gB v105 true) (fun k_7 =>
            k_7 (e 27) h_21 H_3 S_3) h_21 H_3 S_3 fun v111 h_22 H_4 S_4 =>
          gopD (gB v105 true) (fun k_8 =>
            optW (pIdxS 1 v110 v111) fun v112_1 =>
            k_8 v112_1 h_22 H_4 S_4) h_22 H_4 S_4 fun v112 h_23 H_5 S_5 =>
          gopD (gB v105 true) (fun k_9 =>
            histC #[0, 0, 3, 7, 15, 31, 63, 127, 127, 127, 127, 127, 3199, 7295, 127, 32767, 65535, 131071] 13 (idOf v112) H_5 (
              optW (rdRow false 1 v112 h_23) fun v113_1 =>
              k_9 v113_1 h_23 H_5 ((13, (idOf v112)) :: S_5))) h_23 H_5 S_5 fun v113 h_24 H_6 S_6 =>
          gopD (gB v105 true) (fun k_10 =>
            k_10 (e 9) h_24 H_6 S_6) h_24 H_6 S_6 fun v114 h_25 H_7 S_7 =>
          gopD (gB v105 true) (fun k_11 =>
            X 21 [v107, v108, v109, v113, v114] h_25 fun v115_1 h_27 =>
            readC #[0, 0, 3, 7, 15, 31, 63, 127, 127, 127, 127, 127, 3199, 7295, 127, 32767, 65535, 131071] 15 h_25 h_27 S_7 (
              k_11 v115_1 h_27 ((15, h_25, h_27) :: H_7) S_7)) h_25 H_7 S_7 fun v115 h_26 H_8 S_8 =>
          gopD (gB v105 true) (fun k_12 =>
            optW (pUn .not v115) fun v116_1 =>
            k_12 v116_1 h_26 H_8 S_8) h_26 H_8 S_8 fun v116 h_28 H_9 S_9 =>
          optW (pPick v105 v116 (.bool false)) fun v117 =>
          condW v117 (
            K (.bool false) h_28
          ) (
            optW (pBin Try.prog .add 3 (e 27) (.int .i64 1)) fun v99 =>
            I (pt (pt (pt (pt (pt (pt (pt (pt (pt (pt (pt (pt (pt (pt (pt (pt (pt (pt (pt (pt (pt (pt (pt (pt (pt e 94 (e 27)) 95 (e 26)) 96 v96) 97 v97) 100 (e 26)) 101 (e 27)) 102 v102) 103 v103) 104 v104) 105 v105) 106 v105) 107 v107) 108 v108) 109 v109) 110 v110) 111 v111) 112 v112) 113 v113) 114 v114) 115 v115) 116 v116) 117 v117) 98 (e 27)) 99 v99) 27 v99) h_28)
        ) (
          K (.bool true) h_16))
      (pt (pt (pt (pt (pt (pt (pt (pt (pt (pt (pt (pt (pt (pt (pt (pt (pt (pt (pt (pt (pt (pt (pt (pt (pt (pt (pt (pt (pt (pt (pt (pt (pt (pt (pt (pt (pt (pt (pt (pt (pt (pt (pt (pt (pt (pt (pt (pt (pt (pt (pt (pt (pt (pt (pt (pt (pt (pt (pt (pt (pt (pt (pt (pt (pt (pt (pt (pt (pt (pt (pt (pt (pt (pt (envOf [a0, a1, a2, a3, a4, a5, a6, a7, a8, a9]) 20 (.bool false)) 28 v28) 29 v29) 30 a7) 31 v31) 32 v32) 33 v32) 34 v34) 35 v35) 36 v36) 37 v37) 38 a0) 39 a2) 40 v40) 21 v40) 41 v40) 42 a1) 43 a2) 44 v44) 22 v22) 45 v40) 46 v40) 47 a3) 48 v48) 49 a5) 50 v50) 23 v50) 51 a5) 52 v50) 53 v53) 54 v54) 55 v55) 24 v55) 56 (.slice (some ⟨i, 0, none⟩) 6 6)) 57 a4) 58 v58) 59 v59) 60 v60) 25 v60) 61 v50) 62 v50) 63 a5) 64 a6) 65 v65) 66 v50) 67 v55) 68 v68) 69 v50) 70 v55) 71 v71) 72 a7) 73 v73) 74 v50) 75 v55) 76 v76) 77 v77) 78 v50) 79 a8) 80 v80) 81 v50) 82 v82) 83 v50) 84 v84) 85 v50) 86 v86) 87 v50) 88 v88) 89 v50) 90 v90) 91 v50) 92 v92) 93 (.slice (some ⟨i_1, 0, none⟩) 11 11)) 26 (.slice (some ⟨i_1, 0, none⟩) 11 11)) 27 (.int .i64 0)) h_15))
theorem ee3 (X : CallT) (a0 a1 a2 a3 a4 a5 a6 a7 a8 a9 : Value) (h : AH) (K : Value → AH → Prop) : cwp2 Try.prog X (Try.f3.body.getD .skip) (endW Try.prog Try.f3 K) (envOf [a0, a1, a2, a3, a4, a5, a6, a7, a8, a9]) h = s3 X a0 a1 a2 a3 a4 a5 a6 a7 a8 a9 h K := by kernel_rfl
theorem c3 {a0 a1 a2 a3 a4 a5 a6 a7 a8 a9 : Value} {h : AH} {K : Value → AH → Prop} (hs : s3 (callW Try.prog) a0 a1 a2 a3 a4 a5 a6 a7 a8 a9 h K) : callW Try.prog 3 [a0, a1, a2, a3, a4, a5, a6, a7, a8, a9] h K := callW_of Try.func3 (by kernel_rfl) (Eq.mpr (ee3 _ a0 a1 a2 a3 a4 a5 a6 a7 a8 a9 _ _) hs)

end Go.Proofs.Ytebbjimmgblcpaa.W
end
