/- Go functions, printed by a program as predicates on what may come behind; each is the function. Conditions: none. -/
import Derived.Test.YtebbjimmgblcpaaQA1
import Derived.Test.YtebbjimmgblcpaaProg
namespace Go.Proofs.Ytebbjimmgblcpaa.W
open Go Go.AM
set_option linter.unusedVariables false
set_option maxRecDepth 100000

/-- (*canopy/canopyref14.Feed).inside () -/
def s56 (X : CallT) (a0 a1 : Value) (h : AH) (K : Value → AH → Prop) : Prop :=
  optW (pNilCheck a0) fun v6 =>
  optW (pOff 11 v6) fun v7 =>
  optW (rdRow false 1 v7 h) fun v8 =>
  X 66 [v8] h fun v9 h_1 =>
  X 58 [a1] h_1 fun v18 h_2 =>
  gopW (gB v18 true) (fun k =>
    k v9 h_2) h_2 fun v20 h_3 =>
  gopW (gB v18 true) (fun k_1 =>
    optW (pBin Try.prog .lss 3 v20 (.int .i64 8)) fun v21_1 =>
    k_1 v21_1 h_3) h_3 fun v21 h_4 =>
  optW (pPick v18 v21 (.bool false)) fun v22 =>
  condW v22 (
    optW (pNilCheck a0) fun v25 =>
    optW (pOff 11 v25) fun v26 =>
    optW (rdRow false 1 v26 (reserve 1 h_4)) fun v27 =>
    optW (bldSl 1 [(.int .u8 0)] 1 [(0, a1)]) fun c =>
    newW (some (h_4.length)) (.row c true) (reserve 1 h_4) fun i h_5 =>
    optW (pBytesStr (.slice (some ⟨i, 0, none⟩) 1 1) h_5) fun v30 =>
    optW (pBin Try.prog .add 9 v27 v30) fun v31 =>
    optW (pNilCheck a0) fun v32 =>
    optW (pOff 11 v32) fun v33 =>
    optW (pStore 1 v33 v31 h_5) fun h_6 =>
    K (.tuple #[]) h_6
  ) (
    optW (pBin Try.prog .eql 5 a1 (.int .u8 47)) fun v36 =>
    gopW (gB v36 true) (fun k_2 =>
      k_2 a0 h_4) h_4 fun v38 h_7 =>
    gopW (gB v36 true) (fun k_3 =>
      optW (pNilCheck v38) fun v39_1 =>
      k_3 v39_1 h_7) h_7 fun v39 h_8 =>
    gopW (gB v36 true) (fun k_4 =>
      optW (pOff 11 v39) fun v40_1 =>
      k_4 v40_1 h_8) h_8 fun v40 h_9 =>
    gopW (gB v36 true) (fun k_5 =>
      optW (rdRow false 1 v40 h_9) fun v41_1 =>
      k_5 v41_1 h_9) h_9 fun v41 h_10 =>
    gopW (gB v36 true) (fun k_6 =>
      optW (pBin Try.prog .eql 9 v41 (.string (bs [60]))) fun v42_1 =>
      k_6 v42_1 h_10) h_10 fun v42 h_11 =>
    optW (pPick v36 v42 (.bool false)) fun v43 =>
    condW v43 (
      optW (pNilCheck a0) fun v45 =>
      optW (pOff 11 v45) fun v46 =>
      optW (pStore 1 v46 (.string (bs [60, 47])) h_11) fun h_12 =>
      K (.tuple #[]) h_12
    ) (
      optW (pBin Try.prog .eql 5 a1 (.int .u8 62)) fun v49 =>
      gopW (gB v49 true) (fun k_7 =>
        k_7 a0 h_11) h_11 fun v51 h_13 =>
      gopW (gB v49 true) (fun k_8 =>
        optW (pNilCheck v51) fun v52_1 =>
        k_8 v52_1 h_13) h_13 fun v52 h_14 =>
      gopW (gB v49 true) (fun k_9 =>
        optW (pOff 11 v52) fun v53_1 =>
        k_9 v53_1 h_14) h_14 fun v53 h_15 =>
      gopW (gB v49 true) (fun k_10 =>
        optW (rdRow false 1 v53 h_15) fun v54_1 =>
        k_10 v54_1 h_15) h_15 fun v54 h_16 =>
      gopW (gB v49 true) (fun k_11 =>
        optW (pIdxStr v54 (.int .i64 0)) fun v55_1 =>
        k_11 v55_1 h_16) h_16 fun v55 h_17 =>
      gopW (gB v49 true) (fun k_12 =>
        optW (pBin Try.prog .eql 5 v55 (.int .u8 60)) fun v56_1 =>
        k_12 v56_1 h_17) h_17 fun v56 h_18 =>
      optW (pPick v49 v56 (.bool false)) fun v57 =>
      gopW (gB v57 true) (fun k_13 =>
        k_13 v9 h_18) h_18 fun v59 h_19 =>
      gopW (gB v57 true) (fun k_14 =>
        optW (pBin Try.prog .gtr 3 v59 (.int .i64 0)) fun v60_1 =>
        k_14 v60_1 h_19) h_19 fun v60 h_20 =>
      optW (pPick v57 v60 (.bool false)) fun v61 =>
      condW v61 (
        optW (pNilCheck a0) fun v64 =>
        optW (pOff 11 v64) fun v65 =>
        optW (rdRow false 1 v65 h_20) fun v66 =>
        optW (pBin Try.prog .add 9 v66 (.string (bs [62]))) fun v67 =>
        optW (pNilCheck a0) fun v68 =>
        optW (pOff 11 v68) fun v69 =>
        optW (pStore 1 v69 v67 h_20) fun h_21 =>
        X 59 [a0] h_21 fun v71 h_22 =>
        K (.tuple #[]) h_22
      ) (
        optW (pNilCheck a0) fun v74 =>
        optW (pOff 11 v74) fun v75 =>
        optW (rdRow false 1 v75 h_20) fun v76 =>
        optW (pIdxStr v76 (.int .i64 0)) fun v77 =>
        X 58 [v77] h_20 fun v78 h_23 =>
        gopW (gB v78 true) (fun k_15 =>
          k_15 a1 h_23) h_23 fun v80 h_24 =>
        gopW (gB v78 true) (fun k_16 =>
          X 58 [v80] h_24 fun v81_1 h_26 =>
          k_16 v81_1 h_26) h_24 fun v81 h_25 =>
        gopW (gB v78 true) (fun k_17 =>
          optW (pUn .not v81) fun v82_1 =>
          k_17 v82_1 h_25) h_25 fun v82 h_27 =>
        optW (pPick v78 v82 (.bool false)) fun v83 =>
        condW v83 (
          X 59 [a0] h_27 fun v85 h_28 =>
          optW (pNilCheck a0) fun v87 =>
          optW (pOff 14 v87) fun v88 =>
          optW (rdRow false 1 v88 h_28) fun v89 =>
          optW (pBin Try.prog .eql 3 v89 (.int .i64 0)) fun v90 =>
          condW v90 (
            X 57 [a0, a1] h_28 fun v93 h_29 =>
            K (.tuple #[]) h_29
          ) (
            K (.tuple #[]) h_28)
        ) (
          optW (pNilCheck a0) fun v12 =>
          optW (pOff 10 v12) fun v13 =>
          optW (rdRow false 1 v13 h_27) fun v14 =>
          X 60 [a0, (.int .i64 12), v14] h_27 fun v15 h_30 =>
          K (.tuple #[]) h_30))))
theorem e56 (X : CallT) (a0 a1 : Value) (h : AH) (K : Value → AH → Prop) : cwp2 Try.prog X (Try.f56.body.getD .skip) (endW Try.prog Try.f56 K) (envOf [a0, a1]) h = s56 X a0 a1 h K := by kernel_rfl
theorem c56 {a0 a1 : Value} {h : AH} {K : Value → AH → Prop} (hs : s56 (callW Try.prog) a0 a1 h K) : callW Try.prog 56 [a0, a1] h K := callW_of Try.func56 (by kernel_rfl) (Eq.mpr (e56 _ a0 a1 _ _) hs)

/-- (*canopy/canopyref14.Feed).outside () -/
def s57 (X : CallT) (a0 a1 : Value) (h : AH) (K : Value → AH → Prop) : Prop :=
  optW (pBin Try.prog .eql 5 a1 (.int .u8 32)) fun v12 =>
  gopW (gB v12 false) (fun k =>
    k a1 h) h fun v14 h_1 =>
  gopW (gB v12 false) (fun k_1 =>
    optW (pBin Try.prog .eql 5 v14 (.int .u8 9)) fun v15_1 =>
    k_1 v15_1 h_1) h_1 fun v15 h_2 =>
  optW (pPick v12 (.bool true) v15) fun v16 =>
  gopW (gB v16 false) (fun k_2 =>
    k_2 a1 h_2) h_2 fun v18 h_3 =>
  gopW (gB v16 false) (fun k_3 =>
    optW (pBin Try.prog .eql 5 v18 (.int .u8 10)) fun v19_1 =>
    k_3 v19_1 h_3) h_3 fun v19 h_4 =>
  optW (pPick v16 (.bool true) v19) fun v20 =>
  condW v20 (
    K (.tuple #[]) h_4
  ) (
    optW (pBin Try.prog .eql 5 a1 (.int .u8 60)) fun v23 =>
    gopW (gB v23 false) (fun k_4 =>
      k_4 a1 h_4) h_4 fun v25 h_5 =>
    gopW (gB v23 false) (fun k_5 =>
      X 58 [v25] h_5 fun v26_1 h_7 =>
      k_5 v26_1 h_7) h_5 fun v26 h_6 =>
    optW (pPick v23 (.bool true) v26) fun v27 =>
    condW v27 (
      optW (pNilCheck a0) fun v31 =>
      optW (pOff 9 v31) fun v32 =>
      optW (rdRow false 1 v32 (reserve 1 h_6)) fun v33 =>
      optW (bldSl 1 [(.int .u8 0)] 1 [(0, a1)]) fun c =>
      newW (some (h_6.length)) (.row c true) (reserve 1 h_6) fun i h_8 =>
      optW (pBytesStr (.slice (some ⟨i, 0, none⟩) 1 1) h_8) fun v36 =>
      optW (pNilCheck a0) fun v37 =>
      optW (pOff 10 v37) fun v38 =>
      optW (pStore 1 v38 v33 h_8) fun h_9 =>
      optW (pNilCheck a0) fun v39 =>
      optW (pOff 11 v39) fun v40 =>
      optW (pStore 1 v40 v36 h_9) fun h_10 =>
      K (.tuple #[]) h_10
    ) (
      optW (pNilCheck a0) fun v6 =>
      optW (pOff 9 v6) fun v7 =>
      optW (rdRow false 1 v7 h_6) fun v8 =>
      X 60 [a0, (.int .i64 12), v8] h_6 fun v9 h_11 =>
      K (.tuple #[]) h_11))
theorem e57 (X : CallT) (a0 a1 : Value) (h : AH) (K : Value → AH → Prop) : cwp2 Try.prog X (Try.f57.body.getD .skip) (endW Try.prog Try.f57 K) (envOf [a0, a1]) h = s57 X a0 a1 h K := by kernel_rfl
theorem c57 {a0 a1 : Value} {h : AH} {K : Value → AH → Prop} (hs : s57 (callW Try.prog) a0 a1 h K) : callW Try.prog 57 [a0, a1] h K := callW_of Try.func57 (by kernel_rfl) (Eq.mpr (e57 _ a0 a1 _ _) hs)

/-- canopy/canopyref14.letter () -/
def s58 (X : CallT) (a0 : Value) (h : AH) (K : Value → AH → Prop) : Prop :=
  optW (pBin Try.prog .geq 5 a0 (.int .u8 97)) fun v4 =>
  gopW (gB v4 true) (fun k =>
    k a0 h) h fun v6 h_1 =>
  gopW (gB v4 true) (fun k_1 =>
    optW (pBin Try.prog .leq 5 v6 (.int .u8 122)) fun v7_1 =>
    k_1 v7_1 h_1) h_1 fun v7 h_2 =>
  optW (pPick v4 v7 (.bool false)) fun v8 =>
  K v8 h_2
theorem e58 (X : CallT) (a0 : Value) (h : AH) (K : Value → AH → Prop) : cwp2 Try.prog X (Try.f58.body.getD .skip) (endW Try.prog Try.f58 K) (envOf [a0]) h = s58 X a0 h K := by kernel_rfl
theorem c58 {a0 : Value} {h : AH} {K : Value → AH → Prop} (hs : s58 (callW Try.prog) a0 h K) : callW Try.prog 58 [a0] h K := callW_of Try.func58 (by kernel_rfl) (Eq.mpr (e58 _ a0 _ _) hs)

/-- (*canopy/canopyref14.Feed).whole () -/
def s59 (X : CallT) (a0 : Value) (h : AH) (K : Value → AH → Prop) : Prop :=
  optW (pNilCheck a0) fun v7 =>
  optW (pOff 11 v7) fun v8 =>
  optW (rdRow false 1 v8 h) fun v9 =>
  X 67 [v9] h fun v10 h_1 =>
  optW (pExtract v10 0) fun v11 =>
  optW (pExtract v10 1) fun v12 =>
  newR none [(.string (bs [])), (.int .i64 0)] h_1 fun v2 h_2 =>
  optW (pStore 2 v2 v11 h_2) fun h_3 =>
  optW (pNilCheck a0) fun v14 =>
  optW (pOff 0 v14) fun v15 =>
  optW (rdRow false 1 v15 h_3) fun v16 =>
  optW (rdRow true 2 v2 h_3) fun v17 =>
  X 68 [v16, v17] h_3 fun v18 h_4 =>
  optW (pNilCheck a0) fun v20 =>
  optW (pOff 11 v20) fun v21 =>
  optW (pStore 1 v21 (.string (bs [])) h_4) fun h_5 =>
  optW (pUn .not v12) fun v23 =>
  gopW (gB v23 false) (fun k =>
    k v18 h_5) h_5 fun v25 h_6 =>
  gopW (gB v23 false) (fun k_1 =>
    optW (pBin Try.prog .lss 3 v25 (.int .i64 0)) fun v26_1 =>
    k_1 v26_1 h_6) h_6 fun v26 h_7 =>
  optW (pPick v23 (.bool true) v26) fun v27 =>
  condW v27 (
    optW (pNilCheck a0) fun v30 =>
    optW (pOff 10 v30) fun v31 =>
    optW (rdRow false 1 v31 h_7) fun v32 =>
    X 60 [a0, (.int .i64 12), v32] h_7 fun v33 h_8 =>
    K (.tuple #[]) h_8
  ) (
    optW (pOff 1 v2) fun v34 =>
    optW (rdRow false 1 v34 h_7) fun v35 =>
    optW (pBin Try.prog .eql 3 v35 (.int .i64 1)) fun v36 =>
    gopD (gB v36 true) (fun k_2 =>
      k_2 a0 h_7 [] ((1, (idOf v34)) :: [])) h_7 [] ((1, (idOf v34)) :: []) fun v38 h_9 H S =>
    gopD (gB v36 true) (fun k_3 =>
      optW (pNilCheck v38) fun v39_1 =>
      k_3 v39_1 h_9 H S) h_9 H S fun v39 h_10 H_1 S_1 =>
    gopD (gB v36 true) (fun k_4 =>
      optW (pOff 13 v39) fun v40_1 =>
      k_4 v40_1 h_10 H_1 S_1) h_10 H_1 S_1 fun v40 h_11 H_2 S_2 =>
    gopD (gB v36 true) (fun k_5 =>
      histC #[0, 1, 3, 7, 15, 31, 63, 127, 15, 271, 783, 1807, 4095, 8191] 7 (idOf v40) H_2 (
        optW (rdRow false 1 v40 h_11) fun v41_1 =>
        k_5 v41_1 h_11 H_2 ((7, (idOf v40)) :: S_2))) h_11 H_2 S_2 fun v41 h_12 H_3 S_3 =>
    gopD (gB v36 true) (fun k_6 =>
      k_6 a0 h_12 H_3 S_3) h_12 H_3 S_3 fun v42 h_13 H_4 S_4 =>
    gopD (gB v36 true) (fun k_7 =>
      optW (pNilCheck v42) fun v43_1 =>
      k_7 v43_1 h_13 H_4 S_4) h_13 H_4 S_4 fun v43 h_14 H_5 S_5 =>
    gopD (gB v36 true) (fun k_8 =>
      optW (pOff 8 v43) fun v44_1 =>
      k_8 v44_1 h_14 H_5 S_5) h_14 H_5 S_5 fun v44 h_15 H_6 S_6 =>
    gopD (gB v36 true) (fun k_9 =>
      histC #[0, 1, 3, 7, 15, 31, 63, 127, 15, 271, 783, 1807, 4095, 8191] 11 (idOf v44) H_6 (
        optW (rdRow false 1 v44 h_15) fun v45_1 =>
        k_9 v45_1 h_15 H_6 ((11, (idOf v44)) :: S_6))) h_15 H_6 S_6 fun v45 h_16 H_7 S_7 =>
    gopD (gB v36 true) (fun k_10 =>
      optW (pBin Try.prog .geq 3 v41 v45) fun v46_1 =>
      k_10 v46_1 h_16 H_7 S_7) h_16 H_7 S_7 fun v46 h_17 H_8 S_8 =>
    optW (pPick v36 v46 (.bool false)) fun v47 =>
    condW v47 (
      optW (pNilCheck a0) fun v50 =>
      optW (pOff 10 v50) fun v51 =>
      optW (rdRow false 1 v51 h_17) fun v52 =>
      X 60 [a0, (.int .i64 13), v52] h_17 fun v53 h_18 =>
      K (.tuple #[]) h_18
    ) (
      optW (pOff 1 v2) fun v54 =>
      optW (rdRow false 1 v54 h_17) fun v55 =>
      optW (pBin Try.prog .eql 3 v55 (.int .i64 1)) fun v56 =>
      condW v56 (
        optW (pNilCheck a0) fun v58 =>
        optW (pOff 13 v58) fun v59 =>
        optW (rdRow false 1 v59 h_17) fun v60 =>
        optW (pBin Try.prog .add 3 v60 (.int .i64 1)) fun v61 =>
        optW (pNilCheck a0) fun v62 =>
        optW (pOff 13 v62) fun v63 =>
        optW (pStore 1 v63 v61 h_17) fun h_19 =>
        optW (pOff 1 v2) fun v64 =>
        optW (rdRow false 1 v64 h_19) fun v65 =>
        optW (pBin Try.prog .eql 3 v65 (.int .i64 2)) fun v66 =>
        condW v66 (
          optW (pNilCheck a0) fun v69 =>
          optW (pOff 13 v69) fun v70 =>
          optW (rdRow false 1 v70 h_19) fun v71 =>
          optW (pBin Try.prog .sub 3 v71 (.int .i64 1)) fun v72 =>
          optW (pMax2 true v72 (.int .i64 0)) fun v73 =>
          optW (pNilCheck a0) fun v74 =>
          optW (pOff 13 v74) fun v75 =>
          optW (pStore 1 v75 v73 h_19) fun h_20 =>
          optW (pNilCheck a0) fun v78 =>
          optW (pOff 12 v78) fun v79 =>
          optW (rdRow false 1 v79 h_20) fun v80 =>
          optW (bldSl 1 [(.int .i64 0)] 1 [(0, v18)]) fun c =>
          newW none (.row c true) h_20 fun i h_21 =>
          appSl 1 v80 (.slice (some ⟨i, 0, none⟩) 1 1) h_21 fun v83 h_22 =>
          optW (pNilCheck a0) fun v84 =>
          optW (pOff 12 v84) fun v85 =>
          optW (pStore 1 v85 v83 h_22) fun h_23 =>
          K (.tuple #[]) h_23
        ) (
          optW (pNilCheck a0) fun v78_1 =>
          optW (pOff 12 v78_1) fun v79_1 =>
          optW (rdRow false 1 v79_1 h_19) fun v80_1 =>
          optW (bldSl 1 [(.int .i64 0)] 1 [(0, v18)]) fun c_1 =>
          newW none (.row c_1 true) h_19 fun i_1 h_24 =>
          appSl 1 v80_1 (.slice (some ⟨i_1, 0, none⟩) 1 1) h_24 fun v83_1 h_25 =>
          optW (pNilCheck a0) fun v84_1 =>
          optW (pOff 12 v84_1) fun v85_1 =>
          optW (pStore 1 v85_1 v83_1 h_25) fun h_26 =>
          K (.tuple #[]) h_26)
      ) (
        optW (pOff 1 v2) fun v64_1 =>
        optW (rdRow false 1 v64_1 h_17) fun v65_1 =>
        optW (pBin Try.prog .eql 3 v65_1 (.int .i64 2)) fun v66_1 =>
        condW v66_1 (
          optW (pNilCheck a0) fun v69_1 =>
          optW (pOff 13 v69_1) fun v70_1 =>
          optW (rdRow false 1 v70_1 h_17) fun v71_1 =>
          optW (pBin Try.prog .sub 3 v71_1 (.int .i64 1)) fun v72_1 =>
          optW (pMax2 true v72_1 (.int .i64 0)) fun v73_1 =>
          optW (pNilCheck a0) fun v74_1 =>
          optW (pOff 13 v74_1) fun v75_1 =>
          optW (pStore 1 v75_1 v73_1 h_17) fun h_27 =>
          optW (pNilCheck a0) fun v78_2 =>
          optW (pOff 12 v78_2) fun v79_2 =>
          optW (rdRow false 1 v79_2 h_27) fun v80_2 =>
          optW (bldSl 1 [(.int .i64 0)] 1 [(0, v18)]) fun c_2 =>
          newW none (.row c_2 true) h_27 fun i_2 h_28 =>
          appSl 1 v80_2 (.slice (some ⟨i_2, 0, none⟩) 1 1) h_28 fun v83_2 h_29 =>
          optW (pNilCheck a0) fun v84_2 =>
          optW (pOff 12 v84_2) fun v85_2 =>
          optW (pStore 1 v85_2 v83_2 h_29) fun h_30 =>
          K (.tuple #[]) h_30
        ) (
          optW (pNilCheck a0) fun v78_3 =>
          optW (pOff 12 v78_3) fun v79_3 =>
          optW (rdRow false 1 v79_3 h_17) fun v80_3 =>
          optW (bldSl 1 [(.int .i64 0)] 1 [(0, v18)]) fun c_3 =>
          newW none (.row c_3 true) h_17 fun i_3 h_31 =>
          appSl 1 v80_3 (.slice (some ⟨i_3, 0, none⟩) 1 1) h_31 fun v83_3 h_32 =>
          optW (pNilCheck a0) fun v84_3 =>
          optW (pOff 12 v84_3) fun v85_3 =>
          optW (pStore 1 v85_3 v83_3 h_32) fun h_33 =>
          K (.tuple #[]) h_33))))
theorem e59 (X : CallT) (a0 : Value) (h : AH) (K : Value → AH → Prop) : cwp2 Try.prog X (Try.f59.body.getD .skip) (endW Try.prog Try.f59 K) (envOf [a0]) h = s59 X a0 h K := by kernel_rfl
theorem c59 {a0 : Value} {h : AH} {K : Value → AH → Prop} (hs : s59 (callW Try.prog) a0 h K) : callW Try.prog 59 [a0] h K := callW_of Try.func59 (by kernel_rfl) (Eq.mpr (e59 _ a0 _ _) hs)

/-- (*canopy/canopyref14.Feed).wrong () -/
def s60 (X : CallT) (a0 a1 a2 : Value) (h : AH) (K : Value → AH → Prop) : Prop :=
  optW (pNilCheck a0) fun v10 =>
  optW (pOff 14 v10) fun v11 =>
  optW (pStore 1 v11 a1 h) fun h_1 =>
  optW (pNilCheck a0) fun v12 =>
  optW (pOff 15 v12) fun v13 =>
  optW (pStore 1 v13 a2 h_1) fun h_2 =>
  K (.tuple #[]) h_2
theorem e60 (X : CallT) (a0 a1 a2 : Value) (h : AH) (K : Value → AH → Prop) : cwp2 Try.prog X (Try.f60.body.getD .skip) (endW Try.prog Try.f60 K) (envOf [a0, a1, a2]) h = s60 X a0 a1 a2 h K := by kernel_rfl
theorem c60 {a0 a1 a2 : Value} {h : AH} {K : Value → AH → Prop} (hs : s60 (callW Try.prog) a0 a1 a2 h K) : callW Try.prog 60 [a0, a1, a2] h K := callW_of Try.func60 (by kernel_rfl) (Eq.mpr (e60 _ a0 a1 a2 _ _) hs)

/-- canopy/feed.letter () -/
def s61 (X : CallT) (a0 : Value) (h : AH) (K : Value → AH → Prop) : Prop :=
  optW (pBin Try.prog .geq 5 a0 (.int .u8 97)) fun v4 =>
  gopW (gB v4 true) (fun k =>
    k a0 h) h fun v6 h_1 =>
  gopW (gB v4 true) (fun k_1 =>
    optW (pBin Try.prog .leq 5 v6 (.int .u8 122)) fun v7_1 =>
    k_1 v7_1 h_1) h_1 fun v7 h_2 =>
  optW (pPick v4 v7 (.bool false)) fun v8 =>
  K v8 h_2
theorem e61 (X : CallT) (a0 : Value) (h : AH) (K : Value → AH → Prop) : cwp2 Try.prog X (Try.f61.body.getD .skip) (endW Try.prog Try.f61 K) (envOf [a0]) h = s61 X a0 h K := by kernel_rfl
theorem c61 {a0 : Value} {h : AH} {K : Value → AH → Prop} (hs : s61 (callW Try.prog) a0 h K) : callW Try.prog 61 [a0] h K := callW_of Try.func61 (by kernel_rfl) (Eq.mpr (e61 _ a0 _ _) hs)

/-- (*canopy/feed.Feed).first () -/
def s62 (X : CallT) (a0 a1 : Value) (h : AH) (K : Value → AH → Prop) : Prop :=
  optW (pBin Try.prog .eql 5 a1 (.int .u8 32)) fun v12 =>
  gopW (gB v12 false) (fun k =>
    k a1 h) h fun v14 h_1 =>
  gopW (gB v12 false) (fun k_1 =>
    optW (pBin Try.prog .eql 5 v14 (.int .u8 9)) fun v15_1 =>
    k_1 v15_1 h_1) h_1 fun v15 h_2 =>
  optW (pPick v12 (.bool true) v15) fun v16 =>
  gopW (gB v16 false) (fun k_2 =>
    k_2 a1 h_2) h_2 fun v18 h_3 =>
  gopW (gB v16 false) (fun k_3 =>
    optW (pBin Try.prog .eql 5 v18 (.int .u8 10)) fun v19_1 =>
    k_3 v19_1 h_3) h_3 fun v19 h_4 =>
  optW (pPick v16 (.bool true) v19) fun v20 =>
  condW v20 (
    K (.tuple #[]) h_4
  ) (
    X 61 [a1] h_4 fun v23 h_5 =>
    gopW (gB v23 false) (fun k_4 =>
      k_4 a1 h_5) h_5 fun v25 h_6 =>
    gopW (gB v23 false) (fun k_5 =>
      optW (pBin Try.prog .eql 5 v25 (.int .u8 60)) fun v26_1 =>
      k_5 v26_1 h_6) h_6 fun v26 h_7 =>
    optW (pPick v23 (.bool true) v26) fun v27 =>
    condW v27 (
      optW (pNilCheck a0) fun v31 =>
      optW (pOff 10 v31) fun v32 =>
      optW (pOff 0 v32) fun v33 =>
      optW (rdRow false 1 v33 (reserve 1 h_7)) fun v34 =>
      optW (bldSl 1 [(.int .u8 0)] 1 [(0, a1)]) fun c =>
      newW (some (h_7.length)) (.row c true) (reserve 1 h_7) fun i h_8 =>
      appSl 1 v34 (.slice (some ⟨i, 0, none⟩) 1 1) h_8 fun v37 h_9 =>
      optW (pNilCheck a0) fun v39 =>
      optW (pOff 14 v39) fun v40 =>
      (∀ x ∈ (idOf v40), (h_8 : AH)[x]? = (h_9 : AH)[x]?) ∧
      (∀ x ∈ (idOf v40), ((reserve 1 h_7) : AH)[x]? = (h_8 : AH)[x]?) ∧
      optW (rdRow false 1 v40 h_9) fun v41 =>
      optW (pNilCheck a0) fun v42 =>
      optW (pOff 10 v42) fun v43 =>
      optW (pOff 0 v43) fun v44 =>
      optW (pStore 1 v44 v37 h_9) fun h_10 =>
      optW (pNilCheck a0) fun v45 =>
      optW (pOff 10 v45) fun v46 =>
      optW (pOff 1 v46) fun v47 =>
      optW (pStore 1 v47 v41 h_10) fun h_11 =>
      K (.tuple #[]) h_11
    ) (
      optW (pNilCheck a0) fun v6 =>
      optW (pOff 14 v6) fun v7 =>
      optW (rdRow false 1 v7 h_7) fun v8 =>
      X 48 [a0, (.int .i64 12), v8] h_7 fun v9 h_12 =>
      K (.tuple #[]) h_12))
theorem e62 (X : CallT) (a0 a1 : Value) (h : AH) (K : Value → AH → Prop) : cwp2 Try.prog X (Try.f62.body.getD .skip) (endW Try.prog Try.f62 K) (envOf [a0, a1]) h = s62 X a0 a1 h K := by kernel_rfl
theorem c62 {a0 a1 : Value} {h : AH} {K : Value → AH → Prop} (hs : s62 (callW Try.prog) a0 a1 h K) : callW Try.prog 62 [a0, a1] h K := callW_of Try.func62 (by kernel_rfl) (Eq.mpr (e62 _ a0 a1 _ _) hs)

/-- (*canopy/feed.Feed).more (J at e: live [0, 1, 4, 5]) -/
def s63 (X : CallT) (a0 a1 : Value) (h : AH) (K : Value → AH → Prop) : Prop :=
  joinE (fun J =>
    optW (pNilCheck a0) fun v8 =>
    optW (pOff 10 v8) fun v9 =>
    optW (pOff 0 v9) fun v10 =>
    optW (rdRow false 1 v10 h) fun v11 =>
    optW (pIdxS 1 v11 (.int .i64 0)) fun v12 =>
    optW (rdRow false 1 v12 h) fun v13 =>
    optW (pBin Try.prog .eql 5 v13 (.int .u8 60)) fun v14 =>
    condW v14 (
      optW (pNilCheck a0) fun v16 =>
      optW (pOff 10 v16) fun v17 =>
      optW (pOff 0 v17) fun v18 =>
      optW (rdRow false 1 v18 h) fun v19 =>
      optW (lenSl v19) fun v20 =>
      optW (pBin Try.prog .gtr 3 v20 (.int .i64 1)) fun v21 =>
      gopW (gB v21 true) (fun k_14 =>
        k_14 a0 h) h fun v23 h_27 =>
      gopW (gB v21 true) (fun k_15 =>
        optW (pNilCheck v23) fun v24_1 =>
        k_15 v24_1 h_27) h_27 fun v24 h_28 =>
      gopW (gB v21 true) (fun k_16 =>
        optW (pOff 10 v24) fun v25_1 =>
        k_16 v25_1 h_28) h_28 fun v25 h_29 =>
      gopW (gB v21 true) (fun k_17 =>
        optW (pOff 0 v25) fun v26_1 =>
        k_17 v26_1 h_29) h_29 fun v26 h_30 =>
      gopW (gB v21 true) (fun k_18 =>
        optW (rdRow false 1 v26 h_30) fun v27_1 =>
        k_18 v27_1 h_30) h_30 fun v27 h_31 =>
      gopW (gB v21 true) (fun k_19 =>
        optW (pIdxS 1 v27 (.int .i64 1)) fun v28_1 =>
        k_19 v28_1 h_31) h_31 fun v28 h_32 =>
      gopW (gB v21 true) (fun k_20 =>
        optW (rdRow false 1 v28 h_32) fun v29_1 =>
        k_20 v29_1 h_32) h_32 fun v29 h_33 =>
      gopW (gB v21 true) (fun k_21 =>
        optW (pBin Try.prog .eql 5 v29 (.int .u8 47)) fun v30_1 =>
        k_21 v30_1 h_33) h_33 fun v30 h_34 =>
      optW (pPick v21 v30 (.bool false)) fun v31 =>
      condW v31 (
        J (pt (pt (pt (pt (pt (pt (pt (pt (pt (pt (pt (pt (pt (pt (pt (pt (pt (pt (pt (pt (pt (pt (pt (pt (pt (pt (pt (pt (pt (pt (pt (envOf [a0, a1]) 4 (.int .i64 0)) 5 (.int .i64 3)) 7 a0) 8 v8) 9 v9) 10 v10) 11 v11) 12 v12) 13 v13) 14 v14) 4 (.int .i64 1)) 5 (.int .i64 1)) 15 a0) 16 v16) 17 v17) 18 v18) 19 v19) 20 v20) 21 v21) 22 v21) 23 v23) 24 v24) 25 v25) 26 v26) 27 v27) 28 v28) 29 v29) 30 v30) 31 v31) 4 (.int .i64 2)) 5 (.int .i64 2)) h_34
      ) (
        J (pt (pt (pt (pt (pt (pt (pt (pt (pt (pt (pt (pt (pt (pt (pt (pt (pt (pt (pt (pt (pt (pt (pt (pt (pt (pt (pt (pt (pt (envOf [a0, a1]) 4 (.int .i64 0)) 5 (.int .i64 3)) 7 a0) 8 v8) 9 v9) 10 v10) 11 v11) 12 v12) 13 v13) 14 v14) 4 (.int .i64 1)) 5 (.int .i64 1)) 15 a0) 16 v16) 17 v17) 18 v18) 19 v19) 20 v20) 21 v21) 22 v21) 23 v23) 24 v24) 25 v25) 26 v26) 27 v27) 28 v28) 29 v29) 30 v30) 31 v31) h_34)
    ) (
      J (pt (pt (pt (pt (pt (pt (pt (pt (pt (pt (envOf [a0, a1]) 4 (.int .i64 0)) 5 (.int .i64 3)) 7 a0) 8 v8) 9 v9) 10 v10) 11 v11) 12 v12) 13 v13) 14 v14) h))
  (fun e h_1 =>
    optW (pNilCheck (e 0)) fun v33 =>
    optW (pOff 10 v33) fun v34 =>
    optW (pOff 0 v34) fun v35 =>
    optW (rdRow false 1 v35 h_1) fun v36 =>
    optW (lenSl v36) fun v37 =>
    optW (pBin Try.prog .sub 3 v37 (e 4)) fun v39 =>
    X 61 [(e 1)] h_1 fun v49 h_2 =>
    gopW (gB v49 true) (fun k =>
      k v39 h_2) h_2 fun v51 h_3 =>
    gopW (gB v49 true) (fun k_1 =>
      optW (pBin Try.prog .lss 3 v51 (.int .i64 8)) fun v52_1 =>
      k_1 v52_1 h_3) h_3 fun v52 h_4 =>
    optW (pPick v49 v52 (.bool false)) fun v53 =>
    condW v53 (
      condW v53 (
        optW (pNilCheck (e 0)) fun v66 =>
        optW (pOff 10 v66) fun v67 =>
        optW (pOff 0 v67) fun v68 =>
        optW (rdRow false 1 v68 h_4) fun v69 =>
        optW (bldSl 1 [(.int .u8 0)] 1 [(0, (e 1))]) fun c =>
        newW none (.row c true) h_4 fun i h_5 =>
        appSl 1 v69 (.slice (some ⟨i, 0, none⟩) 1 1) h_5 fun v72 h_6 =>
        optW (pNilCheck (e 0)) fun v73 =>
        optW (pOff 10 v73) fun v74 =>
        optW (pOff 0 v74) fun v75 =>
        optW (pStore 1 v75 v72 h_6) fun h_7 =>
        K (.tuple #[]) h_7
      ) (
        optW (pBin Try.prog .eql 5 (e 1) (.int .u8 62)) fun v78 =>
        gopW (gB v78 true) (fun k_2 =>
          k_2 (e 5) h_4) h_4 fun v80 h_8 =>
        gopW (gB v78 true) (fun k_3 =>
          optW (pBin Try.prog .neq 3 v80 (.int .i64 3)) fun v81_1 =>
          k_3 v81_1 h_8) h_8 fun v81 h_9 =>
        optW (pPick v78 v81 (.bool false)) fun v82 =>
        gopW (gB v82 true) (fun k_4 =>
          k_4 v39 h_9) h_9 fun v84 h_10 =>
        gopW (gB v82 true) (fun k_5 =>
          optW (pBin Try.prog .gtr 3 v84 (.int .i64 0)) fun v85_1 =>
          k_5 v85_1 h_10) h_10 fun v85 h_11 =>
        optW (pPick v82 v85 (.bool false)) fun v86 =>
        condW v86 (
          optW (pNilCheck (e 0)) fun v89 =>
          optW (pOff 10 v89) fun v90 =>
          optW (pOff 0 v90) fun v91 =>
          optW (rdRow false 1 v91 h_11) fun v92 =>
          optW (pSliceSl 1 v92 (some (e 4)) none none) fun v94 =>
          optW (pBytesStr v94 h_11) fun v95 =>
          X 64 [(e 0), v95, (e 5)] h_11 fun v97 h_12 =>
          K (.tuple #[]) h_12
        ) (
          optW (pNilCheck (e 0)) fun v42 =>
          optW (pOff 10 v42) fun v43 =>
          optW (pOff 1 v43) fun v44 =>
          optW (rdRow false 1 v44 h_11) fun v45 =>
          X 48 [(e 0), (.int .i64 12), v45] h_11 fun v46 h_13 =>
          K (.tuple #[]) h_13))
    ) (
      optW (pBin Try.prog .eql 5 (e 1) (.int .u8 47)) fun v55 =>
      gopW (gB v55 true) (fun k_6 =>
        k_6 (e 5) h_4) h_4 fun v57 h_14 =>
      gopW (gB v55 true) (fun k_7 =>
        optW (pBin Try.prog .eql 3 v57 (.int .i64 1)) fun v58_1 =>
        k_7 v58_1 h_14) h_14 fun v58 h_15 =>
      optW (pPick v55 v58 (.bool false)) fun v59 =>
      gopW (gB v59 true) (fun k_8 =>
        k_8 v39 h_15) h_15 fun v61 h_16 =>
      gopW (gB v59 true) (fun k_9 =>
        optW (pBin Try.prog .eql 3 v61 (.int .i64 0)) fun v62_1 =>
        k_9 v62_1 h_16) h_16 fun v62 h_17 =>
      optW (pPick v59 v62 (.bool false)) fun v63 =>
      condW v63 (
        optW (pNilCheck (e 0)) fun v66_1 =>
        optW (pOff 10 v66_1) fun v67_1 =>
        optW (pOff 0 v67_1) fun v68_1 =>
        optW (rdRow false 1 v68_1 h_17) fun v69_1 =>
        optW (bldSl 1 [(.int .u8 0)] 1 [(0, (e 1))]) fun c_1 =>
        newW none (.row c_1 true) h_17 fun i_1 h_18 =>
        appSl 1 v69_1 (.slice (some ⟨i_1, 0, none⟩) 1 1) h_18 fun v72_1 h_19 =>
        optW (pNilCheck (e 0)) fun v73_1 =>
        optW (pOff 10 v73_1) fun v74_1 =>
        optW (pOff 0 v74_1) fun v75_1 =>
        optW (pStore 1 v75_1 v72_1 h_19) fun h_20 =>
        K (.tuple #[]) h_20
      ) (
        optW (pBin Try.prog .eql 5 (e 1) (.int .u8 62)) fun v78_1 =>
        gopW (gB v78_1 true) (fun k_10 =>
          k_10 (e 5) h_17) h_17 fun v80_1 h_21 =>
        gopW (gB v78_1 true) (fun k_11 =>
          optW (pBin Try.prog .neq 3 v80_1 (.int .i64 3)) fun v81_3 =>
          k_11 v81_3 h_21) h_21 fun v81_2 h_22 =>
        optW (pPick v78_1 v81_2 (.bool false)) fun v82_1 =>
        gopW (gB v82_1 true) (fun k_12 =>
          k_12 v39 h_22) h_22 fun v84_1 h_23 =>
        gopW (gB v82_1 true) (fun k_13 =>
          optW (pBin Try.prog .gtr 3 v84_1 (.int .i64 0)) fun v85_3 =>
          k_13 v85_3 h_23) h_23 fun v85_2 h_24 =>
        optW (pPick v82_1 v85_2 (.bool false)) fun v86_1 =>
        condW v86_1 (
          optW (pNilCheck (e 0)) fun v89_1 =>
          optW (pOff 10 v89_1) fun v90_1 =>
          optW (pOff 0 v90_1) fun v91_1 =>
          optW (rdRow false 1 v91_1 h_24) fun v92_1 =>
          optW (pSliceSl 1 v92_1 (some (e 4)) none none) fun v94_1 =>
          optW (pBytesStr v94_1 h_24) fun v95_1 =>
          X 64 [(e 0), v95_1, (e 5)] h_24 fun v97_1 h_25 =>
          K (.tuple #[]) h_25
        ) (
          optW (pNilCheck (e 0)) fun v42_1 =>
          optW (pOff 10 v42_1) fun v43_1 =>
          optW (pOff 1 v43_1) fun v44_1 =>
          optW (rdRow false 1 v44_1 h_24) fun v45_1 =>
          X 48 [(e 0), (.int .i64 12), v45_1] h_24 fun v46_1 h_26 =>
          K (.tuple #[]) h_26))))
theorem e63 (X : CallT) (a0 a1 : Value) (h : AH) (K : Value → AH → Prop) : cwp2 Try.prog X (Try.f63.body.getD .skip) (endW Try.prog Try.f63 K) (envOf [a0, a1]) h = s63 X a0 a1 h K := by kernel_rfl
theorem c63 {a0 a1 : Value} {h : AH} {K : Value → AH → Prop} (hs : s63 (callW Try.prog) a0 a1 h K) : callW Try.prog 63 [a0, a1] h K := callW_of Try.func63 (by kernel_rfl) (Eq.mpr (e63 _ a0 a1 _ _) hs)

/-- (*canopy/feed.Feed).sym () -/
def s64 (X : CallT) (a0 a1 a2 : Value) (h : AH) (K : Value → AH → Prop) : Prop :=
  optW (pNilCheck a0) fun v9 =>
  optW (pOff 12 v9) fun v10 =>
  optW (rdRow false 1 v10 h) fun v11 =>
  optW (bld [(.string (bs [])), (.int .i64 0)] [(0, 1), (1, 1)] [(0, a1), (1, a2)]) fun v14 =>
  X 69 [v11, v14] h fun v15 h_1 =>
  optW (pNilCheck a0) fun v17 =>
  optW (pOff 10 v17) fun v18 =>
  optW (pOff 1 v18) fun v19 =>
  optW (rdRow false 1 v19 h_1) fun v20 =>
  optW (pNilCheck a0) fun v23 =>
  optW (pOff 10 v23) fun v24 =>
  optW (pOff 0 v24) fun v25 =>
  optW (rdRow false 1 v25 h_1) fun v26 =>
  optW (pSliceSl 1 v26 none (some (.int .i64 0)) none) fun v27 =>
  optW (pNilCheck a0) fun v28 =>
  optW (pOff 10 v28) fun v29 =>
  optW (pOff 0 v29) fun v30 =>
  optW (pStore 1 v30 v27 h_1) fun h_2 =>
  optW (pBin Try.prog .lss 3 v15 (.int .i64 0)) fun v38 =>
  condW v38 (
    X 48 [a0, (.int .i64 12), v20] h_2 fun v41 h_3 =>
    K (.tuple #[]) h_3
  ) (
    optW (pBin Try.prog .eql 3 a2 (.int .i64 1)) fun v44 =>
    gopD (gB v44 true) (fun k =>
      k a0 h_2 [] []) h_2 [] [] fun v46 h_4 H S =>
    gopD (gB v44 true) (fun k_1 =>
      optW (pNilCheck v46) fun v47_1 =>
      k_1 v47_1 h_4 H S) h_4 H S fun v47 h_5 H_1 S_1 =>
    gopD (gB v44 true) (fun k_2 =>
      optW (pOff 0 v47) fun v48_1 =>
      k_2 v48_1 h_5 H_1 S_1) h_5 H_1 S_1 fun v48 h_6 H_2 S_2 =>
    gopD (gB v44 true) (fun k_3 =>
      optW (pOff 9 v48) fun v49_1 =>
      k_3 v49_1 h_6 H_2 S_2) h_6 H_2 S_2 fun v49 h_7 H_3 S_3 =>
    gopD (gB v44 true) (fun k_4 =>
      histC #[0, 1, 3, 7, 15, 31, 63, 127, 255, 7, 519, 1543, 3591, 8191, 16383, 32767] 7 (idOf v49) H_3 (
        optW (rdRow false 1 v49 h_7) fun v50_1 =>
        k_4 v50_1 h_7 H_3 ((7, (idOf v49)) :: S_3))) h_7 H_3 S_3 fun v50 h_8 H_4 S_4 =>
    gopD (gB v44 true) (fun k_5 =>
      optW (lenSl v50) fun v51_1 =>
      k_5 v51_1 h_8 H_4 S_4) h_8 H_4 S_4 fun v51 h_9 H_5 S_5 =>
    gopD (gB v44 true) (fun k_6 =>
      k_6 a0 h_9 H_5 S_5) h_9 H_5 S_5 fun v52 h_10 H_6 S_6 =>
    gopD (gB v44 true) (fun k_7 =>
      optW (pNilCheck v52) fun v53_1 =>
      k_7 v53_1 h_10 H_6 S_6) h_10 H_6 S_6 fun v53 h_11 H_7 S_7 =>
    gopD (gB v44 true) (fun k_8 =>
      optW (pOff 13 v53) fun v54_1 =>
      k_8 v54_1 h_11 H_7 S_7) h_11 H_7 S_7 fun v54 h_12 H_8 S_8 =>
    gopD (gB v44 true) (fun k_9 =>
      histC #[0, 1, 3, 7, 15, 31, 63, 127, 255, 7, 519, 1543, 3591, 8191, 16383, 32767] 12 (idOf v54) H_8 (
        optW (rdRow false 1 v54 h_12) fun v55_1 =>
        k_9 v55_1 h_12 H_8 ((12, (idOf v54)) :: S_8))) h_12 H_8 S_8 fun v55 h_13 H_9 S_9 =>
    gopD (gB v44 true) (fun k_10 =>
      optW (pBin Try.prog .geq 3 v51 v55) fun v56_1 =>
      k_10 v56_1 h_13 H_9 S_9) h_13 H_9 S_9 fun v56 h_14 H_10 S_10 =>
    optW (pPick v44 v56 (.bool false)) fun v57 =>
    condW v57 (
      X 48 [a0, (.int .i64 13), v20] h_14 fun v60 h_15 =>
      K (.tuple #[]) h_15
    ) (
      optW (pBin Try.prog .eql 3 a2 (.int .i64 1)) fun v63 =>
      condW v63 (
        optW (pNilCheck a0) fun v65 =>
        optW (pOff 0 v65) fun v66 =>
        X 70 [v66, v15] h_14 fun v68 h_16 =>
        optW (pNilCheck a0) fun v79 =>
        optW (pOff 15 v79) fun v80 =>
        optW (rdRow false 1 v80 h_16) fun v81 =>
        optW (bldSl 1 [(.int .i64 0)] 1 [(0, v15)]) fun c =>
        newW none (.row c true) h_16 fun i h_17 =>
        appSl 1 v81 (.slice (some ⟨i, 0, none⟩) 1 1) h_17 fun v84 h_18 =>
        optW (pNilCheck a0) fun v85 =>
        optW (pOff 15 v85) fun v86 =>
        optW (pStore 1 v86 v84 h_18) fun h_19 =>
        K (.tuple #[]) h_19
      ) (
        optW (pBin Try.prog .eql 3 a2 (.int .i64 2)) fun v71 =>
        condW v71 (
          optW (pNilCheck a0) fun v73 =>
          optW (pOff 0 v73) fun v74 =>
          X 71 [v74, v15] h_14 fun v76 h_20 =>
          optW (pNilCheck a0) fun v79_1 =>
          optW (pOff 15 v79_1) fun v80_1 =>
          optW (rdRow false 1 v80_1 h_20) fun v81_1 =>
          optW (bldSl 1 [(.int .i64 0)] 1 [(0, v15)]) fun c_1 =>
          newW none (.row c_1 true) h_20 fun i_1 h_21 =>
          appSl 1 v81_1 (.slice (some ⟨i_1, 0, none⟩) 1 1) h_21 fun v84_1 h_22 =>
          optW (pNilCheck a0) fun v85_1 =>
          optW (pOff 15 v85_1) fun v86_1 =>
          optW (pStore 1 v86_1 v84_1 h_22) fun h_23 =>
          K (.tuple #[]) h_23
        ) (
          optW (pNilCheck a0) fun v32 =>
          optW (pOff 0 v32) fun v33 =>
          X 72 [v33, v15] h_14 fun v35 h_24 =>
          optW (pNilCheck a0) fun v79_2 =>
          optW (pOff 15 v79_2) fun v80_2 =>
          optW (rdRow false 1 v80_2 h_24) fun v81_2 =>
          optW (bldSl 1 [(.int .i64 0)] 1 [(0, v15)]) fun c_2 =>
          newW none (.row c_2 true) h_24 fun i_2 h_25 =>
          appSl 1 v81_2 (.slice (some ⟨i_2, 0, none⟩) 1 1) h_25 fun v84_2 h_26 =>
          optW (pNilCheck a0) fun v85_2 =>
          optW (pOff 15 v85_2) fun v86_2 =>
          optW (pStore 1 v86_2 v84_2 h_26) fun h_27 =>
          K (.tuple #[]) h_27))))
theorem e64 (X : CallT) (a0 a1 a2 : Value) (h : AH) (K : Value → AH → Prop) : cwp2 Try.prog X (Try.f64.body.getD .skip) (endW Try.prog Try.f64 K) (envOf [a0, a1, a2]) h = s64 X a0 a1 a2 h K := by kernel_rfl
theorem c64 {a0 a1 a2 : Value} {h : AH} {K : Value → AH → Prop} (hs : s64 (callW Try.prog) a0 a1 a2 h K) : callW Try.prog 64 [a0, a1, a2] h K := callW_of Try.func64 (by kernel_rfl) (Eq.mpr (e64 _ a0 a1 a2 _ _) hs)

/-- slices.Contains[[]int,int] () -/
def s65 (X : CallT) (a0 a1 : Value) (h : AH) (K : Value → AH → Prop) : Prop :=
  X 73 [a0, a1] h fun v7 h_1 =>
  optW (pBin Try.prog .geq 3 v7 (.int .i64 0)) fun v8 =>
  K v8 h_1
theorem e65 (X : CallT) (a0 a1 : Value) (h : AH) (K : Value → AH → Prop) : cwp2 Try.prog X (Try.f65.body.getD .skip) (endW Try.prog Try.f65 K) (envOf [a0, a1]) h = s65 X a0 a1 h K := by kernel_rfl
theorem c65 {a0 a1 : Value} {h : AH} {K : Value → AH → Prop} (hs : s65 (callW Try.prog) a0 a1 h K) : callW Try.prog 65 [a0, a1] h K := callW_of Try.func65 (by kernel_rfl) (Eq.mpr (e65 _ a0 a1 _ _) hs)

/-- canopy/canopyref14.name (I at e: live [0, 3, 4], writes [3, 4, 5, 6, 7, 8, 9, 10, 11, 12, 13, 14, 15, 16]) -/
def s66 (X : CallT) (a0 : Value) (h : AH) (K : Value → AH → Prop) : Prop :=
  loopE (fun I e h_1 =>
    optW (lenStr (e 0)) fun v7 =>
    optW (pBin Try.prog .lss 3 (e 4) v7) fun v8 =>
    condW v8 (
      optW (pIdxStr (e 0) (e 4)) fun v13 =>
      X 58 [v13] h_1 fun v14 h_2 =>
      condW v14 (
        optW (pBin Try.prog .add 3 (e 3) (.int .i64 1)) fun v16 =>
        optW (pBin Try.prog .add 3 (e 4) (.int .i64 1)) fun v10 =>
        I (pt (pt (pt (pt (pt (pt (pt (pt (pt (pt (pt (pt (pt (pt e 5 (e 4)) 6 (e 0)) 7 v7) 8 v8) 11 (e 0)) 12 (e 4)) 13 v13) 14 v14) 15 (e 3)) 16 v16) 3 v16) 9 (e 4)) 10 v10) 4 v10) h_2
      ) (
        optW (pBin Try.prog .add 3 (e 4) (.int .i64 1)) fun v10_1 =>
        I (pt (pt (pt (pt (pt (pt (pt (pt (pt (pt (pt e 5 (e 4)) 6 (e 0)) 7 v7) 8 v8) 11 (e 0)) 12 (e 4)) 13 v13) 14 v14) 9 (e 4)) 10 v10_1) 4 v10_1) h_2)
    ) (
      K (e 3) h_1))
  (pt (pt (pt (envOf [a0]) 2 (.int .i64 0)) 3 (.int .i64 0)) 4 (.int .i64 0)) h
theorem e66 (X : CallT) (a0 : Value) (h : AH) (K : Value → AH → Prop) : cwp2 Try.prog X (Try.f66.body.getD .skip) (endW Try.prog Try.f66 K) (envOf [a0]) h = s66 X a0 h K := by kernel_rfl
theorem c66 {a0 : Value} {h : AH} {K : Value → AH → Prop} (hs : s66 (callW Try.prog) a0 h K) : callW Try.prog 66 [a0] h K := callW_of Try.func66 (by kernel_rfl) (Eq.mpr (e66 _ a0 _ _) hs)

/-- canopy/canopyref1.Read () -/
def s67 (X : CallT) (a0 : Value) (h : AH) (K : Value → AH → Prop) : Prop :=
  newR none [(.string (bs [])), (.int .i64 0)] h fun v2 h_1 =>
  optW (bld [(.string (bs [])), (.int .i64 0)] [(0, 1), (1, 1)] [(0, a0), (1, (.int .i64 3))]) fun v6 =>
  newR none [(.string (bs [])), (.int .i64 0)] h_1 fun v4 h_2 =>
  optW (pStore 2 v4 v6 h_2) fun h_3 =>
  optW (pBin Try.prog .neq 9 a0 (.string (bs []))) fun v8 =>
  gopW (gB v8 true) (fun k =>
    k a0 h_3) h_3 fun v10 h_4 =>
  gopW (gB v8 true) (fun k_1 =>
    optW (pIdxStr v10 (.int .i64 0)) fun v11_1 =>
    k_1 v11_1 h_4) h_4 fun v11 h_5 =>
  gopW (gB v8 true) (fun k_2 =>
    optW (pBin Try.prog .eql 5 v11 (.int .u8 60)) fun v12_1 =>
    k_2 v12_1 h_5) h_5 fun v12 h_6 =>
  optW (pPick v8 v12 (.bool false)) fun v13 =>
  gopW (gB v13 true) (fun k_3 =>
    k_3 a0 h_6) h_6 fun v15 h_7 =>
  gopW (gB v13 true) (fun k_4 =>
    k_4 a0 h_7) h_7 fun v16 h_8 =>
  gopW (gB v13 true) (fun k_5 =>
    optW (lenStr v16) fun v17_1 =>
    k_5 v17_1 h_8) h_8 fun v17 h_9 =>
  gopW (gB v13 true) (fun k_6 =>
    optW (pBin Try.prog .sub 3 v17 (.int .i64 1)) fun v18_1 =>
    k_6 v18_1 h_9) h_9 fun v18 h_10 =>
  gopW (gB v13 true) (fun k_7 =>
    optW (pIdxStr v15 v18) fun v19_1 =>
    k_7 v19_1 h_10) h_10 fun v19 h_11 =>
  gopW (gB v13 true) (fun k_8 =>
    optW (pBin Try.prog .eql 5 v19 (.int .u8 62)) fun v20_1 =>
    k_8 v20_1 h_11) h_11 fun v20 h_12 =>
  optW (pPick v13 v20 (.bool false)) fun v21 =>
  condW v21 (
    optW (lenStr a0) fun v24 =>
    optW (pBin Try.prog .sub 3 v24 (.int .i64 1)) fun v25 =>
    optW (pSliceStr a0 (some (.int .i64 1)) (some v25)) fun v26 =>
    optW (bld [(.string (bs [])), (.int .i64 0)] [(0, 1), (1, 1)] [(0, v26), (1, (.int .i64 1))]) fun v27 =>
    optW (pStore 2 v4 v27 h_12) fun h_13 =>
    optW (lenStr a0) fun v29 =>
    optW (pBin Try.prog .gtr 3 v29 (.int .i64 2)) fun v30 =>
    gopW (gB v30 true) (fun k_9 =>
      k_9 a0 h_13) h_13 fun v32 h_14 =>
    gopW (gB v30 true) (fun k_10 =>
      optW (pIdxStr v32 (.int .i64 1)) fun v33_1 =>
      k_10 v33_1 h_14) h_14 fun v33 h_15 =>
    gopW (gB v30 true) (fun k_11 =>
      optW (pBin Try.prog .eql 5 v33 (.int .u8 47)) fun v34_1 =>
      k_11 v34_1 h_15) h_15 fun v34 h_16 =>
    optW (pPick v30 v34 (.bool false)) fun v35 =>
    condW v35 (
      optW (lenStr a0) fun v38 =>
      optW (pBin Try.prog .sub 3 v38 (.int .i64 1)) fun v39 =>
      optW (pSliceStr a0 (some (.int .i64 2)) (some v39)) fun v40 =>
      optW (bld [(.string (bs [])), (.int .i64 0)] [(0, 1), (1, 1)] [(0, v40), (1, (.int .i64 2))]) fun v41 =>
      optW (pStore 2 v4 v41 h_16) fun h_17 =>
      optW (rdRow true 2 v4 h_17) fun v42 =>
      optW (pOff 0 v4) fun v43 =>
      optW (rdRow false 1 v43 h_17) fun v44 =>
      X 74 [v44] h_17 fun v45 h_18 =>
      (∀ x ∈ (idOf v4), (h_17 : AH)[x]? = (h_18 : AH)[x]?) ∧
      optW (pStore 2 v2 v42 h_18) fun h_19 =>
      optW (resList Try.prog (pt (pt (pt (pt (pt (pt (pt (pt (pt (pt (pt (pt (pt (pt (pt (pt (pt (pt (pt (pt (pt (pt (pt (pt (pt (pt (pt (pt (pt (pt (pt (pt (pt (pt (pt (pt (pt (pt (pt (pt (pt (pt (pt (pt (pt (envOf [a0]) 2 v2) 3 (.bool false)) 5 a0) 6 v6) 4 v4) 7 a0) 8 v8) 9 v8) 10 v10) 11 v11) 12 v12) 13 v13) 14 v13) 15 v15) 16 v16) 17 v17) 18 v18) 19 v19) 20 v20) 21 v21) 22 a0) 23 a0) 24 v24) 25 v25) 26 v26) 27 v27) 28 a0) 29 v29) 30 v30) 31 v30) 32 v32) 33 v33) 34 v34) 35 v35) 36 a0) 37 a0) 38 v38) 39 v39) 40 v40) 41 v41) 42 v42) 43 v43) 44 v44) 45 v45) 3 v45) h_19 Try.f67.results.toList) fun vs => K (resOf vs) h_19
    ) (
      optW (rdRow true 2 v4 h_16) fun v42_1 =>
      optW (pOff 0 v4) fun v43_1 =>
      optW (rdRow false 1 v43_1 h_16) fun v44_1 =>
      X 74 [v44_1] h_16 fun v45_1 h_20 =>
      (∀ x ∈ (idOf v4), (h_16 : AH)[x]? = (h_20 : AH)[x]?) ∧
      optW (pStore 2 v2 v42_1 h_20) fun h_21 =>
      optW (resList Try.prog (pt (pt (pt (pt (pt (pt (pt (pt (pt (pt (pt (pt (pt (pt (pt (pt (pt (pt (pt (pt (pt (pt (pt (pt (pt (pt (pt (pt (pt (pt (pt (pt (pt (pt (pt (pt (pt (pt (pt (envOf [a0]) 2 v2) 3 (.bool false)) 5 a0) 6 v6) 4 v4) 7 a0) 8 v8) 9 v8) 10 v10) 11 v11) 12 v12) 13 v13) 14 v13) 15 v15) 16 v16) 17 v17) 18 v18) 19 v19) 20 v20) 21 v21) 22 a0) 23 a0) 24 v24) 25 v25) 26 v26) 27 v27) 28 a0) 29 v29) 30 v30) 31 v30) 32 v32) 33 v33) 34 v34) 35 v35) 42 v42_1) 43 v43_1) 44 v44_1) 45 v45_1) 3 v45_1) h_21 Try.f67.results.toList) fun vs => K (resOf vs) h_21)
  ) (
    optW (rdRow true 2 v4 h_12) fun v42_2 =>
    optW (pOff 0 v4) fun v43_2 =>
    optW (rdRow false 1 v43_2 h_12) fun v44_2 =>
    X 74 [v44_2] h_12 fun v45_2 h_22 =>
    (∀ x ∈ (idOf v4), (h_12 : AH)[x]? = (h_22 : AH)[x]?) ∧
    optW (pStore 2 v2 v42_2 h_22) fun h_23 =>
    optW (resList Try.prog (pt (pt (pt (pt (pt (pt (pt (pt (pt (pt (pt (pt (pt (pt (pt (pt (pt (pt (pt (pt (pt (pt (pt (pt (pt (envOf [a0]) 2 v2) 3 (.bool false)) 5 a0) 6 v6) 4 v4) 7 a0) 8 v8) 9 v8) 10 v10) 11 v11) 12 v12) 13 v13) 14 v13) 15 v15) 16 v16) 17 v17) 18 v18) 19 v19) 20 v20) 21 v21) 42 v42_2) 43 v43_2) 44 v44_2) 45 v45_2) 3 v45_2) h_23 Try.f67.results.toList) fun vs => K (resOf vs) h_23)
theorem e67 (X : CallT) (a0 : Value) (h : AH) (K : Value → AH → Prop) : cwp2 Try.prog X (Try.f67.body.getD .skip) (endW Try.prog Try.f67 K) (envOf [a0]) h = s67 X a0 h K := by kernel_rfl
theorem c67 {a0 : Value} {h : AH} {K : Value → AH → Prop} (hs : s67 (callW Try.prog) a0 h K) : callW Try.prog 67 [a0] h K := callW_of Try.func67 (by kernel_rfl) (Eq.mpr (e67 _ a0 _ _) hs)

end Go.Proofs.Ytebbjimmgblcpaa.W
