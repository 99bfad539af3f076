/- Parts of a proof, joined by a program. Conditions: none. -/
import Derived.Test.YtlenlhlipmkeeaaRA2
import Derived.Test.YtlenlhlipmkeeaaProg

section
/- Go functions, printed by a program as predicates on what may come behind; each is the function. Conditions: none. -/
namespace Go.Proofs.Ytlenlhlipmkeeaa.W
open Go Go.AM
set_option linter.unusedVariables false
set_option maxRecDepth 100000


/-- canopy/canopyref8.Text (I at e: live [1, 3, 4], writes [3, 4, 9, 10, 11, 12, 13, 14, 15, 16, 17, 18, 19, 20, 21, 22, 23, 24, 25, 26, 27, 28, 29, 30, 31, 32, 33, 34]) -/
def s13 (X : CallT) (a0 : Value) (h : AH) (K : Value → AH → Prop) : Prop :=
  aBox a0 none h fun v1 h_1 =>
  optW (pOff 0 v1) fun v5 =>
  optW (rdRow false 1 v5 h_1) fun v6 =>
  optW (pBin Try.prog .add 9 (.string (bs [114, 111, 111, 116, 32])) v6) fun v7 =>
  optW (pBin Try.prog .add 9 v7 (.string (bs [59]))) fun v8 =>
  loopE (fun I e h_2 =>
    optW (pOff 1 (e 1)) fun v10 =>
    optW (rdRow false 1 v10 h_2) fun v11 =>
    optW (lenSl v11) fun v12 =>
    optW (pBin Try.prog .lss 3 (e 4) v12) fun v13 =>
    condW v13 (
      optW (pBin Try.prog .add 9 (e 3) (.string (bs [32, 101, 108, 101, 109, 101, 110, 116, 32]))) fun v17 =>
      optW (pOff 1 (e 1)) fun v18 =>
      optW (rdRow false 1 v18 h_2) fun v19 =>
      optW (pIdxS 4 v19 (e 4)) fun v21 =>
      optW (pOff 0 v21) fun v22 =>
      optW (rdRow false 1 v22 h_2) fun v23 =>
      optW (pBin Try.prog .add 9 v17 v23) fun v24 =>
      optW (pBin Try.prog .add 9 v24 (.string (bs [32, 61, 32]))) fun v25 =>
      optW (pOff 1 (e 1)) fun v26 =>
      optW (rdRow false 1 v26 h_2) fun v27 =>
      optW (pIdxS 4 v27 (e 4)) fun v29 =>
      optW (pOff 1 v29) fun v30 =>
      optW (rdRow true 3 v30 h_2) fun v31 =>
      X 29 [v31] h_2 fun v32 h_3 =>
      (∀ x ∈ (ceOf 1 v22), vw x h_2 = vw x h_3) ∧
      (∀ x ∈ (ceOf 1 v18), vw x h_2 = vw x h_3) ∧
      optW (pBin Try.prog .add 9 v25 v32) fun v33 =>
      optW (pBin Try.prog .add 9 v33 (.string (bs [59]))) fun v34 =>
      optW (pBin Try.prog .add 3 (e 4) (.int .i64 1)) fun v15 =>
      I (pt (pt (pt (pt (pt (pt (pt (pt (pt (pt (pt (pt (pt (pt (pt (pt (pt (pt (pt (pt (pt (pt (pt (pt (pt (pt (pt (pt e 9 (e 4)) 10 v10) 11 v11) 12 v12) 13 v13) 16 (e 3)) 17 v17) 18 v18) 19 v19) 20 (e 4)) 21 v21) 22 v22) 23 v23) 24 v24) 25 v25) 26 v26) 27 v27) 28 (e 4)) 29 v29) 30 v30) 31 v31) 32 v32) 33 v33) 34 v34) 3 v34) 14 (e 4)) 15 v15) 4 v15) h_3
    ) (
      K (e 3) h_2))
  (pt (pt (pt (pt (pt (pt (pt (pt (envOf [a0]) 1 v1) 2 (.string (bs []))) 5 v5) 6 v6) 7 v7) 8 v8) 3 v8) 4 (.int .i64 0)) h_1
theorem e13 (X : CallT) (a0 : Value) (h : AH) (K : Value → AH → Prop) : cwp2 Try.prog X (Try.f13.body.getD .skip) (endW Try.prog Try.f13 K) (envOf [a0]) h = s13 X a0 h K := by kernel_rfl
theorem c13 {a0 : Value} {h : AH} {K : Value → AH → Prop} (hs : s13 (callW Try.prog) a0 h K) : callW Try.prog 13 [a0] h K := callW_of Try.func13 (by kernel_rfl) (Eq.mpr (e13 _ a0 _ _) hs)

/-- canopy/canopylaw8.Make (I at e: live [2, 7, 8, 9], writes [9, 32, 33, 34, 35, 36, 37, 38, 39, 40, 41, 42, 43, 44, 45, 46, 47, 48, 49, 50, 51, 52, 53, 54, 55, 56]) -/
def s14 (X : CallT) (a0 a1 a2 : Value) (h : AH) (K : Value → AH → Prop) : Prop :=
  newR none [(.string (bs [])), (.slice none 0 0)] h fun v6 h_1 =>
  optW (bldSl 1 [(.string (bs []))] 5 [(0, (.string (bs [97]))), (1, (.string (bs [98, 98]))), (2, (.string (bs [99]))), (3, (.string (bs [122, 122, 122, 122, 122, 122, 122, 122]))), (4, (.string (bs [116, 101, 120, 116, 115])))]) fun c =>
  newW none (.row c true) h_1 fun i h_2 =>
  X 15 [a0, (.int .i64 5)] h_2 fun v12 h_3 =>
  optW (pBin Try.prog .add 3 (.int .i64 1) v12) fun v13 =>
  optW (pSliceSl 1 (.slice (some ⟨i, 0, none⟩) 5 5) none (some v13) none) fun v14 =>
  optW (bld [(.slice none 0 0), (.slice none 0 0), (.int .i64 0)] [(0, 1), (1, 1), (2, 1)] [(0, v14), (1, a1)]) fun v16 =>
  aBox v16 none h_3 fun v17 h_4 =>
  optW (pNilCheck v17) fun v19 =>
  optW (pOff 0 v19) fun v20 =>
  optW (rdRow false 1 v20 (reserve 1 h_4)) fun v21 =>
  optW (pNilCheck v17) fun v24 =>
  optW (pOff 0 v24) fun v25 =>
  optW (rdRow false 1 v25 (reserve 1 h_4)) fun v26 =>
  optW (lenSl v26) fun v27 =>
  X 30 [v17, v27] (reserve 1 h_4) fun v28 h_5 =>
  (∀ x ∈ (ceOf 1 v20), vw x (reserve 1 h_4) = vw x h_5) ∧
  optW (pIdxS 1 v21 v28) fun v29 =>
  optW (rdRow false 1 v29 h_5) fun v30 =>
  optW (bld [(.string (bs [])), (.slice none 0 0)] [(0, 1), (1, 1)] [(0, v30)]) fun v31 =>
  newR (some (h_4.length)) [(.string (bs [])), (.slice none 0 0)] h_5 fun v8 h_6 =>
  optW (pStore 2 v8 v31 h_6) fun h_7 =>
  loopE (fun I e h_8 =>
    optW (pNilCheck (e 7)) fun v34 =>
    optW (pOff 0 v34) fun v35 =>
    optW (rdRow false 1 v35 h_8) fun v36 =>
    optW (lenSl v36) fun v37 =>
    optW (pBin Try.prog .lss 3 (e 9) v37) fun v38 =>
    condW v38 (
      optW (pOff 1 (e 8)) fun v41 =>
      optW (rdRow false 1 v41 (reserve 1 h_8)) fun v42 =>
      optW (pNilCheck (e 7)) fun v44 =>
      optW (pOff 0 v44) fun v45 =>
      optW (rdRow false 1 v45 (reserve 1 h_8)) fun v46 =>
      optW (pIdxS 1 v46 (e 9)) fun v48 =>
      optW (rdRow false 1 v48 (reserve 1 h_8)) fun v49 =>
      X 31 [(e 7), (e 2)] (reserve 1 h_8) fun v52 h_9 =>
      (∀ x ∈ (ceOf 1 v48), vw x (reserve 1 h_8) = vw x h_9) ∧
      (∀ x ∈ (ceOf 1 v45), vw x (reserve 1 h_8) = vw x h_9) ∧
      (∀ x ∈ (ceOf 1 v41), vw x (reserve 1 h_8) = vw x h_9) ∧
      optW (bld [(.string (bs [])), (.int .i64 0), (.string (bs [])), (.slice none 0 0)] [(0, 1), (1, 3)] [(0, v49), (1, v52)]) fun v53 =>
      optW (bldSl 4 [(.string (bs [])), (.int .i64 0), (.string (bs [])), (.slice none 0 0)] 1 [(0, v53)]) fun c_1 =>
      newW (some (h_8.length)) (.row c_1 true) h_9 fun i_1 h_10 =>
      appSl 4 v42 (.slice (some ⟨i_1, 0, none⟩) 1 1) h_10 fun v55 h_11 =>
      optW (pOff 1 (e 8)) fun v56 =>
      optW (pStore 1 v56 v55 h_11) fun h_12 =>
      optW (pBin Try.prog .add 3 (e 9) (.int .i64 1)) fun v40 =>
      I (pt (pt (pt (pt (pt (pt (pt (pt (pt (pt (pt (pt (pt (pt (pt (pt (pt (pt (pt (pt (pt (pt (pt (pt (pt (pt e 32 (e 9)) 33 (e 7)) 34 v34) 35 v35) 36 v36) 37 v37) 38 v38) 41 v41) 42 v42) 43 (e 7)) 44 v44) 45 v45) 46 v46) 47 (e 9)) 48 v48) 49 v49) 50 (e 7)) 51 (e 2)) 52 v52) 53 v53) 54 (.slice (some ⟨i_1, 0, none⟩) 1 1)) 55 v55) 56 v56) 39 (e 9)) 40 v40) 9 v40) h_12
    ) (
      optW (rdRow true 2 (e 8) h_8) fun v57 =>
      optW (pStore 2 (e 6) v57 h_8) fun h_13 =>
      optW (resList Try.prog (pt (pt (pt (pt (pt (pt (pt (pt e 32 (e 9)) 33 (e 7)) 34 v34) 35 v35) 36 v36) 37 v37) 38 v38) 57 v57) h_13 Try.f14.results.toList) fun vs => K (resOf vs) h_13))
  (pt (pt (pt (pt (pt (pt (pt (pt (pt (pt (pt (pt (pt (pt (pt (pt (pt (pt (pt (pt (pt (pt (pt (pt (pt (pt (envOf [a0, a1, a2]) 6 v6) 10 (.slice (some ⟨i, 0, none⟩) 5 5)) 11 a0) 12 v12) 13 v13) 14 v14) 15 a1) 16 v16) 17 v17) 7 v17) 18 v17) 19 v19) 20 v20) 21 v21) 22 v17) 23 v17) 24 v24) 25 v25) 26 v26) 27 v27) 28 v28) 29 v29) 30 v30) 31 v31) 8 v8) 9 (.int .i64 0)) h_7
theorem e14 (X : CallT) (a0 a1 a2 : Value) (h : AH) (K : Value → AH → Prop) : cwp2 Try.prog X (Try.f14.body.getD .skip) (endW Try.prog Try.f14 K) (envOf [a0, a1, a2]) h = s14 X a0 a1 a2 h K := by kernel_rfl
theorem c14 {a0 a1 a2 : Value} {h : AH} {K : Value → AH → Prop} (hs : s14 (callW Try.prog) a0 a1 a2 h K) : callW Try.prog 14 [a0, a1, a2] h K := callW_of Try.func14 (by kernel_rfl) (Eq.mpr (e14 _ a0 a1 a2 _ _) hs)

/-- canopy/canopylaw8.within () -/
def s15 (X : CallT) (a0 a1 : Value) (h : AH) (K : Value → AH → Prop) : Prop :=
  optW (pBin Try.prog .rem 3 a0 a1) fun v8 =>
  optW (pBin Try.prog .lss 3 v8 (.int .i64 0)) fun v10 =>
  condW v10 (
    optW (pBin Try.prog .add 3 v8 a1) fun v13 =>
    K v13 h
  ) (
    K v8 h)
theorem e15 (X : CallT) (a0 a1 : Value) (h : AH) (K : Value → AH → Prop) : cwp2 Try.prog X (Try.f15.body.getD .skip) (endW Try.prog Try.f15 K) (envOf [a0, a1]) h = s15 X a0 a1 h K := by kernel_rfl
theorem c15 {a0 a1 : Value} {h : AH} {K : Value → AH → Prop} (hs : s15 (callW Try.prog) a0 a1 h K) : callW Try.prog 15 [a0, a1] h K := callW_of Try.func15 (by kernel_rfl) (Eq.mpr (e15 _ a0 a1 _ _) hs)

/-- canopy/schema.Parse (J at e: live [2, 5, 6]; J_1 at e_1: live [2, 5, 6]; I at e_2: live [5, 6], writes [50, 51, 52, 53, 54, 55, 56, 57, 58, 59, 60, 61]; I_1 at e_3: live [2, 6, 87, 88, 89], writes [3, 4, 8, 89, 90, 91, 92, 93, 94, 95, 96, 97, 98, 99]; I_2 at e_4: live [2, 6, 87, 88, 89], writes [3, 4, 8, 89, 90, 91, 92, 93, 94, 95, 96, 97, 98, 99]) -/
def s17 (X : CallT) (a0 : Value) (h : AH) (K : Value → AH → Prop) : Prop :=
  newR none [(.string (bs [])), (.slice none 0 0)] h fun v2 h_1 =>
  optW (lenStr a0) fun v10 =>
  optW (pBin Try.prog .gtr 3 v10 (.int .i64 2000)) fun v11 =>
  condW v11 (
    optW (bld [(.string (bs [])), (.slice none 0 0)] [(0, 1), (1, 1)] []) fun v12 =>
    optW (pStore 2 v2 v12 h_1) fun h_2 =>
    optW (resList Try.prog (pt (pt (pt (pt (pt (pt (pt (pt (pt (envOf [a0]) 2 v2) 3 (.int .i64 0)) 4 (.int .i64 0)) 9 a0) 10 v10) 11 v11) 12 v12) 3 (.int .i64 0)) 4 (.int .i64 2)) h_2 Try.f17.results.toList) fun vs => K (resOf vs) h_2
  ) (
    optW (bld [(.string (bs [])), (.int .i64 0), (.int .i64 0), (.string (bs [])), (.int .u8 0), (.int .i64 0), (.int .i64 0), (.int .i64 0), (.slice none 0 0)] [(0, 1), (1, 1), (2, 1), (3, 2), (5, 1), (6, 1), (7, 1), (8, 1)] [(0, a0)]) fun v14 =>
    aBox v14 none h_1 fun v15 h_3 =>
    newR none [(.string (bs [])), (.slice none 0 0)] h_3 fun v6 h_4 =>
    X 32 [v15] h_4 fun v17 h_5 =>
    optW (bld [(.string (bs [])), (.int .u8 0)] [(0, 1), (1, 1)] [(0, (.string (bs [114, 111, 111, 116])))]) fun v19 =>
    X 33 [v15, v19] h_5 fun v20 h_6 =>
    joinE (fun J =>
      optW (pNilCheck v15) fun v22 =>
      optW (pOff 6 v22) fun v23 =>
      optW (rdRow false 1 v23 h_6) fun v24 =>
      optW (pBin Try.prog .eql 32 v24 (.int .i64 0)) fun v25 =>
      condW v25 (
        X 34 [v15] h_6 fun v27 h_35 =>
        optW (pOff 0 v6) fun v28 =>
        optW (pStore 1 v28 v27 h_35) fun h_36 =>
        J (pt (pt (pt (pt (pt (pt (pt (pt (pt (pt (pt (pt (pt (pt (pt (pt (pt (pt (pt (pt (pt (pt (pt (pt (envOf [a0]) 2 v2) 3 (.int .i64 0)) 4 (.int .i64 0)) 9 a0) 10 v10) 11 v11) 13 a0) 14 v14) 15 v15) 5 v15) 6 v6) 16 v15) 17 v17) 18 v15) 19 v19) 20 v20) 21 v15) 22 v22) 23 v23) 24 v24) 25 v25) 26 v15) 27 v27) 28 v28) h_36
      ) (
        J (pt (pt (pt (pt (pt (pt (pt (pt (pt (pt (pt (pt (pt (pt (pt (pt (pt (pt (pt (pt (pt (envOf [a0]) 2 v2) 3 (.int .i64 0)) 4 (.int .i64 0)) 9 a0) 10 v10) 11 v11) 13 a0) 14 v14) 15 v15) 5 v15) 6 v6) 16 v15) 17 v17) 18 v15) 19 v19) 20 v20) 21 v15) 22 v22) 23 v23) 24 v24) 25 v25) h_6))
    (fun e h_7 =>
      joinE (fun J_1 =>
        optW (pNilCheck (e 5)) fun v30 =>
        optW (pOff 6 v30) fun v31 =>
        optW (rdRow false 1 v31 h_7) fun v32 =>
        optW (pBin Try.prog .eql 32 v32 (.int .i64 0)) fun v33 =>
        condW v33 (
          optW (pNilCheck (e 5)) fun v36 =>
          optW (pOff 8 v36) fun v37 =>
          optW (rdRow false 1 v37 (reserve 1 h_7)) fun v38 =>
          optW (pOff 0 (e 6)) fun v39 =>
          optW (rdRow false 1 v39 (reserve 1 h_7)) fun v40 =>
          optW (bldSl 1 [(.string (bs []))] 1 [(0, v40)]) fun c_1 =>
          newW (some (h_7.length)) (.row c_1 true) (reserve 1 h_7) fun i_1 h_31 =>
          appSl 1 v38 (.slice (some ⟨i_1, 0, none⟩) 1 1) h_31 fun v42 h_32 =>
          optW (pNilCheck (e 5)) fun v43 =>
          optW (pOff 8 v43) fun v44 =>
          optW (pStore 1 v44 v42 h_32) fun h_33 =>
          X 32 [(e 5)] h_33 fun v46 h_34 =>
          J_1 (pt (pt (pt (pt (pt (pt (pt (pt (pt (pt (pt (pt (pt (pt (pt (pt (pt (pt e 29 (e 5)) 30 v30) 31 v31) 32 v32) 33 v33) 34 (e 5)) 35 (e 5)) 36 v36) 37 v37) 38 v38) 39 v39) 40 v40) 41 (.slice (some ⟨i_1, 0, none⟩) 1 1)) 42 v42) 43 v43) 44 v44) 45 (e 5)) 46 v46) h_34
        ) (
          J_1 (pt (pt (pt (pt (pt e 29 (e 5)) 30 v30) 31 v31) 32 v32) 33 v33) h_7))
      (fun e_1 h_8 =>
        optW (bld [(.string (bs [])), (.int .u8 0)] [(0, 1), (1, 1)] [(1, (.int .u8 59))]) fun v48 =>
        X 33 [(e_1 5), v48] h_8 fun v49 h_9 =>
        loopE (fun I e_2 h_10 =>
          optW (bld [(.string (bs [])), (.int .u8 0)] [(0, 1), (1, 1)] [(0, (.string (bs [101, 108, 101, 109, 101, 110, 116])))]) fun v51 =>
          X 35 [(e_2 5), v51] h_10 fun v52 h_11 =>
          condW v52 (
            optW (pOff 1 (e_2 6)) fun v53 =>
            optW (rdRow false 1 v53 (reserve 1 h_11)) fun v54 =>
            optW (pOff 1 (e_2 6)) fun v56 =>
            optW (rdRow false 1 v56 (reserve 1 h_11)) fun v57 =>
            X 36 [(e_2 5), v57] (reserve 1 h_11) fun v58 h_12 =>
            (∀ x ∈ (ceOf 1 v53), vw x (reserve 1 h_11) = vw x h_12) ∧
            optW (bldSl 4 [(.string (bs [])), (.int .i64 0), (.string (bs [])), (.slice none 0 0)] 1 [(0, v58)]) fun c =>
            newW (some (h_11.length)) (.row c true) h_12 fun i h_13 =>
            appSl 4 v54 (.slice (some ⟨i, 0, none⟩) 1 1) h_13 fun v60 h_14 =>
            optW (pOff 1 (e_2 6)) fun v61 =>
            optW (pStore 1 v61 v60 h_14) fun h_15 =>
            I (pt (pt (pt (pt (pt (pt (pt (pt (pt (pt (pt (pt e_2 50 (e_2 5)) 51 v51) 52 v52) 53 v53) 54 v54) 55 (e_2 5)) 56 v56) 57 v57) 58 v58) 59 (.slice (some ⟨i, 0, none⟩) 1 1)) 60 v60) 61 v61) h_15
          ) (
            optW (pNilCheck (e_2 5)) fun v63 =>
            optW (pOff 3 v63) fun v64 =>
            optW (rdRow true 2 v64 h_11) fun v65 =>
            optW (bld [(.string (bs [])), (.int .u8 0)] [(0, 1), (1, 1)] []) fun v66 =>
            optW (pBin Try.prog .neq 71 v65 v66) fun v67 =>
            condW v67 (
              X 37 [(e_2 5), (.int .i64 1)] h_11 fun v69 h_16 =>
              optW (pNilCheck (e_2 5)) fun v71 =>
              optW (pOff 6 v71) fun v72 =>
              optW (rdRow false 1 v72 h_16) fun v73 =>
              optW (pBin Try.prog .neq 32 v73 (.int .i64 0)) fun v74 =>
              condW v74 (
                optW (bld [(.string (bs [])), (.slice none 0 0)] [(0, 1), (1, 1)] []) fun v75 =>
                optW (pNilCheck (e_2 5)) fun v77 =>
                optW (pOff 7 v77) fun v78 =>
                optW (rdRow false 1 v78 h_16) fun v79 =>
                optW (pNilCheck (e_2 5)) fun v81 =>
                optW (pOff 6 v81) fun v82 =>
                optW (rdRow false 1 v82 h_16) fun v83 =>
                optW (pStore 2 (e_2 2) v75 h_16) fun h_17 =>
                (∀ x ∈ (ceOf 1 v82), vw x h_16 = vw x h_17) ∧
                (∀ x ∈ (ceOf 1 v78), vw x h_16 = vw x h_17) ∧
                optW (resList Try.prog (pt (pt (pt (pt (pt (pt (pt (pt (pt (pt (pt (pt (pt (pt (pt (pt (pt (pt (pt (pt (pt (pt (pt (pt (pt (pt (pt e_2 50 (e_2 5)) 51 v51) 52 v52) 62 (e_2 5)) 63 v63) 64 v64) 65 v65) 66 v66) 67 v67) 68 (e_2 5)) 69 v69) 70 (e_2 5)) 71 v71) 72 v72) 73 v73) 74 v74) 75 v75) 76 (e_2 5)) 77 v77) 78 v78) 79 v79) 80 (e_2 5)) 81 v81) 82 v82) 83 v83) 3 v79) 4 v83) h_17 Try.f17.results.toList) fun vs => K (resOf vs) h_17
              ) (
                optW (pNilCheck (e_2 5)) fun v85 =>
                optW (pOff 8 v85) fun v86 =>
                optW (rdRow false 1 v86 h_16) fun v87 =>
                optW (lenSl v87) fun v88 =>
                loopE (fun I_1 e_3 h_18 =>
                  optW (pBin Try.prog .lss 3 (e_3 89) (e_3 88)) fun v90 =>
                  condW v90 (
                    optW (pIdxS 1 (e_3 87) (e_3 89)) fun v91 =>
                    optW (rdRow false 1 v91 h_18) fun v92 =>
                    optW (pOff 1 (e_3 6)) fun v93 =>
                    optW (rdRow false 1 v93 h_18) fun v94 =>
                    X 38 [v94, v92] h_18 fun v96 h_19 =>
                    optW (pUn .not v96) fun v97 =>
                    condW v97 (
                      optW (bld [(.string (bs [])), (.slice none 0 0)] [(0, 1), (1, 1)] []) fun v98 =>
                      optW (pStore 2 (e_3 2) v98 h_19) fun h_20 =>
                      optW (resList Try.prog (pt (pt (pt (pt (pt (pt (pt (pt (pt (pt (pt (pt e_3 90 v90) 91 v91) 92 v92) 8 v92) 93 v93) 94 v94) 95 v92) 96 v96) 97 v97) 98 v98) 3 (.int .i64 0)) 4 (.int .i64 6)) h_20 Try.f17.results.toList) fun vs => K (resOf vs) h_20
                    ) (
                      optW (pBin Try.prog .add 3 (e_3 89) (.int .i64 1)) fun v99 =>
                      I_1 (pt (pt (pt (pt (pt (pt (pt (pt (pt (pt (pt e_3 90 v90) 91 v91) 92 v92) 8 v92) 93 v93) 94 v94) 95 v92) 96 v96) 97 v97) 99 v99) 89 v99) h_19)
                  ) (
                    optW (pOff 1 (e_3 6)) fun v100 =>
                    optW (rdRow false 1 v100 h_18) fun v101 =>
                    X 39 [v101] h_18 fun v102 h_21 =>
                    optW (pOff 1 (e_3 6)) fun v103 =>
                    optW (pStore 1 v103 v102 h_21) fun h_22 =>
                    optW (rdRow true 2 (e_3 6) h_22) fun v104 =>
                    optW (pStore 2 (e_3 2) v104 h_22) fun h_23 =>
                    optW (resList Try.prog (pt (pt (pt (pt (pt (pt (pt (pt e_3 90 v90) 100 v100) 101 v101) 102 v102) 103 v103) 104 v104) 3 (.int .i64 0)) 4 (.int .i64 0)) h_23 Try.f17.results.toList) fun vs => K (resOf vs) h_23))
                (pt (pt (pt (pt (pt (pt (pt (pt (pt (pt (pt (pt (pt (pt (pt (pt (pt (pt (pt (pt (pt (pt e_2 50 (e_2 5)) 51 v51) 52 v52) 62 (e_2 5)) 63 v63) 64 v64) 65 v65) 66 v66) 67 v67) 68 (e_2 5)) 69 v69) 70 (e_2 5)) 71 v71) 72 v72) 73 v73) 74 v74) 84 (e_2 5)) 85 v85) 86 v86) 87 v87) 88 v88) 89 (.int .i64 0)) h_16)
            ) (
              optW (pNilCheck (e_2 5)) fun v71_1 =>
              optW (pOff 6 v71_1) fun v72_1 =>
              optW (rdRow false 1 v72_1 h_11) fun v73_1 =>
              optW (pBin Try.prog .neq 32 v73_1 (.int .i64 0)) fun v74_1 =>
              condW v74_1 (
                optW (bld [(.string (bs [])), (.slice none 0 0)] [(0, 1), (1, 1)] []) fun v75_1 =>
                optW (pNilCheck (e_2 5)) fun v77_1 =>
                optW (pOff 7 v77_1) fun v78_1 =>
                optW (rdRow false 1 v78_1 h_11) fun v79_1 =>
                optW (pNilCheck (e_2 5)) fun v81_1 =>
                optW (pOff 6 v81_1) fun v82_1 =>
                optW (rdRow false 1 v82_1 h_11) fun v83_1 =>
                optW (pStore 2 (e_2 2) v75_1 h_11) fun h_24 =>
                (∀ x ∈ (ceOf 1 v82_1), vw x h_11 = vw x h_24) ∧
                (∀ x ∈ (ceOf 1 v78_1), vw x h_11 = vw x h_24) ∧
                optW (resList Try.prog (pt (pt (pt (pt (pt (pt (pt (pt (pt (pt (pt (pt (pt (pt (pt (pt (pt (pt (pt (pt (pt (pt (pt (pt (pt e_2 50 (e_2 5)) 51 v51) 52 v52) 62 (e_2 5)) 63 v63) 64 v64) 65 v65) 66 v66) 67 v67) 70 (e_2 5)) 71 v71_1) 72 v72_1) 73 v73_1) 74 v74_1) 75 v75_1) 76 (e_2 5)) 77 v77_1) 78 v78_1) 79 v79_1) 80 (e_2 5)) 81 v81_1) 82 v82_1) 83 v83_1) 3 v79_1) 4 v83_1) h_24 Try.f17.results.toList) fun vs => K (resOf vs) h_24
              ) (
                optW (pNilCheck (e_2 5)) fun v85_1 =>
                optW (pOff 8 v85_1) fun v86_1 =>
                optW (rdRow false 1 v86_1 h_11) fun v87_1 =>
                optW (lenSl v87_1) fun v88_1 =>
                loopE (fun I_2 e_4 h_25 =>
                  optW (pBin Try.prog .lss 3 (e_4 89) (e_4 88)) fun v90_1 =>
                  condW v90_1 (
                    optW (pIdxS 1 (e_4 87) (e_4 89)) fun v91_1 =>
                    optW (rdRow false 1 v91_1 h_25) fun v92_1 =>
                    optW (pOff 1 (e_4 6)) fun v93_1 =>
                    optW (rdRow false 1 v93_1 h_25) fun v94_1 =>
                    X 38 [v94_1, v92_1] h_25 fun v96_1 h_26 =>
                    optW (pUn .not v96_1) fun v97_1 =>
                    condW v97_1 (
                      optW (bld [(.string (bs [])), (.slice none 0 0)] [(0, 1), (1, 1)] []) fun v98_1 =>
                      optW (pStore 2 (e_4 2) v98_1 h_26) fun h_27 =>
                      optW (resList Try.prog (pt (pt (pt (pt (pt (pt (pt (pt (pt (pt (pt (pt e_4 90 v90_1) 91 v91_1) 92 v92_1) 8 v92_1) 93 v93_1) 94 v94_1) 95 v92_1) 96 v96_1) 97 v97_1) 98 v98_1) 3 (.int .i64 0)) 4 (.int .i64 6)) h_27 Try.f17.results.toList) fun vs => K (resOf vs) h_27
                    ) (
                      optW (pBin Try.prog .add 3 (e_4 89) (.int .i64 1)) fun v99_1 =>
                      I_2 (pt (pt (pt (pt (pt (pt (pt (pt (pt (pt (pt e_4 90 v90_1) 91 v91_1) 92 v92_1) 8 v92_1) 93 v93_1) 94 v94_1) 95 v92_1) 96 v96_1) 97 v97_1) 99 v99_1) 89 v99_1) h_26)
                  ) (
                    optW (pOff 1 (e_4 6)) fun v100_1 =>
                    optW (rdRow false 1 v100_1 h_25) fun v101_1 =>
                    X 39 [v101_1] h_25 fun v102_1 h_28 =>
                    optW (pOff 1 (e_4 6)) fun v103_1 =>
                    optW (pStore 1 v103_1 v102_1 h_28) fun h_29 =>
                    optW (rdRow true 2 (e_4 6) h_29) fun v104_1 =>
                    optW (pStore 2 (e_4 2) v104_1 h_29) fun h_30 =>
                    optW (resList Try.prog (pt (pt (pt (pt (pt (pt (pt (pt e_4 90 v90_1) 100 v100_1) 101 v101_1) 102 v102_1) 103 v103_1) 104 v104_1) 3 (.int .i64 0)) 4 (.int .i64 0)) h_30 Try.f17.results.toList) fun vs => K (resOf vs) h_30))
                (pt (pt (pt (pt (pt (pt (pt (pt (pt (pt (pt (pt (pt (pt (pt (pt (pt (pt (pt (pt e_2 50 (e_2 5)) 51 v51) 52 v52) 62 (e_2 5)) 63 v63) 64 v64) 65 v65) 66 v66) 67 v67) 70 (e_2 5)) 71 v71_1) 72 v72_1) 73 v73_1) 74 v74_1) 84 (e_2 5)) 85 v85_1) 86 v86_1) 87 v87_1) 88 v88_1) 89 (.int .i64 0)) h_11))))
        (pt (pt (pt e_1 47 (e_1 5)) 48 v48) 49 v49) h_9)))
theorem e17 (X : CallT) (a0 : Value) (h : AH) (K : Value → AH → Prop) : cwp2 Try.prog X (Try.f17.body.getD .skip) (endW Try.prog Try.f17 K) (envOf [a0]) h = s17 X a0 h K := by kernel_rfl
theorem c17 {a0 : Value} {h : AH} {K : Value → AH → Prop} (hs : s17 (callW Try.prog) a0 h K) : callW Try.prog 17 [a0] h K := callW_of Try.func17 (by kernel_rfl) (Eq.mpr (e17 _ a0 _ _) hs)

end Go.Proofs.Ytlenlhlipmkeeaa.W
end

section
/- Go functions, printed by a program as predicates on what may come behind; each is the function. Conditions: none. -/
namespace Go.Proofs.Ytlenlhlipmkeeaa.W
open Go Go.AM
set_option linter.unusedVariables false
set_option maxRecDepth 100000


/-- canopy/canopyref8.model (I at e: live [1, 3, 4, 5], writes [3, 5, 45, 46, 47, 48, 49, 50, 51, 52, 53, 54, 55, 56, 57, 58, 59, 60, 61, 62, 63, 64, 65, 66]; I_1 at e_1: live [1, 3, 4, 5], writes [3, 5, 45, 46, 47, 48, 49, 50, 51, 52, 53, 54, 55, 56, 57, 58, 59, 60, 61, 62, 63, 64, 65, 66]) -/
def s29 (X : CallT) (a0 : Value) (h : AH) (K : Value → AH → Prop) : Prop :=
  aBox a0 none h fun v1 h_1 =>
  optW (pOff 0 v1) fun v6 =>
  optW (rdRow false 1 v6 h_1) fun v7 =>
  optW (pBin Try.prog .eql 3 v7 (.int .i64 1)) fun v9 =>
  condW v9 (
    K (.string (bs [101, 109, 112, 116, 121])) h_1
  ) (
    optW (pBin Try.prog .eql 3 v7 (.int .i64 2)) fun v11 =>
    condW v11 (
      K (.string (bs [97, 110, 121])) h_1
    ) (
      optW (pBin Try.prog .eql 3 v7 (.int .i64 3)) fun v13 =>
      condW v13 (
        K (.string (bs [116, 101, 120, 116])) h_1
      ) (
        optW (pBin Try.prog .eql 3 v7 (.int .i64 4)) fun v15 =>
        condW v15 (
          optW (pOff 1 v1) fun v16 =>
          optW (rdRow false 1 v16 h_1) fun v17 =>
          K v17 h_1
        ) (
          optW (pBin Try.prog .eql 3 v7 (.int .i64 7)) fun v19 =>
          condW v19 (
            optW (pOff 2 v1) fun v20 =>
            optW (rdRow false 1 v20 h_1) fun v21 =>
            optW (pIdxS 3 v21 (.int .i64 0)) fun v22 =>
            optW (rdRow true 3 v22 h_1) fun v23 =>
            X 54 [v23, (.int .i64 7)] h_1 fun v24 h_2 =>
            optW (pBin Try.prog .add 9 v24 (.string (bs [42]))) fun v25 =>
            K v25 h_2
          ) (
            optW (pBin Try.prog .eql 3 v7 (.int .i64 8)) fun v27 =>
            condW v27 (
              optW (pOff 2 v1) fun v28 =>
              optW (rdRow false 1 v28 h_1) fun v29 =>
              optW (pIdxS 3 v29 (.int .i64 0)) fun v30 =>
              optW (rdRow true 3 v30 h_1) fun v31 =>
              X 54 [v31, (.int .i64 7)] h_1 fun v32 h_3 =>
              optW (pBin Try.prog .add 9 v32 (.string (bs [43]))) fun v33 =>
              K v33 h_3
            ) (
              optW (pBin Try.prog .eql 3 v7 (.int .i64 9)) fun v35 =>
              condW v35 (
                optW (pOff 2 v1) fun v36 =>
                optW (rdRow false 1 v36 h_1) fun v37 =>
                optW (pIdxS 3 v37 (.int .i64 0)) fun v38 =>
                optW (rdRow true 3 v38 h_1) fun v39 =>
                X 54 [v39, (.int .i64 7)] h_1 fun v40 h_4 =>
                optW (pBin Try.prog .add 9 v40 (.string (bs [63]))) fun v41 =>
                K v41 h_4
              ) (
                optW (pOff 0 v1) fun v42 =>
                optW (rdRow false 1 v42 h_1) fun v43 =>
                optW (pBin Try.prog .eql 3 v43 (.int .i64 6)) fun v44 =>
                condW v44 (
                  loopE (fun I e h_5 =>
                    optW (pOff 2 (e 1)) fun v46 =>
                    optW (rdRow false 1 v46 h_5) fun v47 =>
                    optW (lenSl v47) fun v48 =>
                    optW (pBin Try.prog .lss 3 (e 5) v48) fun v49 =>
                    condW v49 (
                      optW (pBin Try.prog .gtr 3 (e 5) (.int .i64 0)) fun v53 =>
                      condW v53 (
                        optW (pBin Try.prog .add 9 (e 3) (e 4)) fun v56 =>
                        optW (pOff 2 (e 1)) fun v58 =>
                        optW (rdRow false 1 v58 h_5) fun v59 =>
                        optW (pIdxS 3 v59 (e 5)) fun v61 =>
                        optW (rdRow true 3 v61 h_5) fun v62 =>
                        optW (pOff 0 (e 1)) fun v63 =>
                        optW (rdRow false 1 v63 h_5) fun v64 =>
                        X 54 [v62, v64] h_5 fun v65 h_6 =>
                        optW (pBin Try.prog .add 9 v56 v65) fun v66 =>
                        optW (pBin Try.prog .add 3 (e 5) (.int .i64 1)) fun v51 =>
                        I (pt (pt (pt (pt (pt (pt (pt (pt (pt (pt (pt (pt (pt (pt (pt (pt (pt (pt (pt (pt (pt (pt (pt (pt (pt e 45 (e 5)) 46 v46) 47 v47) 48 v48) 49 v49) 52 (e 5)) 53 v53) 54 (e 3)) 55 (e 4)) 56 v56) 3 v56) 57 v56) 58 v58) 59 v59) 60 (e 5)) 61 v61) 62 v62) 63 v63) 64 v64) 65 v65) 66 v66) 3 v66) 50 (e 5)) 51 v51) 5 v51) h_6
                      ) (
                        optW (pOff 2 (e 1)) fun v58_1 =>
                        optW (rdRow false 1 v58_1 h_5) fun v59_1 =>
                        optW (pIdxS 3 v59_1 (e 5)) fun v61_1 =>
                        optW (rdRow true 3 v61_1 h_5) fun v62_1 =>
                        optW (pOff 0 (e 1)) fun v63_1 =>
                        optW (rdRow false 1 v63_1 h_5) fun v64_1 =>
                        X 54 [v62_1, v64_1] h_5 fun v65_1 h_7 =>
                        optW (pBin Try.prog .add 9 (e 3) v65_1) fun v66_1 =>
                        optW (pBin Try.prog .add 3 (e 5) (.int .i64 1)) fun v51_1 =>
                        I (pt (pt (pt (pt (pt (pt (pt (pt (pt (pt (pt (pt (pt (pt (pt (pt (pt (pt (pt (pt (pt e 45 (e 5)) 46 v46) 47 v47) 48 v48) 49 v49) 52 (e 5)) 53 v53) 57 (e 3)) 58 v58_1) 59 v59_1) 60 (e 5)) 61 v61_1) 62 v62_1) 63 v63_1) 64 v64_1) 65 v65_1) 66 v66_1) 3 v66_1) 50 (e 5)) 51 v51_1) 5 v51_1) h_7)
                    ) (
                      K (e 3) h_5))
                  (pt (pt (pt (pt (pt (pt (pt (pt (pt (pt (pt (pt (pt (pt (pt (pt (pt (pt (pt (pt (pt (pt (pt (pt (pt (envOf [a0]) 1 v1) 2 (.string (bs []))) 6 v6) 7 v7) 9 v9) 8 v9) 11 v11) 10 v11) 13 v13) 12 v13) 15 v15) 14 v15) 19 v19) 18 v19) 27 v27) 26 v27) 35 v35) 34 v35) 3 (.string (bs []))) 4 (.string (bs [44, 32]))) 42 v42) 43 v43) 44 v44) 4 (.string (bs [32, 124, 32]))) 5 (.int .i64 0)) h_1
                ) (
                  loopE (fun I_1 e_1 h_8 =>
                    optW (pOff 2 (e_1 1)) fun v46_1 =>
                    optW (rdRow false 1 v46_1 h_8) fun v47_1 =>
                    optW (lenSl v47_1) fun v48_1 =>
                    optW (pBin Try.prog .lss 3 (e_1 5) v48_1) fun v49_1 =>
                    condW v49_1 (
                      optW (pBin Try.prog .gtr 3 (e_1 5) (.int .i64 0)) fun v53_1 =>
                      condW v53_1 (
                        optW (pBin Try.prog .add 9 (e_1 3) (e_1 4)) fun v56_1 =>
                        optW (pOff 2 (e_1 1)) fun v58_2 =>
                        optW (rdRow false 1 v58_2 h_8) fun v59_2 =>
                        optW (pIdxS 3 v59_2 (e_1 5)) fun v61_2 =>
                        optW (rdRow true 3 v61_2 h_8) fun v62_2 =>
                        optW (pOff 0 (e_1 1)) fun v63_2 =>
                        optW (rdRow false 1 v63_2 h_8) fun v64_2 =>
                        X 54 [v62_2, v64_2] h_8 fun v65_2 h_9 =>
                        optW (pBin Try.prog .add 9 v56_1 v65_2) fun v66_2 =>
                        optW (pBin Try.prog .add 3 (e_1 5) (.int .i64 1)) fun v51_2 =>
                        I_1 (pt (pt (pt (pt (pt (pt (pt (pt (pt (pt (pt (pt (pt (pt (pt (pt (pt (pt (pt (pt (pt (pt (pt (pt (pt e_1 45 (e_1 5)) 46 v46_1) 47 v47_1) 48 v48_1) 49 v49_1) 52 (e_1 5)) 53 v53_1) 54 (e_1 3)) 55 (e_1 4)) 56 v56_1) 3 v56_1) 57 v56_1) 58 v58_2) 59 v59_2) 60 (e_1 5)) 61 v61_2) 62 v62_2) 63 v63_2) 64 v64_2) 65 v65_2) 66 v66_2) 3 v66_2) 50 (e_1 5)) 51 v51_2) 5 v51_2) h_9
                      ) (
                        optW (pOff 2 (e_1 1)) fun v58_3 =>
                        optW (rdRow false 1 v58_3 h_8) fun v59_3 =>
                        optW (pIdxS 3 v59_3 (e_1 5)) fun v61_3 =>
                        optW (rdRow true 3 v61_3 h_8) fun v62_3 =>
                        optW (pOff 0 (e_1 1)) fun v63_3 =>
                        optW (rdRow false 1 v63_3 h_8) fun v64_3 =>
                        X 54 [v62_3, v64_3] h_8 fun v65_3 h_10 =>
                        optW (pBin Try.prog .add 9 (e_1 3) v65_3) fun v66_3 =>
                        optW (pBin Try.prog .add 3 (e_1 5) (.int .i64 1)) fun v51_3 =>
                        I_1 (pt (pt (pt (pt (pt (pt (pt (pt (pt (pt (pt (pt (pt (pt (pt (pt (pt (pt (pt (pt (pt e_1 45 (e_1 5)) 46 v46_1) 47 v47_1) 48 v48_1) 49 v49_1) 52 (e_1 5)) 53 v53_1) 57 (e_1 3)) 58 v58_3) 59 v59_3) 60 (e_1 5)) 61 v61_3) 62 v62_3) 63 v63_3) 64 v64_3) 65 v65_3) 66 v66_3) 3 v66_3) 50 (e_1 5)) 51 v51_3) 5 v51_3) h_10)
                    ) (
                      K (e_1 3) h_8))
                  (pt (pt (pt (pt (pt (pt (pt (pt (pt (pt (pt (pt (pt (pt (pt (pt (pt (pt (pt (pt (pt (pt (pt (pt (envOf [a0]) 1 v1) 2 (.string (bs []))) 6 v6) 7 v7) 9 v9) 8 v9) 11 v11) 10 v11) 13 v13) 12 v13) 15 v15) 14 v15) 19 v19) 18 v19) 27 v27) 26 v27) 35 v35) 34 v35) 3 (.string (bs []))) 4 (.string (bs [44, 32]))) 42 v42) 43 v43) 44 v44) 5 (.int .i64 0)) h_1))))))))
theorem e29 (X : CallT) (a0 : Value) (h : AH) (K : Value → AH → Prop) : cwp2 Try.prog X (Try.f29.body.getD .skip) (endW Try.prog Try.f29 K) (envOf [a0]) h = s29 X a0 h K := by kernel_rfl
theorem c29 {a0 : Value} {h : AH} {K : Value → AH → Prop} (hs : s29 (callW Try.prog) a0 h K) : callW Try.prog 29 [a0] h K := callW_of Try.func29 (by kernel_rfl) (Eq.mpr (e29 _ a0 _ _) hs)

/-- (*canopy/canopylaw8.maker).next () -/
def s30 (X : CallT) (a0 a1 : Value) (h : AH) (K : Value → AH → Prop) : Prop :=
  optW (pNilCheck a0) fun v6 =>
  optW (pOff 2 v6) fun v7 =>
  optW (rdRow false 1 v7 h) fun v8 =>
  optW (pNilCheck a0) fun v10 =>
  optW (pOff 1 v10) fun v11 =>
  optW (rdRow false 1 v11 h) fun v12 =>
  optW (lenSl v12) fun v13 =>
  optW (pBin Try.prog .geq 3 v8 v13) fun v14 =>
  condW v14 (
    K (.int .i64 0) h
  ) (
    optW (pNilCheck a0) fun v16 =>
    optW (pOff 2 v16) fun v17 =>
    optW (rdRow false 1 v17 h) fun v18 =>
    optW (pBin Try.prog .add 3 v18 (.int .i64 1)) fun v19 =>
    optW (pNilCheck a0) fun v20 =>
    optW (pOff 2 v20) fun v21 =>
    optW (pStore 1 v21 v19 h) fun h_1 =>
    optW (pNilCheck a0) fun v23 =>
    optW (pOff 1 v23) fun v24 =>
    optW (rdRow false 1 v24 h_1) fun v25 =>
    optW (pNilCheck a0) fun v27 =>
    optW (pOff 2 v27) fun v28 =>
    optW (rdRow false 1 v28 h_1) fun v29 =>
    optW (pBin Try.prog .sub 3 v29 (.int .i64 1)) fun v30 =>
    optW (pIdxS 1 v25 v30) fun v31 =>
    optW (rdRow false 1 v31 h_1) fun v32 =>
    X 15 [v32, a1] h_1 fun v34 h_2 =>
    K v34 h_2)
theorem e30 (X : CallT) (a0 a1 : Value) (h : AH) (K : Value → AH → Prop) : cwp2 Try.prog X (Try.f30.body.getD .skip) (endW Try.prog Try.f30 K) (envOf [a0, a1]) h = s30 X a0 a1 h K := by kernel_rfl
theorem c30 {a0 a1 : Value} {h : AH} {K : Value → AH → Prop} (hs : s30 (callW Try.prog) a0 a1 h K) : callW Try.prog 30 [a0, a1] h K := callW_of Try.func30 (by kernel_rfl) (Eq.mpr (e30 _ a0 a1 _ _) hs)

/-- (*canopy/canopylaw8.maker).make (J at e: live [0, 1, 4, 5]; J_1 at e_1: live [0, 4]; J_2 at e_2: live [0, 1, 4, 5, 13, 23]) -/
def s31 (X : CallT) (a0 a1 : Value) (h : AH) (K : Value → AH → Prop) : Prop :=
  newR none [(.int .i64 0), (.string (bs [])), (.slice none 0 0)] h fun v4 h_1 =>
  X 30 [a0, (.int .i64 14)] h_1 fun v8 h_2 =>
  joinE (fun J =>
    optW (pBin Try.prog .leq 3 a1 (.int .i64 0)) fun v10 =>
    condW v10 (
      optW (pBin Try.prog .rem 3 v8 (.int .i64 6)) fun v12 =>
      J (pt (pt (pt (pt (pt (pt (pt (pt (pt (envOf [a0, a1]) 4 v4) 7 a0) 8 v8) 5 v8) 9 a1) 10 v10) 11 v8) 12 v12) 5 v12) h_2
    ) (
      J (pt (pt (pt (pt (pt (pt (envOf [a0, a1]) 4 v4) 7 a0) 8 v8) 5 v8) 9 a1) 10 v10) h_2))
  (fun e h_3 =>
    joinE (fun J_1 =>
      optW (pBin Try.prog .eql 3 (e 5) (.int .i64 0)) fun v15 =>
      condW v15 (
        optW (bld [(.int .i64 0), (.string (bs [])), (.slice none 0 0)] [(0, 1), (1, 1), (2, 1)] [(0, (.int .i64 1))]) fun v16 =>
        optW (pStore 3 (e 4) v16 h_3) fun h_7 =>
        optW (resList Try.prog (pt (pt (pt (pt e 13 (e 5)) 15 v15) 14 v15) 16 v16) h_7 Try.f31.results.toList) fun vs => K (resOf vs) h_7
      ) (
        optW (pBin Try.prog .eql 3 (e 5) (.int .i64 1)) fun v18 =>
        condW v18 (
          optW (bld [(.int .i64 0), (.string (bs [])), (.slice none 0 0)] [(0, 1), (1, 1), (2, 1)] [(0, (.int .i64 2))]) fun v19 =>
          optW (pStore 3 (e 4) v19 h_3) fun h_8 =>
          optW (resList Try.prog (pt (pt (pt (pt (pt (pt e 13 (e 5)) 15 v15) 14 v15) 18 v18) 17 v18) 19 v19) h_8 Try.f31.results.toList) fun vs => K (resOf vs) h_8
        ) (
          optW (pBin Try.prog .eql 3 (e 5) (.int .i64 2)) fun v21 =>
          condW v21 (
            optW (bld [(.int .i64 0), (.string (bs [])), (.slice none 0 0)] [(0, 1), (1, 1), (2, 1)] [(0, (.int .i64 3))]) fun v22 =>
            optW (pStore 3 (e 4) v22 h_3) fun h_9 =>
            optW (resList Try.prog (pt (pt (pt (pt (pt (pt (pt (pt e 13 (e 5)) 15 v15) 14 v15) 18 v18) 17 v18) 21 v21) 20 v21) 22 v22) h_9 Try.f31.results.toList) fun vs => K (resOf vs) h_9
          ) (
            joinE (fun J_2 =>
              optW (pBin Try.prog .eql 3 (e 5) (.int .i64 6)) fun v24 =>
              condW v24 (
                J_2 (pt (pt (pt (pt (pt (pt (pt (pt (pt e 13 (e 5)) 15 v15) 14 v15) 18 v18) 17 v18) 21 v21) 20 v21) 24 v24) 23 v24) h_3
              ) (
                optW (pBin Try.prog .eql 3 (e 5) (.int .i64 7)) fun v25 =>
                condW v25 (
                  J_2 (pt (pt (pt (pt (pt (pt (pt (pt (pt (pt (pt e 13 (e 5)) 15 v15) 14 v15) 18 v18) 17 v18) 21 v21) 20 v21) 24 v24) 23 v24) 25 v25) 23 v25) h_3
                ) (
                  optW (pBin Try.prog .eql 3 (e 5) (.int .i64 8)) fun v26 =>
                  condW v26 (
                    J_2 (pt (pt (pt (pt (pt (pt (pt (pt (pt (pt (pt (pt (pt e 13 (e 5)) 15 v15) 14 v15) 18 v18) 17 v18) 21 v21) 20 v21) 24 v24) 23 v24) 25 v25) 23 v25) 26 v26) 23 v26) h_3
                  ) (
                    optW (pBin Try.prog .eql 3 (e 5) (.int .i64 9)) fun v27 =>
                    condW v27 (
                      J_2 (pt (pt (pt (pt (pt (pt (pt (pt (pt (pt (pt (pt (pt (pt (pt e 13 (e 5)) 15 v15) 14 v15) 18 v18) 17 v18) 21 v21) 20 v21) 24 v24) 23 v24) 25 v25) 23 v25) 26 v26) 23 v26) 27 v27) 23 v27) h_3
                    ) (
                      optW (pBin Try.prog .eql 3 (e 5) (.int .i64 10)) fun v28 =>
                      J_2 (pt (pt (pt (pt (pt (pt (pt (pt (pt (pt (pt (pt (pt (pt (pt (pt (pt e 13 (e 5)) 15 v15) 14 v15) 18 v18) 17 v18) 21 v21) 20 v21) 24 v24) 23 v24) 25 v25) 23 v25) 26 v26) 23 v26) 27 v27) 23 v27) 28 v28) 23 v28) h_3)))))
            (fun e_2 h_10 =>
              condW (e_2 23) (
                optW (pBin Try.prog .sub 3 (e_2 1) (.int .i64 1)) fun v31 =>
                X 31 [(e_2 0), v31] h_10 fun v32 h_11 =>
                optW (pBin Try.prog .sub 3 (e_2 1) (.int .i64 1)) fun v35 =>
                X 31 [(e_2 0), v35] h_11 fun v36 h_12 =>
                optW (bldSl 3 [(.int .i64 0), (.string (bs [])), (.slice none 0 0)] 2 [(0, v32), (1, v36)]) fun c =>
                newW none (.row c true) h_12 fun i h_13 =>
                X 30 [(e_2 0), (.int .i64 3)] h_13 fun v39 h_14 =>
                optW (pBin Try.prog .eql 3 v39 (.int .i64 0)) fun v40 =>
                condW v40 (
                  optW (pBin Try.prog .sub 3 (e_2 1) (.int .i64 1)) fun v44 =>
                  X 31 [(e_2 0), v44] h_14 fun v45 h_15 =>
                  optW (bldSl 3 [(.int .i64 0), (.string (bs [])), (.slice none 0 0)] 1 [(0, v45)]) fun c_1 =>
                  newW none (.row c_1 true) h_15 fun i_1 h_16 =>
                  appSl 3 (.slice (some ⟨i, 0, none⟩) 2 2) (.slice (some ⟨i_1, 0, none⟩) 1 1) h_16 fun v47 h_17 =>
                  optW (pBin Try.prog .rem 3 (e_2 5) (.int .i64 2)) fun v49 =>
                  optW (pBin Try.prog .add 3 (.int .i64 5) v49) fun v50 =>
                  optW (bld [(.int .i64 0), (.string (bs [])), (.slice none 0 0)] [(0, 1), (1, 1), (2, 1)] [(0, v50), (2, v47)]) fun v52 =>
                  optW (pStore 3 (e_2 4) v52 h_17) fun h_18 =>
                  optW (resList Try.prog (pt (pt (pt (pt (pt (pt (pt (pt (pt (pt (pt (pt (pt (pt (pt (pt (pt (pt (pt (pt (pt (pt (pt (pt (pt (pt e_2 29 (e_2 0)) 30 (e_2 1)) 31 v31) 32 v32) 33 (e_2 0)) 34 (e_2 1)) 35 v35) 36 v36) 37 (.slice (some ⟨i, 0, none⟩) 2 2)) 6 (.slice (some ⟨i, 0, none⟩) 2 2)) 38 (e_2 0)) 39 v39) 40 v40) 41 (.slice (some ⟨i, 0, none⟩) 2 2)) 42 (e_2 0)) 43 (e_2 1)) 44 v44) 45 v45) 46 (.slice (some ⟨i_1, 0, none⟩) 1 1)) 47 v47) 6 v47) 48 (e_2 5)) 49 v49) 50 v50) 51 v47) 52 v52) h_18 Try.f31.results.toList) fun vs => K (resOf vs) h_18
                ) (
                  optW (pBin Try.prog .rem 3 (e_2 5) (.int .i64 2)) fun v49_1 =>
                  optW (pBin Try.prog .add 3 (.int .i64 5) v49_1) fun v50_1 =>
                  optW (bld [(.int .i64 0), (.string (bs [])), (.slice none 0 0)] [(0, 1), (1, 1), (2, 1)] [(0, v50_1), (2, (.slice (some ⟨i, 0, none⟩) 2 2))]) fun v52_1 =>
                  optW (pStore 3 (e_2 4) v52_1 h_14) fun h_19 =>
                  optW (resList Try.prog (pt (pt (pt (pt (pt (pt (pt (pt (pt (pt (pt (pt (pt (pt (pt (pt (pt (pt e_2 29 (e_2 0)) 30 (e_2 1)) 31 v31) 32 v32) 33 (e_2 0)) 34 (e_2 1)) 35 v35) 36 v36) 37 (.slice (some ⟨i, 0, none⟩) 2 2)) 6 (.slice (some ⟨i, 0, none⟩) 2 2)) 38 (e_2 0)) 39 v39) 40 v40) 48 (e_2 5)) 49 v49_1) 50 v50_1) 51 (.slice (some ⟨i, 0, none⟩) 2 2)) 52 v52_1) h_19 Try.f31.results.toList) fun vs => K (resOf vs) h_19)
              ) (
                optW (pBin Try.prog .eql 3 (e_2 13) (.int .i64 11)) fun v54 =>
                condW v54 (
                  condW v54 (
                    X 30 [(e_2 0), (.int .i64 3)] h_10 fun v58 h_20 =>
                    optW (pBin Try.prog .add 3 (.int .i64 7) v58) fun v59 =>
                    optW (pBin Try.prog .sub 3 (e_2 1) (.int .i64 1)) fun v62 =>
                    X 31 [(e_2 0), v62] h_20 fun v63 h_21 =>
                    optW (bldSl 3 [(.int .i64 0), (.string (bs [])), (.slice none 0 0)] 1 [(0, v63)]) fun c_2 =>
                    newW none (.row c_2 true) h_21 fun i_2 h_22 =>
                    optW (bld [(.int .i64 0), (.string (bs [])), (.slice none 0 0)] [(0, 1), (1, 1), (2, 1)] [(0, v59), (2, (.slice (some ⟨i_2, 0, none⟩) 1 1))]) fun v65 =>
                    optW (pStore 3 (e_2 4) v65 h_22) fun h_23 =>
                    optW (resList Try.prog (pt (pt (pt (pt (pt (pt (pt (pt (pt (pt (pt e_2 54 v54) 53 v54) 57 (e_2 0)) 58 v58) 59 v59) 60 (e_2 0)) 61 (e_2 1)) 62 v62) 63 v63) 64 (.slice (some ⟨i_2, 0, none⟩) 1 1)) 65 v65) h_23 Try.f31.results.toList) fun vs => K (resOf vs) h_23
                  ) (
                    J_1 (pt (pt e_2 54 v54) 53 v54) h_10)
                ) (
                  optW (pBin Try.prog .eql 3 (e_2 13) (.int .i64 12)) fun v55 =>
                  condW v55 (
                    condW v55 (
                      X 30 [(e_2 0), (.int .i64 3)] h_10 fun v58_1 h_24 =>
                      optW (pBin Try.prog .add 3 (.int .i64 7) v58_1) fun v59_1 =>
                      optW (pBin Try.prog .sub 3 (e_2 1) (.int .i64 1)) fun v62_1 =>
                      X 31 [(e_2 0), v62_1] h_24 fun v63_1 h_25 =>
                      optW (bldSl 3 [(.int .i64 0), (.string (bs [])), (.slice none 0 0)] 1 [(0, v63_1)]) fun c_3 =>
                      newW none (.row c_3 true) h_25 fun i_3 h_26 =>
                      optW (bld [(.int .i64 0), (.string (bs [])), (.slice none 0 0)] [(0, 1), (1, 1), (2, 1)] [(0, v59_1), (2, (.slice (some ⟨i_3, 0, none⟩) 1 1))]) fun v65_1 =>
                      optW (pStore 3 (e_2 4) v65_1 h_26) fun h_27 =>
                      optW (resList Try.prog (pt (pt (pt (pt (pt (pt (pt (pt (pt (pt (pt (pt (pt e_2 54 v54) 53 v54) 55 v55) 53 v55) 57 (e_2 0)) 58 v58_1) 59 v59_1) 60 (e_2 0)) 61 (e_2 1)) 62 v62_1) 63 v63_1) 64 (.slice (some ⟨i_3, 0, none⟩) 1 1)) 65 v65_1) h_27 Try.f31.results.toList) fun vs => K (resOf vs) h_27
                    ) (
                      J_1 (pt (pt (pt (pt e_2 54 v54) 53 v54) 55 v55) 53 v55) h_10)
                  ) (
                    optW (pBin Try.prog .eql 3 (e_2 13) (.int .i64 13)) fun v56 =>
                    condW v56 (
                      X 30 [(e_2 0), (.int .i64 3)] h_10 fun v58_2 h_28 =>
                      optW (pBin Try.prog .add 3 (.int .i64 7) v58_2) fun v59_2 =>
                      optW (pBin Try.prog .sub 3 (e_2 1) (.int .i64 1)) fun v62_2 =>
                      X 31 [(e_2 0), v62_2] h_28 fun v63_2 h_29 =>
                      optW (bldSl 3 [(.int .i64 0), (.string (bs [])), (.slice none 0 0)] 1 [(0, v63_2)]) fun c_4 =>
                      newW none (.row c_4 true) h_29 fun i_4 h_30 =>
                      optW (bld [(.int .i64 0), (.string (bs [])), (.slice none 0 0)] [(0, 1), (1, 1), (2, 1)] [(0, v59_2), (2, (.slice (some ⟨i_4, 0, none⟩) 1 1))]) fun v65_2 =>
                      optW (pStore 3 (e_2 4) v65_2 h_30) fun h_31 =>
                      optW (resList Try.prog (pt (pt (pt (pt (pt (pt (pt (pt (pt (pt (pt (pt (pt (pt (pt e_2 54 v54) 53 v54) 55 v55) 53 v55) 56 v56) 53 v56) 57 (e_2 0)) 58 v58_2) 59 v59_2) 60 (e_2 0)) 61 (e_2 1)) 62 v62_2) 63 v63_2) 64 (.slice (some ⟨i_4, 0, none⟩) 1 1)) 65 v65_2) h_31 Try.f31.results.toList) fun vs => K (resOf vs) h_31
                    ) (
                      J_1 (pt (pt (pt (pt (pt (pt e_2 54 v54) 53 v54) 55 v55) 53 v55) 56 v56) 53 v56) h_10)))))))))
    (fun e_1 h_4 =>
      optW (pNilCheck (e_1 0)) fun v67 =>
      optW (pOff 0 v67) fun v68 =>
      optW (rdRow false 1 v68 h_4) fun v69 =>
      optW (pNilCheck (e_1 0)) fun v72 =>
      optW (pOff 0 v72) fun v73 =>
      optW (rdRow false 1 v73 h_4) fun v74 =>
      optW (lenSl v74) fun v75 =>
      X 30 [(e_1 0), v75] h_4 fun v76 h_5 =>
      (∀ x ∈ (ceOf 1 v68), vw x h_4 = vw x h_5) ∧
      optW (pIdxS 1 v69 v76) fun v77 =>
      optW (rdRow false 1 v77 h_5) fun v78 =>
      optW (bld [(.int .i64 0), (.string (bs [])), (.slice none 0 0)] [(0, 1), (1, 1), (2, 1)] [(0, (.int .i64 4)), (1, v78)]) fun v79 =>
      optW (pStore 3 (e_1 4) v79 h_5) fun h_6 =>
      optW (resList Try.prog (pt (pt (pt (pt (pt (pt (pt (pt (pt (pt (pt (pt (pt (pt e_1 66 (e_1 0)) 67 v67) 68 v68) 69 v69) 70 (e_1 0)) 71 (e_1 0)) 72 v72) 73 v73) 74 v74) 75 v75) 76 v76) 77 v77) 78 v78) 79 v79) h_6 Try.f31.results.toList) fun vs => K (resOf vs) h_6))
theorem e31 (X : CallT) (a0 a1 : Value) (h : AH) (K : Value → AH → Prop) : cwp2 Try.prog X (Try.f31.body.getD .skip) (endW Try.prog Try.f31 K) (envOf [a0, a1]) h = s31 X a0 a1 h K := by kernel_rfl
theorem c31 {a0 a1 : Value} {h : AH} {K : Value → AH → Prop} (hs : s31 (callW Try.prog) a0 a1 h K) : callW Try.prog 31 [a0, a1] h K := callW_of Try.func31 (by kernel_rfl) (Eq.mpr (e31 _ a0 a1 _ _) hs)

/-- (*canopy/schema.parser).next (I at e: live [0], writes [11, 12, 13, 14, 15, 16, 17, 18, 19, 20, 21, 22, 23, 24, 25, 26, 27, 28, 29, 30, 31, 32, 33, 34, 35, 36, 37, 38, 39, 40, 41, 42, 43, 44, 45, 46, 47, 48, 49, 50, 51]) -/
def s32 (X : CallT) (a0 : Value) (h : AH) (K : Value → AH → Prop) : Prop :=
  optW (pNilCheck a0) fun v6 =>
  optW (pOff 2 v6) fun v7 =>
  optW (rdRow false 1 v7 h) fun v8 =>
  optW (pNilCheck a0) fun v9 =>
  optW (pOff 1 v9) fun v10 =>
  optW (pStore 1 v10 v8 h) fun h_1 =>
  loopE (fun I e h_2 =>
    optW (pNilCheck (e 0)) fun v12 =>
    optW (pOff 1 v12) fun v13 =>
    optW (rdRow false 1 v13 h_2) fun v14 =>
    optW (pNilCheck (e 0)) fun v16 =>
    optW (pOff 0 v16) fun v17 =>
    optW (rdRow false 1 v17 h_2) fun v18 =>
    optW (lenStr v18) fun v19 =>
    optW (pBin Try.prog .lss 3 v14 v19) fun v20 =>
    gopD (gB v20 true) (fun k =>
      k (e 0) h_2 [] ((7, (ceOf 1 v17)) :: ((3, (ceOf 1 v13)) :: []))) h_2 [] ((7, (ceOf 1 v17)) :: ((3, (ceOf 1 v13)) :: [])) fun v22 h_3 H S =>
    gopD (gB v20 true) (fun k_1 =>
      optW (pNilCheck v22) fun v23_1 =>
      k_1 v23_1 h_3 H S) h_3 H S fun v23 h_4 H_1 S_1 =>
    gopD (gB v20 true) (fun k_2 =>
      optW (pOff 0 v23) fun v24_1 =>
      k_2 v24_1 h_4 H_1 S_1) h_4 H_1 S_1 fun v24 h_5 H_2 S_2 =>
    gopD (gB v20 true) (fun k_3 =>
      histC #[0, 1, 3, 7, 0, 16, 48, 112, 240, 511, 1023, 2047, 4095, 8191, 16383, 2047, 34815, 100351, 231423, 524287, 1048575, 2097151, 4194303, 8388607, 16777215, 33554431, 4194303, 71303167, 205520895, 473956351, 1073741823, 2147483647, 4294967295, 8589934591] 14 (ceOf 1 v24) H_2 (
        optW (rdRow false 1 v24 h_5) fun v25_1 =>
        k_3 v25_1 h_5 H_2 ((14, (ceOf 1 v24)) :: S_2))) h_5 H_2 S_2 fun v25 h_6 H_3 S_3 =>
    gopD (gB v20 true) (fun k_4 =>
      k_4 (e 0) h_6 H_3 S_3) h_6 H_3 S_3 fun v26 h_7 H_4 S_4 =>
    gopD (gB v20 true) (fun k_5 =>
      optW (pNilCheck v26) fun v27_1 =>
      k_5 v27_1 h_7 H_4 S_4) h_7 H_4 S_4 fun v27 h_8 H_5 S_5 =>
    gopD (gB v20 true) (fun k_6 =>
      optW (pOff 1 v27) fun v28_1 =>
      k_6 v28_1 h_8 H_5 S_5) h_8 H_5 S_5 fun v28 h_9 H_6 S_6 =>
    gopD (gB v20 true) (fun k_7 =>
      histC #[0, 1, 3, 7, 0, 16, 48, 112, 240, 511, 1023, 2047, 4095, 8191, 16383, 2047, 34815, 100351, 231423, 524287, 1048575, 2097151, 4194303, 8388607, 16777215, 33554431, 4194303, 71303167, 205520895, 473956351, 1073741823, 2147483647, 4294967295, 8589934591] 18 (ceOf 1 v28) H_6 (
        optW (rdRow false 1 v28 h_9) fun v29_1 =>
        k_7 v29_1 h_9 H_6 ((18, (ceOf 1 v28)) :: S_6))) h_9 H_6 S_6 fun v29 h_10 H_7 S_7 =>
    gopD (gB v20 true) (fun k_8 =>
      optW (pIdxStr v25 v29) fun v30_1 =>
      k_8 v30_1 h_10 H_7 S_7) h_10 H_7 S_7 fun v30 h_11 H_8 S_8 =>
    gopD (gB v20 true) (fun k_9 =>
      optW (pBin Try.prog .eql 5 v30 (.int .u8 32)) fun v31_1 =>
      k_9 v31_1 h_11 H_8 S_8) h_11 H_8 S_8 fun v31 h_12 H_9 S_9 =>
    gopD (gB v20 true) (fun k_10 =>
      k_10 v31 h_12 H_9 S_9) h_12 H_9 S_9 fun v32 h_13 H_10 S_10 =>
    gopD (gB v32 false) (fun k_11 =>
      k_11 (e 0) h_13 H_10 S_10) h_13 H_10 S_10 fun v33 h_14 H_11 S_11 =>
    gopD (gB v32 false) (fun k_12 =>
      optW (pNilCheck v33) fun v34_1 =>
      k_12 v34_1 h_14 H_11 S_11) h_14 H_11 S_11 fun v34 h_15 H_12 S_12 =>
    gopD (gB v32 false) (fun k_13 =>
      optW (pOff 0 v34) fun v35_1 =>
      k_13 v35_1 h_15 H_12 S_12) h_15 H_12 S_12 fun v35 h_16 H_13 S_13 =>
    gopD (gB v32 false) (fun k_14 =>
      histC #[0, 1, 3, 7, 0, 16, 48, 112, 240, 511, 1023, 2047, 4095, 8191, 16383, 2047, 34815, 100351, 231423, 524287, 1048575, 2097151, 4194303, 8388607, 16777215, 33554431, 4194303, 71303167, 205520895, 473956351, 1073741823, 2147483647, 4294967295, 8589934591] 25 (ceOf 1 v35) H_13 (
        optW (rdRow false 1 v35 h_16) fun v36_1 =>
        k_14 v36_1 h_16 H_13 ((25, (ceOf 1 v35)) :: S_13))) h_16 H_13 S_13 fun v36 h_17 H_14 S_14 =>
    gopD (gB v32 false) (fun k_15 =>
      k_15 (e 0) h_17 H_14 S_14) h_17 H_14 S_14 fun v37 h_18 H_15 S_15 =>
    gopD (gB v32 false) (fun k_16 =>
      optW (pNilCheck v37) fun v38_1 =>
      k_16 v38_1 h_18 H_15 S_15) h_18 H_15 S_15 fun v38 h_19 H_16 S_16 =>
    gopD (gB v32 false) (fun k_17 =>
      optW (pOff 1 v38) fun v39_1 =>
      k_17 v39_1 h_19 H_16 S_16) h_19 H_16 S_16 fun v39 h_20 H_17 S_17 =>
    gopD (gB v32 false) (fun k_18 =>
      histC #[0, 1, 3, 7, 0, 16, 48, 112, 240, 511, 1023, 2047, 4095, 8191, 16383, 2047, 34815, 100351, 231423, 524287, 1048575, 2097151, 4194303, 8388607, 16777215, 33554431, 4194303, 71303167, 205520895, 473956351, 1073741823, 2147483647, 4294967295, 8589934591] 29 (ceOf 1 v39) H_17 (
        optW (rdRow false 1 v39 h_20) fun v40_1 =>
        k_18 v40_1 h_20 H_17 ((29, (ceOf 1 v39)) :: S_17))) h_20 H_17 S_17 fun v40 h_21 H_18 S_18 =>
    gopD (gB v32 false) (fun k_19 =>
      optW (pIdxStr v36 v40) fun v41_1 =>
      k_19 v41_1 h_21 H_18 S_18) h_21 H_18 S_18 fun v41 h_22 H_19 S_19 =>
    gopD (gB v32 false) (fun k_20 =>
      optW (pBin Try.prog .eql 5 v41 (.int .u8 10)) fun v42_1 =>
      k_20 v42_1 h_22 H_19 S_19) h_22 H_19 S_19 fun v42 h_23 H_20 S_20 =>
    gopD (gB v20 true) (fun k_21 =>
      optW (pPick v32 (.bool true) v42) fun v43_1 =>
      k_21 v43_1 h_23 H_20 S_20) h_23 H_20 S_20 fun v43 h_24 H_21 S_21 =>
    optW (pPick v20 v43 (.bool false)) fun v44 =>
    condW v44 (
      optW (pNilCheck (e 0)) fun v46 =>
      optW (pOff 1 v46) fun v47 =>
      optW (rdRow false 1 v47 h_24) fun v48 =>
      optW (pBin Try.prog .add 3 v48 (.int .i64 1)) fun v49 =>
      optW (pNilCheck (e 0)) fun v50 =>
      optW (pOff 1 v50) fun v51 =>
      optW (pStore 1 v51 v49 h_24) fun h_25 =>
      I (pt (pt (pt (pt (pt (pt (pt (pt (pt (pt (pt (pt (pt (pt (pt (pt (pt (pt (pt (pt (pt (pt (pt (pt (pt (pt (pt (pt (pt (pt (pt (pt (pt (pt (pt (pt (pt (pt (pt (pt (pt e 11 (e 0)) 12 v12) 13 v13) 14 v14) 15 (e 0)) 16 v16) 17 v17) 18 v18) 19 v19) 20 v20) 21 v20) 22 v22) 23 v23) 24 v24) 25 v25) 26 v26) 27 v27) 28 v28) 29 v29) 30 v30) 31 v31) 32 v32) 33 v33) 34 v34) 35 v35) 36 v36) 37 v37) 38 v38) 39 v39) 40 v40) 41 v41) 42 v42) 43 v43) 44 v44) 45 (e 0)) 46 v46) 47 v47) 48 v48) 49 v49) 50 v50) 51 v51) h_25
    ) (
      optW (pNilCheck (e 0)) fun v53 =>
      optW (pOff 0 v53) fun v54 =>
      optW (rdRow false 1 v54 h_24) fun v55 =>
      optW (pNilCheck (e 0)) fun v57 =>
      optW (pOff 1 v57) fun v58 =>
      optW (rdRow false 1 v58 h_24) fun v59 =>
      optW (pSliceStr v55 (some v59) none) fun v60 =>
      optW (bld [(.string (bs [])), (.int .u8 0)] [(0, 1), (1, 1)] []) fun v63 =>
      optW (pNilCheck (e 0)) fun v65 =>
      optW (pOff 1 v65) fun v66 =>
      optW (rdRow false 1 v66 h_24) fun v67 =>
      optW (pNilCheck (e 0)) fun v68 =>
      optW (pOff 3 v68) fun v69 =>
      optW (pStore 2 v69 v63 h_24) fun h_26 =>
      optW (pNilCheck (e 0)) fun v70 =>
      optW (pOff 2 v70) fun v71 =>
      optW (pStore 1 v71 v67 h_26) fun h_27 =>
      optW (lenStr v60) fun v73 =>
      X 55 [v60, (.func (.func 56) #[] #[])] h_27 fun v75 h_28 =>
      optW (lenStr v75) fun v76 =>
      optW (pBin Try.prog .sub 3 v73 v76) fun v77 =>
      optW (pBin Try.prog .gtr 3 v77 (.int .i64 0)) fun v79 =>
      condW v79 (
        optW (pSliceStr v60 none (some v77)) fun v84 =>
        optW (bld [(.string (bs [])), (.int .u8 0)] [(0, 1), (1, 1)] [(0, v84)]) fun v85 =>
        optW (pNilCheck (e 0)) fun v87 =>
        optW (pOff 1 v87) fun v88 =>
        optW (rdRow false 1 v88 h_28) fun v89 =>
        optW (pBin Try.prog .add 3 v89 v77) fun v91 =>
        optW (pNilCheck (e 0)) fun v92 =>
        optW (pOff 3 v92) fun v93 =>
        optW (pStore 2 v93 v85 h_28) fun h_29 =>
        optW (pNilCheck (e 0)) fun v94 =>
        optW (pOff 2 v94) fun v95 =>
        optW (pStore 1 v95 v91 h_29) fun h_30 =>
        K (.tuple #[]) h_30
      ) (
        optW (pBin Try.prog .neq 9 v60 (.string (bs []))) fun v97 =>
        condW v97 (
          optW (pIdxStr v60 (.int .i64 0)) fun v101 =>
          optW (bld [(.string (bs [])), (.int .u8 0)] [(0, 1), (1, 1)] [(1, v101)]) fun v102 =>
          optW (pNilCheck (e 0)) fun v104 =>
          optW (pOff 1 v104) fun v105 =>
          optW (rdRow false 1 v105 h_28) fun v106 =>
          optW (pBin Try.prog .add 3 v106 (.int .i64 1)) fun v107 =>
          optW (pNilCheck (e 0)) fun v108 =>
          optW (pOff 3 v108) fun v109 =>
          optW (pStore 2 v109 v102 h_28) fun h_31 =>
          optW (pNilCheck (e 0)) fun v110 =>
          optW (pOff 2 v110) fun v111 =>
          optW (pStore 1 v111 v107 h_31) fun h_32 =>
          optW (pIdxStr v60 (.int .i64 0)) fun v113 =>
          optW (pBin Try.prog .eql 5 v113 (.int .u8 0)) fun v114 =>
          condW v114 (
            optW (bld [(.string (bs [])), (.int .u8 0)] [(0, 1), (1, 1)] [(0, (.string (bs [110, 111, 110, 101, 32, 97, 116, 32, 97, 108, 108])))]) fun v116 =>
            optW (pNilCheck (e 0)) fun v117 =>
            optW (pOff 3 v117) fun v118 =>
            optW (pStore 2 v118 v116 h_32) fun h_33 =>
            K (.tuple #[]) h_33
          ) (
            K (.tuple #[]) h_32)
        ) (
          K (.tuple #[]) h_28))))
  (pt (pt (pt (pt (pt (pt (pt (envOf [a0]) 4 a0) 5 a0) 6 v6) 7 v7) 8 v8) 9 v9) 10 v10) h_1
theorem e32 (X : CallT) (a0 : Value) (h : AH) (K : Value → AH → Prop) : cwp2 Try.prog X (Try.f32.body.getD .skip) (endW Try.prog Try.f32 K) (envOf [a0]) h = s32 X a0 h K := by kernel_rfl
theorem c32 {a0 : Value} {h : AH} {K : Value → AH → Prop} (hs : s32 (callW Try.prog) a0 h K) : callW Try.prog 32 [a0] h K := callW_of Try.func32 (by kernel_rfl) (Eq.mpr (e32 _ a0 _ _) hs)

/-- (*canopy/schema.parser).must () -/
def s33 (X : CallT) (a0 a1 : Value) (h : AH) (K : Value → AH → Prop) : Prop :=
  aBox a1 none h fun v3 h_1 =>
  optW (rdRow true 2 v3 h_1) fun v5 =>
  X 35 [a0, v5] h_1 fun v6 h_2 =>
  optW (pUn .not v6) fun v7 =>
  condW v7 (
    X 37 [a0, (.int .i64 1)] h_2 fun v9 h_3 =>
    K (.tuple #[]) h_3
  ) (
    K (.tuple #[]) h_2)
theorem e33 (X : CallT) (a0 a1 : Value) (h : AH) (K : Value → AH → Prop) : cwp2 Try.prog X (Try.f33.body.getD .skip) (endW Try.prog Try.f33 K) (envOf [a0, a1]) h = s33 X a0 a1 h K := by kernel_rfl
theorem c33 {a0 a1 : Value} {h : AH} {K : Value → AH → Prop} (hs : s33 (callW Try.prog) a0 a1 h K) : callW Try.prog 33 [a0, a1] h K := callW_of Try.func33 (by kernel_rfl) (Eq.mpr (e33 _ a0 a1 _ _) hs)

/-- (*canopy/schema.parser).name () -/
def s34 (X : CallT) (a0 : Value) (h : AH) (K : Value → AH → Prop) : Prop :=
  optW (pNilCheck a0) fun v5 =>
  optW (pOff 3 v5) fun v6 =>
  optW (pOff 0 v6) fun v7 =>
  optW (rdRow false 1 v7 h) fun v8 =>
  optW (pBin Try.prog .neq 9 v8 (.string (bs []))) fun v10 =>
  gopW (gB v10 true) (fun k =>
    k v8 h) h fun v12 h_1 =>
  gopW (gB v10 true) (fun k_1 =>
    optW (lenStr v12) fun v13_1 =>
    k_1 v13_1 h_1) h_1 fun v13 h_2 =>
  gopW (gB v10 true) (fun k_2 =>
    optW (pBin Try.prog .leq 3 v13 (.int .i64 8)) fun v14_1 =>
    k_2 v14_1 h_2) h_2 fun v14 h_3 =>
  optW (pPick v10 v14 (.bool false)) fun v15 =>
  gopW (gB v15 true) (fun k_3 =>
    k_3 v8 h_3) h_3 fun v17 h_4 =>
  gopW (gB v15 true) (fun k_4 =>
    X 57 [v17] h_4 fun v18_1 h_6 =>
    k_4 v18_1 h_6) h_4 fun v18 h_5 =>
  gopW (gB v15 true) (fun k_5 =>
    optW (pUn .not v18) fun v19_1 =>
    k_5 v19_1 h_5) h_5 fun v19 h_7 =>
  optW (pPick v15 v19 (.bool false)) fun v20 =>
  condW v20 (
    K v8 h_7
  ) (
    X 37 [a0, (.int .i64 1)] h_7 fun v23 h_8 =>
    K (.string (bs [])) h_8)
theorem e34 (X : CallT) (a0 : Value) (h : AH) (K : Value → AH → Prop) : cwp2 Try.prog X (Try.f34.body.getD .skip) (endW Try.prog Try.f34 K) (envOf [a0]) h = s34 X a0 h K := by kernel_rfl
theorem c34 {a0 : Value} {h : AH} {K : Value → AH → Prop} (hs : s34 (callW Try.prog) a0 h K) : callW Try.prog 34 [a0] h K := callW_of Try.func34 (by kernel_rfl) (Eq.mpr (e34 _ a0 _ _) hs)

/-- (*canopy/schema.parser).takes () -/
def s35 (X : CallT) (a0 a1 : Value) (h : AH) (K : Value → AH → Prop) : Prop :=
  aBox a1 none h fun v3 h_1 =>
  optW (pNilCheck a0) fun v6 =>
  optW (pOff 6 v6) fun v7 =>
  optW (rdRow false 1 v7 h_1) fun v8 =>
  optW (pBin Try.prog .neq 32 v8 (.int .i64 0)) fun v9 =>
  gopD (gB v9 false) (fun k =>
    k a0 h_1 [] ((3, (ceOf 1 v7)) :: [])) h_1 [] ((3, (ceOf 1 v7)) :: []) fun v11 h_2 H S =>
  gopD (gB v9 false) (fun k_1 =>
    optW (pNilCheck v11) fun v12_1 =>
    k_1 v12_1 h_2 H S) h_2 H S fun v12 h_3 H_1 S_1 =>
  gopD (gB v9 false) (fun k_2 =>
    optW (pOff 3 v12) fun v13_1 =>
    k_2 v13_1 h_3 H_1 S_1) h_3 H_1 S_1 fun v13 h_4 H_2 S_2 =>
  gopD (gB v9 false) (fun k_3 =>
    histC #[0, 1, 3, 7, 15, 31, 63, 127, 255, 511, 63, 2047, 4095] 9 (ceOf 2 v13) H_2 (
      optW (rdRow true 2 v13 h_4) fun v14_1 =>
      k_3 v14_1 h_4 H_2 ((9, (ceOf 2 v13)) :: S_2))) h_4 H_2 S_2 fun v14 h_5 H_3 S_3 =>
  gopD (gB v9 false) (fun k_4 =>
    histC #[0, 1, 3, 7, 15, 31, 63, 127, 255, 511, 63, 2047, 4095] 10 (ceOf 2 v3) H_3 (
      optW (rdRow true 2 v3 h_5) fun v15_1 =>
      k_4 v15_1 h_5 H_3 ((10, (ceOf 2 v3)) :: S_3))) h_5 H_3 S_3 fun v15 h_6 H_4 S_4 =>
  gopD (gB v9 false) (fun k_5 =>
    optW (pBin Try.prog .neq 71 v14 v15) fun v16_1 =>
    k_5 v16_1 h_6 H_4 S_4) h_6 H_4 S_4 fun v16 h_7 H_5 S_5 =>
  optW (pPick v9 (.bool true) v16) fun v17 =>
  condW v17 (
    K (.bool false) h_7
  ) (
    X 32 [a0] h_7 fun v19 h_8 =>
    K (.bool true) h_8)
theorem e35 (X : CallT) (a0 a1 : Value) (h : AH) (K : Value → AH → Prop) : cwp2 Try.prog X (Try.f35.body.getD .skip) (endW Try.prog Try.f35 K) (envOf [a0, a1]) h = s35 X a0 a1 h K := by kernel_rfl
theorem c35 {a0 a1 : Value} {h : AH} {K : Value → AH → Prop} (hs : s35 (callW Try.prog) a0 a1 h K) : callW Try.prog 35 [a0, a1] h K := callW_of Try.func35 (by kernel_rfl) (Eq.mpr (e35 _ a0 a1 _ _) hs)

/-- (*canopy/schema.parser).element () -/
def s36 (X : CallT) (a0 a1 : Value) (h : AH) (K : Value → AH → Prop) : Prop :=
  newR none [(.string (bs [])), (.int .i64 0), (.string (bs [])), (.slice none 0 0)] h fun v4 h_1 =>
  X 34 [a0] h_1 fun v7 h_2 =>
  optW (bld [(.string (bs [])), (.int .i64 0), (.string (bs [])), (.slice none 0 0)] [(0, 1), (1, 3)] [(0, v7)]) fun v8 =>
  newR none [(.string (bs [])), (.int .i64 0), (.string (bs [])), (.slice none 0 0)] h_2 fun v5 h_3 =>
  optW (pStore 4 v5 v8 h_3) fun h_4 =>
  optW (pOff 0 v5) fun v11 =>
  optW (rdRow false 1 v11 h_4) fun v12 =>
  X 38 [a1, v12] h_4 fun v13 h_5 =>
  condW v13 (
    X 37 [a0, (.int .i64 5)] h_5 fun v15 h_6 =>
    optW (pNilCheck a0) fun v23 =>
    optW (pOff 6 v23) fun v24 =>
    optW (rdRow false 1 v24 h_6) fun v25 =>
    optW (pBin Try.prog .eql 32 v25 (.int .i64 0)) fun v26 =>
    condW v26 (
      X 32 [a0] h_6 fun v28 h_7 =>
      optW (bld [(.string (bs [])), (.int .u8 0)] [(0, 1), (1, 1)] [(1, (.int .u8 61))]) fun v30 =>
      X 33 [a0, v30] h_7 fun v31 h_8 =>
      optW (pNilCheck a0) fun v33 =>
      optW (pOff 6 v33) fun v34 =>
      optW (rdRow false 1 v34 h_8) fun v35 =>
      optW (pBin Try.prog .eql 32 v35 (.int .i64 0)) fun v36 =>
      condW v36 (
        X 58 [a0] h_8 fun v38 h_9 =>
        optW (pOff 1 v5) fun v39 =>
        optW (pStore 3 v39 v38 h_9) fun h_10 =>
        optW (bld [(.string (bs [])), (.int .u8 0)] [(0, 1), (1, 1)] [(1, (.int .u8 59))]) fun v41 =>
        X 33 [a0, v41] h_10 fun v42 h_11 =>
        optW (rdRow true 4 v5 h_11) fun v43 =>
        optW (pStore 4 v4 v43 h_11) fun h_12 =>
        optW (resList Try.prog (pt (pt (pt (pt (pt (pt (pt (pt (pt (pt (pt (pt (pt (pt (pt (pt (pt (pt (pt (pt (pt (pt (pt (pt (pt (pt (pt (pt (pt (pt (pt (pt (pt (pt (envOf [a0, a1]) 4 v4) 6 a0) 7 v7) 8 v8) 5 v5) 10 a1) 11 v11) 12 v12) 13 v13) 9 v13) 14 a0) 15 v15) 22 a0) 23 v23) 24 v24) 25 v25) 26 v26) 27 a0) 28 v28) 29 a0) 30 v30) 31 v31) 32 a0) 33 v33) 34 v34) 35 v35) 36 v36) 37 a0) 38 v38) 39 v39) 40 a0) 41 v41) 42 v42) 43 v43) h_12 Try.f36.results.toList) fun vs => K (resOf vs) h_12
      ) (
        optW (bld [(.string (bs [])), (.int .u8 0)] [(0, 1), (1, 1)] [(1, (.int .u8 59))]) fun v41_1 =>
        X 33 [a0, v41_1] h_8 fun v42_1 h_13 =>
        optW (rdRow true 4 v5 h_13) fun v43_1 =>
        optW (pStore 4 v4 v43_1 h_13) fun h_14 =>
        optW (resList Try.prog (pt (pt (pt (pt (pt (pt (pt (pt (pt (pt (pt (pt (pt (pt (pt (pt (pt (pt (pt (pt (pt (pt (pt (pt (pt (pt (pt (pt (pt (pt (pt (envOf [a0, a1]) 4 v4) 6 a0) 7 v7) 8 v8) 5 v5) 10 a1) 11 v11) 12 v12) 13 v13) 9 v13) 14 a0) 15 v15) 22 a0) 23 v23) 24 v24) 25 v25) 26 v26) 27 a0) 28 v28) 29 a0) 30 v30) 31 v31) 32 a0) 33 v33) 34 v34) 35 v35) 36 v36) 40 a0) 41 v41_1) 42 v42_1) 43 v43_1) h_14 Try.f36.results.toList) fun vs => K (resOf vs) h_14)
    ) (
      optW (bld [(.string (bs [])), (.int .u8 0)] [(0, 1), (1, 1)] [(1, (.int .u8 61))]) fun v30_1 =>
      X 33 [a0, v30_1] h_6 fun v31_1 h_15 =>
      optW (pNilCheck a0) fun v33_1 =>
      optW (pOff 6 v33_1) fun v34_1 =>
      optW (rdRow false 1 v34_1 h_15) fun v35_1 =>
      optW (pBin Try.prog .eql 32 v35_1 (.int .i64 0)) fun v36_1 =>
      condW v36_1 (
        X 58 [a0] h_15 fun v38_1 h_16 =>
        optW (pOff 1 v5) fun v39_1 =>
        optW (pStore 3 v39_1 v38_1 h_16) fun h_17 =>
        optW (bld [(.string (bs [])), (.int .u8 0)] [(0, 1), (1, 1)] [(1, (.int .u8 59))]) fun v41_2 =>
        X 33 [a0, v41_2] h_17 fun v42_2 h_18 =>
        optW (rdRow true 4 v5 h_18) fun v43_2 =>
        optW (pStore 4 v4 v43_2 h_18) fun h_19 =>
        optW (resList Try.prog (pt (pt (pt (pt (pt (pt (pt (pt (pt (pt (pt (pt (pt (pt (pt (pt (pt (pt (pt (pt (pt (pt (pt (pt (pt (pt (pt (pt (pt (pt (pt (pt (envOf [a0, a1]) 4 v4) 6 a0) 7 v7) 8 v8) 5 v5) 10 a1) 11 v11) 12 v12) 13 v13) 9 v13) 14 a0) 15 v15) 22 a0) 23 v23) 24 v24) 25 v25) 26 v26) 29 a0) 30 v30_1) 31 v31_1) 32 a0) 33 v33_1) 34 v34_1) 35 v35_1) 36 v36_1) 37 a0) 38 v38_1) 39 v39_1) 40 a0) 41 v41_2) 42 v42_2) 43 v43_2) h_19 Try.f36.results.toList) fun vs => K (resOf vs) h_19
      ) (
        optW (bld [(.string (bs [])), (.int .u8 0)] [(0, 1), (1, 1)] [(1, (.int .u8 59))]) fun v41_3 =>
        X 33 [a0, v41_3] h_15 fun v42_3 h_20 =>
        optW (rdRow true 4 v5 h_20) fun v43_3 =>
        optW (pStore 4 v4 v43_3 h_20) fun h_21 =>
        optW (resList Try.prog (pt (pt (pt (pt (pt (pt (pt (pt (pt (pt (pt (pt (pt (pt (pt (pt (pt (pt (pt (pt (pt (pt (pt (pt (pt (pt (pt (pt (pt (envOf [a0, a1]) 4 v4) 6 a0) 7 v7) 8 v8) 5 v5) 10 a1) 11 v11) 12 v12) 13 v13) 9 v13) 14 a0) 15 v15) 22 a0) 23 v23) 24 v24) 25 v25) 26 v26) 29 a0) 30 v30_1) 31 v31_1) 32 a0) 33 v33_1) 34 v34_1) 35 v35_1) 36 v36_1) 40 a0) 41 v41_3) 42 v42_3) 43 v43_3) h_21 Try.f36.results.toList) fun vs => K (resOf vs) h_21))
  ) (
    optW (lenSl a1) fun v18 =>
    optW (pBin Try.prog .geq 3 v18 (.int .i64 8)) fun v19 =>
    condW v19 (
      X 37 [a0, (.int .i64 2)] h_5 fun v21 h_22 =>
      optW (pNilCheck a0) fun v23_1 =>
      optW (pOff 6 v23_1) fun v24_1 =>
      optW (rdRow false 1 v24_1 h_22) fun v25_1 =>
      optW (pBin Try.prog .eql 32 v25_1 (.int .i64 0)) fun v26_1 =>
      condW v26_1 (
        X 32 [a0] h_22 fun v28_1 h_23 =>
        optW (bld [(.string (bs [])), (.int .u8 0)] [(0, 1), (1, 1)] [(1, (.int .u8 61))]) fun v30_2 =>
        X 33 [a0, v30_2] h_23 fun v31_2 h_24 =>
        optW (pNilCheck a0) fun v33_2 =>
        optW (pOff 6 v33_2) fun v34_2 =>
        optW (rdRow false 1 v34_2 h_24) fun v35_2 =>
        optW (pBin Try.prog .eql 32 v35_2 (.int .i64 0)) fun v36_2 =>
        condW v36_2 (
          X 58 [a0] h_24 fun v38_2 h_25 =>
          optW (pOff 1 v5) fun v39_2 =>
          optW (pStore 3 v39_2 v38_2 h_25) fun h_26 =>
          optW (bld [(.string (bs [])), (.int .u8 0)] [(0, 1), (1, 1)] [(1, (.int .u8 59))]) fun v41_4 =>
          X 33 [a0, v41_4] h_26 fun v42_4 h_27 =>
          optW (rdRow true 4 v5 h_27) fun v43_4 =>
          optW (pStore 4 v4 v43_4 h_27) fun h_28 =>
          optW (resList Try.prog (pt (pt (pt (pt (pt (pt (pt (pt (pt (pt (pt (pt (pt (pt (pt (pt (pt (pt (pt (pt (pt (pt (pt (pt (pt (pt (pt (pt (pt (pt (pt (pt (pt (pt (pt (pt (pt (pt (envOf [a0, a1]) 4 v4) 6 a0) 7 v7) 8 v8) 5 v5) 10 a1) 11 v11) 12 v12) 13 v13) 9 v13) 17 a1) 18 v18) 19 v19) 16 v19) 20 a0) 21 v21) 22 a0) 23 v23_1) 24 v24_1) 25 v25_1) 26 v26_1) 27 a0) 28 v28_1) 29 a0) 30 v30_2) 31 v31_2) 32 a0) 33 v33_2) 34 v34_2) 35 v35_2) 36 v36_2) 37 a0) 38 v38_2) 39 v39_2) 40 a0) 41 v41_4) 42 v42_4) 43 v43_4) h_28 Try.f36.results.toList) fun vs => K (resOf vs) h_28
        ) (
          optW (bld [(.string (bs [])), (.int .u8 0)] [(0, 1), (1, 1)] [(1, (.int .u8 59))]) fun v41_5 =>
          X 33 [a0, v41_5] h_24 fun v42_5 h_29 =>
          optW (rdRow true 4 v5 h_29) fun v43_5 =>
          optW (pStore 4 v4 v43_5 h_29) fun h_30 =>
          optW (resList Try.prog (pt (pt (pt (pt (pt (pt (pt (pt (pt (pt (pt (pt (pt (pt (pt (pt (pt (pt (pt (pt (pt (pt (pt (pt (pt (pt (pt (pt (pt (pt (pt (pt (pt (pt (pt (envOf [a0, a1]) 4 v4) 6 a0) 7 v7) 8 v8) 5 v5) 10 a1) 11 v11) 12 v12) 13 v13) 9 v13) 17 a1) 18 v18) 19 v19) 16 v19) 20 a0) 21 v21) 22 a0) 23 v23_1) 24 v24_1) 25 v25_1) 26 v26_1) 27 a0) 28 v28_1) 29 a0) 30 v30_2) 31 v31_2) 32 a0) 33 v33_2) 34 v34_2) 35 v35_2) 36 v36_2) 40 a0) 41 v41_5) 42 v42_5) 43 v43_5) h_30 Try.f36.results.toList) fun vs => K (resOf vs) h_30)
      ) (
        optW (bld [(.string (bs [])), (.int .u8 0)] [(0, 1), (1, 1)] [(1, (.int .u8 61))]) fun v30_3 =>
        X 33 [a0, v30_3] h_22 fun v31_3 h_31 =>
        optW (pNilCheck a0) fun v33_3 =>
        optW (pOff 6 v33_3) fun v34_3 =>
        optW (rdRow false 1 v34_3 h_31) fun v35_3 =>
        optW (pBin Try.prog .eql 32 v35_3 (.int .i64 0)) fun v36_3 =>
        condW v36_3 (
          X 58 [a0] h_31 fun v38_3 h_32 =>
          optW (pOff 1 v5) fun v39_3 =>
          optW (pStore 3 v39_3 v38_3 h_32) fun h_33 =>
          optW (bld [(.string (bs [])), (.int .u8 0)] [(0, 1), (1, 1)] [(1, (.int .u8 59))]) fun v41_6 =>
          X 33 [a0, v41_6] h_33 fun v42_6 h_34 =>
          optW (rdRow true 4 v5 h_34) fun v43_6 =>
          optW (pStore 4 v4 v43_6 h_34) fun h_35 =>
          optW (resList Try.prog (pt (pt (pt (pt (pt (pt (pt (pt (pt (pt (pt (pt (pt (pt (pt (pt (pt (pt (pt (pt (pt (pt (pt (pt (pt (pt (pt (pt (pt (pt (pt (pt (pt (pt (pt (pt (envOf [a0, a1]) 4 v4) 6 a0) 7 v7) 8 v8) 5 v5) 10 a1) 11 v11) 12 v12) 13 v13) 9 v13) 17 a1) 18 v18) 19 v19) 16 v19) 20 a0) 21 v21) 22 a0) 23 v23_1) 24 v24_1) 25 v25_1) 26 v26_1) 29 a0) 30 v30_3) 31 v31_3) 32 a0) 33 v33_3) 34 v34_3) 35 v35_3) 36 v36_3) 37 a0) 38 v38_3) 39 v39_3) 40 a0) 41 v41_6) 42 v42_6) 43 v43_6) h_35 Try.f36.results.toList) fun vs => K (resOf vs) h_35
        ) (
          optW (bld [(.string (bs [])), (.int .u8 0)] [(0, 1), (1, 1)] [(1, (.int .u8 59))]) fun v41_7 =>
          X 33 [a0, v41_7] h_31 fun v42_7 h_36 =>
          optW (rdRow true 4 v5 h_36) fun v43_7 =>
          optW (pStore 4 v4 v43_7 h_36) fun h_37 =>
          optW (resList Try.prog (pt (pt (pt (pt (pt (pt (pt (pt (pt (pt (pt (pt (pt (pt (pt (pt (pt (pt (pt (pt (pt (pt (pt (pt (pt (pt (pt (pt (pt (pt (pt (pt (pt (envOf [a0, a1]) 4 v4) 6 a0) 7 v7) 8 v8) 5 v5) 10 a1) 11 v11) 12 v12) 13 v13) 9 v13) 17 a1) 18 v18) 19 v19) 16 v19) 20 a0) 21 v21) 22 a0) 23 v23_1) 24 v24_1) 25 v25_1) 26 v26_1) 29 a0) 30 v30_3) 31 v31_3) 32 a0) 33 v33_3) 34 v34_3) 35 v35_3) 36 v36_3) 40 a0) 41 v41_7) 42 v42_7) 43 v43_7) h_37 Try.f36.results.toList) fun vs => K (resOf vs) h_37))
    ) (
      optW (pNilCheck a0) fun v23_2 =>
      optW (pOff 6 v23_2) fun v24_2 =>
      optW (rdRow false 1 v24_2 h_5) fun v25_2 =>
      optW (pBin Try.prog .eql 32 v25_2 (.int .i64 0)) fun v26_2 =>
      condW v26_2 (
        X 32 [a0] h_5 fun v28_2 h_38 =>
        optW (bld [(.string (bs [])), (.int .u8 0)] [(0, 1), (1, 1)] [(1, (.int .u8 61))]) fun v30_4 =>
        X 33 [a0, v30_4] h_38 fun v31_4 h_39 =>
        optW (pNilCheck a0) fun v33_4 =>
        optW (pOff 6 v33_4) fun v34_4 =>
        optW (rdRow false 1 v34_4 h_39) fun v35_4 =>
        optW (pBin Try.prog .eql 32 v35_4 (.int .i64 0)) fun v36_4 =>
        condW v36_4 (
          X 58 [a0] h_39 fun v38_4 h_40 =>
          optW (pOff 1 v5) fun v39_4 =>
          optW (pStore 3 v39_4 v38_4 h_40) fun h_41 =>
          optW (bld [(.string (bs [])), (.int .u8 0)] [(0, 1), (1, 1)] [(1, (.int .u8 59))]) fun v41_8 =>
          X 33 [a0, v41_8] h_41 fun v42_8 h_42 =>
          optW (rdRow true 4 v5 h_42) fun v43_8 =>
          optW (pStore 4 v4 v43_8 h_42) fun h_43 =>
          optW (resList Try.prog (pt (pt (pt (pt (pt (pt (pt (pt (pt (pt (pt (pt (pt (pt (pt (pt (pt (pt (pt (pt (pt (pt (pt (pt (pt (pt (pt (pt (pt (pt (pt (pt (pt (pt (pt (pt (envOf [a0, a1]) 4 v4) 6 a0) 7 v7) 8 v8) 5 v5) 10 a1) 11 v11) 12 v12) 13 v13) 9 v13) 17 a1) 18 v18) 19 v19) 16 v19) 22 a0) 23 v23_2) 24 v24_2) 25 v25_2) 26 v26_2) 27 a0) 28 v28_2) 29 a0) 30 v30_4) 31 v31_4) 32 a0) 33 v33_4) 34 v34_4) 35 v35_4) 36 v36_4) 37 a0) 38 v38_4) 39 v39_4) 40 a0) 41 v41_8) 42 v42_8) 43 v43_8) h_43 Try.f36.results.toList) fun vs => K (resOf vs) h_43
        ) (
          optW (bld [(.string (bs [])), (.int .u8 0)] [(0, 1), (1, 1)] [(1, (.int .u8 59))]) fun v41_9 =>
          X 33 [a0, v41_9] h_39 fun v42_9 h_44 =>
          optW (rdRow true 4 v5 h_44) fun v43_9 =>
          optW (pStore 4 v4 v43_9 h_44) fun h_45 =>
          optW (resList Try.prog (pt (pt (pt (pt (pt (pt (pt (pt (pt (pt (pt (pt (pt (pt (pt (pt (pt (pt (pt (pt (pt (pt (pt (pt (pt (pt (pt (pt (pt (pt (pt (pt (pt (envOf [a0, a1]) 4 v4) 6 a0) 7 v7) 8 v8) 5 v5) 10 a1) 11 v11) 12 v12) 13 v13) 9 v13) 17 a1) 18 v18) 19 v19) 16 v19) 22 a0) 23 v23_2) 24 v24_2) 25 v25_2) 26 v26_2) 27 a0) 28 v28_2) 29 a0) 30 v30_4) 31 v31_4) 32 a0) 33 v33_4) 34 v34_4) 35 v35_4) 36 v36_4) 40 a0) 41 v41_9) 42 v42_9) 43 v43_9) h_45 Try.f36.results.toList) fun vs => K (resOf vs) h_45)
      ) (
        optW (bld [(.string (bs [])), (.int .u8 0)] [(0, 1), (1, 1)] [(1, (.int .u8 61))]) fun v30_5 =>
        X 33 [a0, v30_5] h_5 fun v31_5 h_46 =>
        optW (pNilCheck a0) fun v33_5 =>
        optW (pOff 6 v33_5) fun v34_5 =>
        optW (rdRow false 1 v34_5 h_46) fun v35_5 =>
        optW (pBin Try.prog .eql 32 v35_5 (.int .i64 0)) fun v36_5 =>
        condW v36_5 (
          X 58 [a0] h_46 fun v38_5 h_47 =>
          optW (pOff 1 v5) fun v39_5 =>
          optW (pStore 3 v39_5 v38_5 h_47) fun h_48 =>
          optW (bld [(.string (bs [])), (.int .u8 0)] [(0, 1), (1, 1)] [(1, (.int .u8 59))]) fun v41_10 =>
          X 33 [a0, v41_10] h_48 fun v42_10 h_49 =>
          optW (rdRow true 4 v5 h_49) fun v43_10 =>
          optW (pStore 4 v4 v43_10 h_49) fun h_50 =>
          optW (resList Try.prog (pt (pt (pt (pt (pt (pt (pt (pt (pt (pt (pt (pt (pt (pt (pt (pt (pt (pt (pt (pt (pt (pt (pt (pt (pt (pt (pt (pt (pt (pt (pt (pt (pt (pt (envOf [a0, a1]) 4 v4) 6 a0) 7 v7) 8 v8) 5 v5) 10 a1) 11 v11) 12 v12) 13 v13) 9 v13) 17 a1) 18 v18) 19 v19) 16 v19) 22 a0) 23 v23_2) 24 v24_2) 25 v25_2) 26 v26_2) 29 a0) 30 v30_5) 31 v31_5) 32 a0) 33 v33_5) 34 v34_5) 35 v35_5) 36 v36_5) 37 a0) 38 v38_5) 39 v39_5) 40 a0) 41 v41_10) 42 v42_10) 43 v43_10) h_50 Try.f36.results.toList) fun vs => K (resOf vs) h_50
        ) (
          optW (bld [(.string (bs [])), (.int .u8 0)] [(0, 1), (1, 1)] [(1, (.int .u8 59))]) fun v41_11 =>
          X 33 [a0, v41_11] h_46 fun v42_11 h_51 =>
          optW (rdRow true 4 v5 h_51) fun v43_11 =>
          optW (pStore 4 v4 v43_11 h_51) fun h_52 =>
          optW (resList Try.prog (pt (pt (pt (pt (pt (pt (pt (pt (pt (pt (pt (pt (pt (pt (pt (pt (pt (pt (pt (pt (pt (pt (pt (pt (pt (pt (pt (pt (pt (pt (pt (envOf [a0, a1]) 4 v4) 6 a0) 7 v7) 8 v8) 5 v5) 10 a1) 11 v11) 12 v12) 13 v13) 9 v13) 17 a1) 18 v18) 19 v19) 16 v19) 22 a0) 23 v23_2) 24 v24_2) 25 v25_2) 26 v26_2) 29 a0) 30 v30_5) 31 v31_5) 32 a0) 33 v33_5) 34 v34_5) 35 v35_5) 36 v36_5) 40 a0) 41 v41_11) 42 v42_11) 43 v43_11) h_52 Try.f36.results.toList) fun vs => K (resOf vs) h_52))))
theorem e36 (X : CallT) (a0 a1 : Value) (h : AH) (K : Value → AH → Prop) : cwp2 Try.prog X (Try.f36.body.getD .skip) (endW Try.prog Try.f36 K) (envOf [a0, a1]) h = s36 X a0 a1 h K := by kernel_rfl
theorem c36 {a0 a1 : Value} {h : AH} {K : Value → AH → Prop} (hs : s36 (callW Try.prog) a0 a1 h K) : callW Try.prog 36 [a0, a1] h K := callW_of Try.func36 (by kernel_rfl) (Eq.mpr (e36 _ a0 a1 _ _) hs)

end Go.Proofs.Ytlenlhlipmkeeaa.W
end

section
/- Go functions, printed by a program as predicates on what may come behind; each is the function. Conditions: none. -/
namespace Go.Proofs.Ytlenlhlipmkeeaa.W
open Go Go.AM
set_option linter.unusedVariables false
set_option maxRecDepth 100000


/-- (*canopy/schema.parser).wrong () -/
def s37 (X : CallT) (a0 a1 : Value) (h : AH) (K : Value → AH → Prop) : Prop :=
  optW (pNilCheck a0) fun v5 =>
  optW (pOff 6 v5) fun v6 =>
  optW (rdRow false 1 v6 h) fun v7 =>
  optW (pBin Try.prog .eql 32 v7 (.int .i64 0)) fun v8 =>
  condW v8 (
    optW (pNilCheck a0) fun v13 =>
    optW (pOff 1 v13) fun v14 =>
    optW (rdRow false 1 v14 h) fun v15 =>
    optW (pNilCheck a0) fun v16 =>
    optW (pOff 6 v16) fun v17 =>
    optW (pStore 1 v17 a1 h) fun h_1 =>
    optW (pNilCheck a0) fun v18 =>
    optW (pOff 7 v18) fun v19 =>
    optW (pStore 1 v19 v15 h_1) fun h_2 =>
    K (.tuple #[]) h_2
  ) (
    K (.tuple #[]) h)
theorem e37 (X : CallT) (a0 a1 : Value) (h : AH) (K : Value → AH → Prop) : cwp2 Try.prog X (Try.f37.body.getD .skip) (endW Try.prog Try.f37 K) (envOf [a0, a1]) h = s37 X a0 a1 h K := by kernel_rfl
theorem c37 {a0 a1 : Value} {h : AH} {K : Value → AH → Prop} (hs : s37 (callW Try.prog) a0 a1 h K) : callW Try.prog 37 [a0, a1] h K := callW_of Try.func37 (by kernel_rfl) (Eq.mpr (e37 _ a0 a1 _ _) hs)

/-- canopy/schema.has () -/
def s38 (X : CallT) (a0 a1 : Value) (h : AH) (K : Value → AH → Prop) : Prop :=
  aBox a1 none h fun v3 h_1 =>
  X 59 [a0, (.func (.func 60) #[] #[v3])] h_1 fun v7 h_2 =>
  K v7 h_2
theorem e38 (X : CallT) (a0 a1 : Value) (h : AH) (K : Value → AH → Prop) : cwp2 Try.prog X (Try.f38.body.getD .skip) (endW Try.prog Try.f38 K) (envOf [a0, a1]) h = s38 X a0 a1 h K := by kernel_rfl
theorem c38 {a0 a1 : Value} {h : AH} {K : Value → AH → Prop} (hs : s38 (callW Try.prog) a0 a1 h K) : callW Try.prog 38 [a0, a1] h K := callW_of Try.func38 (by kernel_rfl) (Eq.mpr (e38 _ a0 a1 _ _) hs)

/-- slices.Clip[[]canopy/api.Element,canopy/api.Element] () -/
def s39 (X : CallT) (a0 : Value) (h : AH) (K : Value → AH → Prop) : Prop :=
  optW (lenSl a0) fun v5 =>
  optW (lenSl a0) fun v7 =>
  optW (pSliceSl 4 a0 none (some v5) (some v7)) fun v8 =>
  K v8 h
theorem e39 (X : CallT) (a0 : Value) (h : AH) (K : Value → AH → Prop) : cwp2 Try.prog X (Try.f39.body.getD .skip) (endW Try.prog Try.f39 K) (envOf [a0]) h = s39 X a0 h K := by kernel_rfl
theorem c39 {a0 : Value} {h : AH} {K : Value → AH → Prop} (hs : s39 (callW Try.prog) a0 h K) : callW Try.prog 39 [a0] h K := callW_of Try.func39 (by kernel_rfl) (Eq.mpr (e39 _ a0 _ _) hs)

/-- (*canopy/canopyref8.reader).take () -/
def s40 (X : CallT) (a0 a1 : Value) (h : AH) (K : Value → AH → Prop) : Prop :=
  X 61 [a0] h fun v6 h_1 =>
  optW (pBin Try.prog .eql 9 v6 (.string (bs []))) fun v8 =>
  gopD (gB v8 true) (fun k =>
    k a0 h_1 [] []) h_1 [] [] fun v10 h_2 H S =>
  gopD (gB v8 true) (fun k_1 =>
    optW (pNilCheck v10) fun v11_1 =>
    k_1 v11_1 h_2 H S) h_2 H S fun v11 h_3 H_1 S_1 =>
  gopD (gB v8 true) (fun k_2 =>
    optW (pOff 1 v11) fun v12_1 =>
    k_2 v12_1 h_3 H_1 S_1) h_3 H_1 S_1 fun v12 h_4 H_2 S_2 =>
  gopD (gB v8 true) (fun k_3 =>
    histC #[0, 1, 3, 7, 15, 31, 63, 7, 135, 391, 903, 1927, 4095, 8191] 6 (ceOf 1 v12) H_2 (
      optW (rdRow false 1 v12 h_4) fun v13_1 =>
      k_3 v13_1 h_4 H_2 ((6, (ceOf 1 v12)) :: S_2))) h_4 H_2 S_2 fun v13 h_5 H_3 S_3 =>
  gopD (gB v8 true) (fun k_4 =>
    k_4 a0 h_5 H_3 S_3) h_5 H_3 S_3 fun v14 h_6 H_4 S_4 =>
  gopD (gB v8 true) (fun k_5 =>
    optW (pNilCheck v14) fun v15_1 =>
    k_5 v15_1 h_6 H_4 S_4) h_6 H_4 S_4 fun v15 h_7 H_5 S_5 =>
  gopD (gB v8 true) (fun k_6 =>
    optW (pOff 0 v15) fun v16_1 =>
    k_6 v16_1 h_7 H_5 S_5) h_7 H_5 S_5 fun v16 h_8 H_6 S_6 =>
  gopD (gB v8 true) (fun k_7 =>
    histC #[0, 1, 3, 7, 15, 31, 63, 7, 135, 391, 903, 1927, 4095, 8191] 10 (ceOf 1 v16) H_6 (
      optW (rdRow false 1 v16 h_8) fun v17_1 =>
      k_7 v17_1 h_8 H_6 ((10, (ceOf 1 v16)) :: S_6))) h_8 H_6 S_6 fun v17 h_9 H_7 S_7 =>
  gopD (gB v8 true) (fun k_8 =>
    optW (lenStr v17) fun v18_1 =>
    k_8 v18_1 h_9 H_7 S_7) h_9 H_7 S_7 fun v18 h_10 H_8 S_8 =>
  gopD (gB v8 true) (fun k_9 =>
    optW (pBin Try.prog .lss 3 v13 v18) fun v19_1 =>
    k_9 v19_1 h_10 H_8 S_8) h_10 H_8 S_8 fun v19 h_11 H_9 S_9 =>
  optW (pPick v8 v19 (.bool false)) fun v20 =>
  condW v20 (
    optW (pNilCheck a0) fun v22 =>
    optW (pOff 0 v22) fun v23 =>
    optW (rdRow false 1 v23 h_11) fun v24 =>
    optW (pNilCheck a0) fun v26 =>
    optW (pOff 1 v26) fun v27 =>
    optW (rdRow false 1 v27 h_11) fun v28 =>
    optW (pNilCheck a0) fun v30 =>
    optW (pOff 1 v30) fun v31 =>
    optW (rdRow false 1 v31 h_11) fun v32 =>
    optW (pBin Try.prog .add 3 v32 (.int .i64 1)) fun v33 =>
    optW (pSliceStr v24 (some v28) (some v33)) fun v34 =>
    optW (pBin Try.prog .neq 9 v34 a1) fun v37 =>
    condW v37 (
      optW (pNilCheck a0) fun v40 =>
      optW (pOff 1 v40) fun v41 =>
      optW (rdRow false 1 v41 h_11) fun v42 =>
      X 62 [a0, (.int .i64 1), v42] h_11 fun v43 h_12 =>
      K (.tuple #[]) h_12
    ) (
      optW (pNilCheck a0) fun v46 =>
      optW (pOff 1 v46) fun v47 =>
      optW (rdRow false 1 v47 h_11) fun v48 =>
      optW (lenStr a1) fun v50 =>
      optW (pBin Try.prog .add 3 v48 v50) fun v51 =>
      optW (pNilCheck a0) fun v52 =>
      optW (pOff 1 v52) fun v53 =>
      optW (pStore 1 v53 v51 h_11) fun h_13 =>
      K (.tuple #[]) h_13)
  ) (
    optW (pBin Try.prog .neq 9 v6 a1) fun v37_1 =>
    condW v37_1 (
      optW (pNilCheck a0) fun v40_1 =>
      optW (pOff 1 v40_1) fun v41_1 =>
      optW (rdRow false 1 v41_1 h_11) fun v42_1 =>
      X 62 [a0, (.int .i64 1), v42_1] h_11 fun v43_1 h_14 =>
      K (.tuple #[]) h_14
    ) (
      optW (pNilCheck a0) fun v46_1 =>
      optW (pOff 1 v46_1) fun v47_1 =>
      optW (rdRow false 1 v47_1 h_11) fun v48_1 =>
      optW (lenStr a1) fun v50_1 =>
      optW (pBin Try.prog .add 3 v48_1 v50_1) fun v51_1 =>
      optW (pNilCheck a0) fun v52_1 =>
      optW (pOff 1 v52_1) fun v53_1 =>
      optW (pStore 1 v53_1 v51_1 h_11) fun h_15 =>
      K (.tuple #[]) h_15))
theorem e40 (X : CallT) (a0 a1 : Value) (h : AH) (K : Value → AH → Prop) : cwp2 Try.prog X (Try.f40.body.getD .skip) (endW Try.prog Try.f40 K) (envOf [a0, a1]) h = s40 X a0 a1 h K := by kernel_rfl
theorem c40 {a0 a1 : Value} {h : AH} {K : Value → AH → Prop} (hs : s40 (callW Try.prog) a0 a1 h K) : callW Try.prog 40 [a0, a1] h K := callW_of Try.func40 (by kernel_rfl) (Eq.mpr (e40 _ a0 a1 _ _) hs)

/-- (*canopy/canopyref8.reader).name () -/
def s41 (X : CallT) (a0 : Value) (h : AH) (K : Value → AH → Prop) : Prop :=
  X 61 [a0] h fun v5 h_1 =>
  X 53 [v5] h_1 fun v7 h_2 =>
  optW (pUn .not v7) fun v8 =>
  gopW (gB v8 false) (fun k =>
    k v5 h_2) h_2 fun v10 h_3 =>
  gopW (gB v8 false) (fun k_1 =>
    X 63 [v10] h_3 fun v11_1 h_5 =>
    k_1 v11_1 h_5) h_3 fun v11 h_4 =>
  optW (pPick v8 (.bool true) v11) fun v12 =>
  condW v12 (
    optW (pNilCheck a0) fun v15 =>
    optW (pOff 1 v15) fun v16 =>
    optW (rdRow false 1 v16 h_4) fun v17 =>
    X 62 [a0, (.int .i64 1), v17] h_4 fun v18 h_6 =>
    K (.string (bs [])) h_6
  ) (
    optW (pNilCheck a0) fun v21 =>
    optW (pOff 1 v21) fun v22 =>
    optW (rdRow false 1 v22 h_4) fun v23 =>
    optW (lenStr v5) fun v25 =>
    optW (pBin Try.prog .add 3 v23 v25) fun v26 =>
    optW (pNilCheck a0) fun v27 =>
    optW (pOff 1 v27) fun v28 =>
    optW (pStore 1 v28 v26 h_4) fun h_7 =>
    K v5 h_7)
theorem e41 (X : CallT) (a0 : Value) (h : AH) (K : Value → AH → Prop) : cwp2 Try.prog X (Try.f41.body.getD .skip) (endW Try.prog Try.f41 K) (envOf [a0]) h = s41 X a0 h K := by kernel_rfl
theorem c41 {a0 : Value} {h : AH} {K : Value → AH → Prop} (hs : s41 (callW Try.prog) a0 h K) : callW Try.prog 41 [a0] h K := callW_of Try.func41 (by kernel_rfl) (Eq.mpr (e41 _ a0 _ _) hs)

/-- (*canopy/canopyref8.reader).blanks (I at e: live [0], writes [2, 3, 4, 5, 6, 7, 8, 9, 10, 11, 12, 13, 14, 15, 16, 17, 18, 19, 20, 21, 22, 23, 24, 25, 26, 27, 28, 29, 30, 31, 32, 33, 34, 35, 36, 37, 38, 39, 40, 41, 42]) -/
def s42 (X : CallT) (a0 : Value) (h : AH) (K : Value → AH → Prop) : Prop :=
  loopE (fun I e h_1 =>
    optW (pNilCheck (e 0)) fun v3 =>
    optW (pOff 1 v3) fun v4 =>
    optW (rdRow false 1 v4 h_1) fun v5 =>
    optW (pNilCheck (e 0)) fun v7 =>
    optW (pOff 0 v7) fun v8 =>
    optW (rdRow false 1 v8 h_1) fun v9 =>
    optW (lenStr v9) fun v10 =>
    optW (pBin Try.prog .lss 3 v5 v10) fun v11 =>
    gopD (gB v11 true) (fun k =>
      k (e 0) h_1 [] ((7, (ceOf 1 v8)) :: ((3, (ceOf 1 v4)) :: []))) h_1 [] ((7, (ceOf 1 v8)) :: ((3, (ceOf 1 v4)) :: [])) fun v13 h_2 H S =>
    gopD (gB v11 true) (fun k_1 =>
      optW (pNilCheck v13) fun v14_1 =>
      k_1 v14_1 h_2 H S) h_2 H S fun v14 h_3 H_1 S_1 =>
    gopD (gB v11 true) (fun k_2 =>
      optW (pOff 0 v14) fun v15_1 =>
      k_2 v15_1 h_3 H_1 S_1) h_3 H_1 S_1 fun v15 h_4 H_2 S_2 =>
    gopD (gB v11 true) (fun k_3 =>
      histC #[0, 1, 3, 7, 0, 16, 48, 112, 240, 511, 1023, 2047, 4095, 8191, 16383, 2047, 34815, 100351, 231423, 524287, 1048575, 2097151, 4194303, 8388607, 16777215, 33554431, 4194303, 71303167, 205520895, 473956351, 1073741823, 2147483647, 4294967295, 8589934591] 14 (ceOf 1 v15) H_2 (
        optW (rdRow false 1 v15 h_4) fun v16_1 =>
        k_3 v16_1 h_4 H_2 ((14, (ceOf 1 v15)) :: S_2))) h_4 H_2 S_2 fun v16 h_5 H_3 S_3 =>
    gopD (gB v11 true) (fun k_4 =>
      k_4 (e 0) h_5 H_3 S_3) h_5 H_3 S_3 fun v17 h_6 H_4 S_4 =>
    gopD (gB v11 true) (fun k_5 =>
      optW (pNilCheck v17) fun v18_1 =>
      k_5 v18_1 h_6 H_4 S_4) h_6 H_4 S_4 fun v18 h_7 H_5 S_5 =>
    gopD (gB v11 true) (fun k_6 =>
      optW (pOff 1 v18) fun v19_1 =>
      k_6 v19_1 h_7 H_5 S_5) h_7 H_5 S_5 fun v19 h_8 H_6 S_6 =>
    gopD (gB v11 true) (fun k_7 =>
      histC #[0, 1, 3, 7, 0, 16, 48, 112, 240, 511, 1023, 2047, 4095, 8191, 16383, 2047, 34815, 100351, 231423, 524287, 1048575, 2097151, 4194303, 8388607, 16777215, 33554431, 4194303, 71303167, 205520895, 473956351, 1073741823, 2147483647, 4294967295, 8589934591] 18 (ceOf 1 v19) H_6 (
        optW (rdRow false 1 v19 h_8) fun v20_1 =>
        k_7 v20_1 h_8 H_6 ((18, (ceOf 1 v19)) :: S_6))) h_8 H_6 S_6 fun v20 h_9 H_7 S_7 =>
    gopD (gB v11 true) (fun k_8 =>
      optW (pIdxStr v16 v20) fun v21_1 =>
      k_8 v21_1 h_9 H_7 S_7) h_9 H_7 S_7 fun v21 h_10 H_8 S_8 =>
    gopD (gB v11 true) (fun k_9 =>
      optW (pBin Try.prog .eql 5 v21 (.int .u8 32)) fun v22_1 =>
      k_9 v22_1 h_10 H_8 S_8) h_10 H_8 S_8 fun v22 h_11 H_9 S_9 =>
    gopD (gB v11 true) (fun k_10 =>
      k_10 v22 h_11 H_9 S_9) h_11 H_9 S_9 fun v23 h_12 H_10 S_10 =>
    gopD (gB v23 false) (fun k_11 =>
      k_11 (e 0) h_12 H_10 S_10) h_12 H_10 S_10 fun v24 h_13 H_11 S_11 =>
    gopD (gB v23 false) (fun k_12 =>
      optW (pNilCheck v24) fun v25_1 =>
      k_12 v25_1 h_13 H_11 S_11) h_13 H_11 S_11 fun v25 h_14 H_12 S_12 =>
    gopD (gB v23 false) (fun k_13 =>
      optW (pOff 0 v25) fun v26_1 =>
      k_13 v26_1 h_14 H_12 S_12) h_14 H_12 S_12 fun v26 h_15 H_13 S_13 =>
    gopD (gB v23 false) (fun k_14 =>
      histC #[0, 1, 3, 7, 0, 16, 48, 112, 240, 511, 1023, 2047, 4095, 8191, 16383, 2047, 34815, 100351, 231423, 524287, 1048575, 2097151, 4194303, 8388607, 16777215, 33554431, 4194303, 71303167, 205520895, 473956351, 1073741823, 2147483647, 4294967295, 8589934591] 25 (ceOf 1 v26) H_13 (
        optW (rdRow false 1 v26 h_15) fun v27_1 =>
        k_14 v27_1 h_15 H_13 ((25, (ceOf 1 v26)) :: S_13))) h_15 H_13 S_13 fun v27 h_16 H_14 S_14 =>
    gopD (gB v23 false) (fun k_15 =>
      k_15 (e 0) h_16 H_14 S_14) h_16 H_14 S_14 fun v28 h_17 H_15 S_15 =>
    gopD (gB v23 false) (fun k_16 =>
      optW (pNilCheck v28) fun v29_1 =>
      k_16 v29_1 h_17 H_15 S_15) h_17 H_15 S_15 fun v29 h_18 H_16 S_16 =>
    gopD (gB v23 false) (fun k_17 =>
      optW (pOff 1 v29) fun v30_1 =>
      k_17 v30_1 h_18 H_16 S_16) h_18 H_16 S_16 fun v30 h_19 H_17 S_17 =>
    gopD (gB v23 false) (fun k_18 =>
      histC #[0, 1, 3, 7, 0, 16, 48, 112, 240, 511, 1023, 2047, 4095, 8191, 16383, 2047, 34815, 100351, 231423, 524287, 1048575, 2097151, 4194303, 8388607, 16777215, 33554431, 4194303, 71303167, 205520895, 473956351, 1073741823, 2147483647, 4294967295, 8589934591] 29 (ceOf 1 v30) H_17 (
        optW (rdRow false 1 v30 h_19) fun v31_1 =>
        k_18 v31_1 h_19 H_17 ((29, (ceOf 1 v30)) :: S_17))) h_19 H_17 S_17 fun v31 h_20 H_18 S_18 =>
    gopD (gB v23 false) (fun k_19 =>
      optW (pIdxStr v27 v31) fun v32_1 =>
      k_19 v32_1 h_20 H_18 S_18) h_20 H_18 S_18 fun v32 h_21 H_19 S_19 =>
    gopD (gB v23 false) (fun k_20 =>
      optW (pBin Try.prog .eql 5 v32 (.int .u8 10)) fun v33_1 =>
      k_20 v33_1 h_21 H_19 S_19) h_21 H_19 S_19 fun v33 h_22 H_20 S_20 =>
    gopD (gB v11 true) (fun k_21 =>
      optW (pPick v23 (.bool true) v33) fun v34_1 =>
      k_21 v34_1 h_22 H_20 S_20) h_22 H_20 S_20 fun v34 h_23 H_21 S_21 =>
    optW (pPick v11 v34 (.bool false)) fun v35 =>
    condW v35 (
      optW (pNilCheck (e 0)) fun v37 =>
      optW (pOff 1 v37) fun v38 =>
      optW (rdRow false 1 v38 h_23) fun v39 =>
      optW (pBin Try.prog .add 3 v39 (.int .i64 1)) fun v40 =>
      optW (pNilCheck (e 0)) fun v41 =>
      optW (pOff 1 v41) fun v42 =>
      optW (pStore 1 v42 v40 h_23) fun h_24 =>
      I (pt (pt (pt (pt (pt (pt (pt (pt (pt (pt (pt (pt (pt (pt (pt (pt (pt (pt (pt (pt (pt (pt (pt (pt (pt (pt (pt (pt (pt (pt (pt (pt (pt (pt (pt (pt (pt (pt (pt (pt (pt e 2 (e 0)) 3 v3) 4 v4) 5 v5) 6 (e 0)) 7 v7) 8 v8) 9 v9) 10 v10) 11 v11) 12 v11) 13 v13) 14 v14) 15 v15) 16 v16) 17 v17) 18 v18) 19 v19) 20 v20) 21 v21) 22 v22) 23 v23) 24 v24) 25 v25) 26 v26) 27 v27) 28 v28) 29 v29) 30 v30) 31 v31) 32 v32) 33 v33) 34 v34) 35 v35) 36 (e 0)) 37 v37) 38 v38) 39 v39) 40 v40) 41 v41) 42 v42) h_24
    ) (
      K (.tuple #[]) h_23))
  (envOf [a0]) h
theorem e42 (X : CallT) (a0 : Value) (h : AH) (K : Value → AH → Prop) : cwp2 Try.prog X (Try.f42.body.getD .skip) (endW Try.prog Try.f42 K) (envOf [a0]) h = s42 X a0 h K := by kernel_rfl
theorem c42 {a0 : Value} {h : AH} {K : Value → AH → Prop} (hs : s42 (callW Try.prog) a0 h K) : callW Try.prog 42 [a0] h K := callW_of Try.func42 (by kernel_rfl) (Eq.mpr (e42 _ a0 _ _) hs)

/-- (*canopy/canopyref8.reader).element () -/
def s43 (X : CallT) (a0 a1 : Value) (h : AH) (K : Value → AH → Prop) : Prop :=
  aBox a1 none h fun v3 h_1 =>
  newR none [(.string (bs [])), (.int .i64 0), (.string (bs [])), (.slice none 0 0)] h_1 fun v4 h_2 =>
  X 40 [a0, (.string (bs [101, 108, 101, 109, 101, 110, 116]))] h_2 fun v9 h_3 =>
  X 42 [a0] h_3 fun v11 h_4 =>
  optW (pNilCheck a0) fun v13 =>
  optW (pOff 1 v13) fun v14 =>
  optW (rdRow false 1 v14 h_4) fun v15 =>
  optW (pNilCheck a0) fun v17 =>
  optW (pOff 2 v17) fun v18 =>
  optW (rdRow false 1 v18 h_4) fun v19 =>
  optW (pBin Try.prog .neq 3 v19 (.int .i64 0)) fun v20 =>
  condW v20 (
    optW (bld [(.string (bs [])), (.int .i64 0), (.string (bs [])), (.slice none 0 0)] [(0, 1), (1, 3)] []) fun v21 =>
    optW (pStore 4 v4 v21 h_4) fun h_5 =>
    optW (resList Try.prog (pt (pt (pt (pt (pt (pt (pt (pt (pt (pt (pt (pt (pt (pt (pt (pt (pt (envOf [a0, a1]) 3 v3) 4 v4) 8 a0) 9 v9) 10 a0) 11 v11) 12 a0) 13 v13) 14 v14) 15 v15) 5 v15) 16 a0) 17 v17) 18 v18) 19 v19) 20 v20) 21 v21) h_5 Try.f43.results.toList) fun vs => K (resOf vs) h_5
  ) (
    X 41 [a0] h_4 fun v23 h_6 =>
    optW (pNilCheck a0) fun v25 =>
    optW (pOff 2 v25) fun v26 =>
    optW (rdRow false 1 v26 h_6) fun v27 =>
    optW (pBin Try.prog .eql 3 v27 (.int .i64 0)) fun v28 =>
    gopW (gB v28 true) (fun k =>
      optW (rdRow true 2 v3 h_6) fun v30_1 =>
      k v30_1 h_6) h_6 fun v30 h_7 =>
    gopW (gB v28 true) (fun k_1 =>
      k_1 v23 h_7) h_7 fun v31 h_8 =>
    gopW (gB v28 true) (fun k_2 =>
      X 44 [v30, v31] h_8 fun v32_1 h_10 =>
      k_2 v32_1 h_10) h_8 fun v32 h_9 =>
    gopW (gB v28 true) (fun k_3 =>
      optW (pBin Try.prog .geq 3 v32 (.int .i64 0)) fun v33_1 =>
      k_3 v33_1 h_9) h_9 fun v33 h_11 =>
    optW (pPick v28 v33 (.bool false)) fun v34 =>
    condW v34 (
      X 62 [a0, (.int .i64 5), v15] h_11 fun v37 h_12 =>
      optW (pNilCheck a0) fun v39 =>
      optW (pOff 2 v39) fun v40 =>
      optW (rdRow false 1 v40 h_12) fun v41 =>
      optW (pBin Try.prog .eql 3 v41 (.int .i64 0)) fun v42 =>
      gopW (gB v42 true) (fun k_4 =>
        optW (pOff 1 v3) fun v44_1 =>
        k_4 v44_1 h_12) h_12 fun v44 h_13 =>
      gopW (gB v42 true) (fun k_5 =>
        optW (rdRow false 1 v44 h_13) fun v45_1 =>
        k_5 v45_1 h_13) h_13 fun v45 h_14 =>
      gopW (gB v42 true) (fun k_6 =>
        optW (lenSl v45) fun v46_1 =>
        k_6 v46_1 h_14) h_14 fun v46 h_15 =>
      gopW (gB v42 true) (fun k_7 =>
        optW (pBin Try.prog .geq 3 v46 (.int .i64 8)) fun v47_1 =>
        k_7 v47_1 h_15) h_15 fun v47 h_16 =>
      optW (pPick v42 v47 (.bool false)) fun v48 =>
      condW v48 (
        X 62 [a0, (.int .i64 2), v15] h_16 fun v51 h_17 =>
        optW (pNilCheck a0) fun v53 =>
        optW (pOff 2 v53) fun v54 =>
        optW (rdRow false 1 v54 h_17) fun v55 =>
        optW (pBin Try.prog .eql 3 v55 (.int .i64 0)) fun v56 =>
        condW v56 (
          X 40 [a0, (.string (bs [61]))] h_17 fun v58 h_18 =>
          optW (bld [(.string (bs [])), (.int .i64 0), (.string (bs [])), (.slice none 0 0)] [(0, 1), (1, 3)] [(0, v23)]) fun v60 =>
          newR none [(.string (bs [])), (.int .i64 0), (.string (bs [])), (.slice none 0 0)] h_18 fun v7 h_19 =>
          optW (pStore 4 v7 v60 h_19) fun h_20 =>
          optW (pNilCheck a0) fun v62 =>
          optW (pOff 2 v62) fun v63 =>
          optW (rdRow false 1 v63 h_20) fun v64 =>
          optW (pBin Try.prog .eql 3 v64 (.int .i64 0)) fun v65 =>
          condW v65 (
            X 64 [a0] h_20 fun v67 h_21 =>
            optW (pOff 1 v7) fun v68 =>
            optW (pStore 3 v68 v67 h_21) fun h_22 =>
            optW (pNilCheck a0) fun v70 =>
            optW (pOff 2 v70) fun v71 =>
            optW (rdRow false 1 v71 h_22) fun v72 =>
            optW (pBin Try.prog .eql 3 v72 (.int .i64 0)) fun v73 =>
            condW v73 (
              X 40 [a0, (.string (bs [59]))] h_22 fun v75 h_23 =>
              optW (rdRow true 4 v7 h_23) fun v76 =>
              optW (pStore 4 v4 v76 h_23) fun h_24 =>
              optW (resList Try.prog (pt (pt (pt (pt (pt (pt (pt (pt (pt (pt (pt (pt (pt (pt (pt (pt (pt (pt (pt (pt (pt (pt (pt (pt (pt (pt (pt (pt (pt (pt (pt (pt (pt (pt (pt (pt (pt (pt (pt (pt (pt (pt (pt (pt (pt (pt (pt (pt (pt (pt (pt (pt (pt (pt (pt (pt (pt (pt (pt (pt (pt (pt (pt (pt (pt (pt (pt (pt (pt (pt (pt (pt (pt (envOf [a0, a1]) 3 v3) 4 v4) 8 a0) 9 v9) 10 a0) 11 v11) 12 a0) 13 v13) 14 v14) 15 v15) 5 v15) 16 a0) 17 v17) 18 v18) 19 v19) 20 v20) 22 a0) 23 v23) 6 v23) 24 a0) 25 v25) 26 v26) 27 v27) 28 v28) 29 v28) 30 v30) 31 v31) 32 v32) 33 v33) 34 v34) 35 a0) 36 v15) 37 v37) 38 a0) 39 v39) 40 v40) 41 v41) 42 v42) 43 v42) 44 v44) 45 v45) 46 v46) 47 v47) 48 v48) 49 a0) 50 v15) 51 v51) 52 a0) 53 v53) 54 v54) 55 v55) 56 v56) 57 a0) 58 v58) 59 v23) 60 v60) 7 v7) 61 a0) 62 v62) 63 v63) 64 v64) 65 v65) 66 a0) 67 v67) 68 v68) 69 a0) 70 v70) 71 v71) 72 v72) 73 v73) 74 a0) 75 v75) 76 v76) h_24 Try.f43.results.toList) fun vs => K (resOf vs) h_24
            ) (
              optW (rdRow true 4 v7 h_22) fun v76_1 =>
              optW (pStore 4 v4 v76_1 h_22) fun h_25 =>
              optW (resList Try.prog (pt (pt (pt (pt (pt (pt (pt (pt (pt (pt (pt (pt (pt (pt (pt (pt (pt (pt (pt (pt (pt (pt (pt (pt (pt (pt (pt (pt (pt (pt (pt (pt (pt (pt (pt (pt (pt (pt (pt (pt (pt (pt (pt (pt (pt (pt (pt (pt (pt (pt (pt (pt (pt (pt (pt (pt (pt (pt (pt (pt (pt (pt (pt (pt (pt (pt (pt (pt (pt (pt (pt (envOf [a0, a1]) 3 v3) 4 v4) 8 a0) 9 v9) 10 a0) 11 v11) 12 a0) 13 v13) 14 v14) 15 v15) 5 v15) 16 a0) 17 v17) 18 v18) 19 v19) 20 v20) 22 a0) 23 v23) 6 v23) 24 a0) 25 v25) 26 v26) 27 v27) 28 v28) 29 v28) 30 v30) 31 v31) 32 v32) 33 v33) 34 v34) 35 a0) 36 v15) 37 v37) 38 a0) 39 v39) 40 v40) 41 v41) 42 v42) 43 v42) 44 v44) 45 v45) 46 v46) 47 v47) 48 v48) 49 a0) 50 v15) 51 v51) 52 a0) 53 v53) 54 v54) 55 v55) 56 v56) 57 a0) 58 v58) 59 v23) 60 v60) 7 v7) 61 a0) 62 v62) 63 v63) 64 v64) 65 v65) 66 a0) 67 v67) 68 v68) 69 a0) 70 v70) 71 v71) 72 v72) 73 v73) 76 v76_1) h_25 Try.f43.results.toList) fun vs => K (resOf vs) h_25)
          ) (
            optW (pNilCheck a0) fun v70_1 =>
            optW (pOff 2 v70_1) fun v71_1 =>
            optW (rdRow false 1 v71_1 h_20) fun v72_1 =>
            optW (pBin Try.prog .eql 3 v72_1 (.int .i64 0)) fun v73_1 =>
            condW v73_1 (
              X 40 [a0, (.string (bs [59]))] h_20 fun v75_1 h_26 =>
              optW (rdRow true 4 v7 h_26) fun v76_2 =>
              optW (pStore 4 v4 v76_2 h_26) fun h_27 =>
              optW (resList Try.prog (pt (pt (pt (pt (pt (pt (pt (pt (pt (pt (pt (pt (pt (pt (pt (pt (pt (pt (pt (pt (pt (pt (pt (pt (pt (pt (pt (pt (pt (pt (pt (pt (pt (pt (pt (pt (pt (pt (pt (pt (pt (pt (pt (pt (pt (pt (pt (pt (pt (pt (pt (pt (pt (pt (pt (pt (pt (pt (pt (pt (pt (pt (pt (pt (pt (pt (pt (pt (pt (pt (envOf [a0, a1]) 3 v3) 4 v4) 8 a0) 9 v9) 10 a0) 11 v11) 12 a0) 13 v13) 14 v14) 15 v15) 5 v15) 16 a0) 17 v17) 18 v18) 19 v19) 20 v20) 22 a0) 23 v23) 6 v23) 24 a0) 25 v25) 26 v26) 27 v27) 28 v28) 29 v28) 30 v30) 31 v31) 32 v32) 33 v33) 34 v34) 35 a0) 36 v15) 37 v37) 38 a0) 39 v39) 40 v40) 41 v41) 42 v42) 43 v42) 44 v44) 45 v45) 46 v46) 47 v47) 48 v48) 49 a0) 50 v15) 51 v51) 52 a0) 53 v53) 54 v54) 55 v55) 56 v56) 57 a0) 58 v58) 59 v23) 60 v60) 7 v7) 61 a0) 62 v62) 63 v63) 64 v64) 65 v65) 69 a0) 70 v70_1) 71 v71_1) 72 v72_1) 73 v73_1) 74 a0) 75 v75_1) 76 v76_2) h_27 Try.f43.results.toList) fun vs => K (resOf vs) h_27
            ) (
              optW (rdRow true 4 v7 h_20) fun v76_3 =>
              optW (pStore 4 v4 v76_3 h_20) fun h_28 =>
              optW (resList Try.prog (pt (pt (pt (pt (pt (pt (pt (pt (pt (pt (pt (pt (pt (pt (pt (pt (pt (pt (pt (pt (pt (pt (pt (pt (pt (pt (pt (pt (pt (pt (pt (pt (pt (pt (pt (pt (pt (pt (pt (pt (pt (pt (pt (pt (pt (pt (pt (pt (pt (pt (pt (pt (pt (pt (pt (pt (pt (pt (pt (pt (pt (pt (pt (pt (pt (pt (pt (pt (envOf [a0, a1]) 3 v3) 4 v4) 8 a0) 9 v9) 10 a0) 11 v11) 12 a0) 13 v13) 14 v14) 15 v15) 5 v15) 16 a0) 17 v17) 18 v18) 19 v19) 20 v20) 22 a0) 23 v23) 6 v23) 24 a0) 25 v25) 26 v26) 27 v27) 28 v28) 29 v28) 30 v30) 31 v31) 32 v32) 33 v33) 34 v34) 35 a0) 36 v15) 37 v37) 38 a0) 39 v39) 40 v40) 41 v41) 42 v42) 43 v42) 44 v44) 45 v45) 46 v46) 47 v47) 48 v48) 49 a0) 50 v15) 51 v51) 52 a0) 53 v53) 54 v54) 55 v55) 56 v56) 57 a0) 58 v58) 59 v23) 60 v60) 7 v7) 61 a0) 62 v62) 63 v63) 64 v64) 65 v65) 69 a0) 70 v70_1) 71 v71_1) 72 v72_1) 73 v73_1) 76 v76_3) h_28 Try.f43.results.toList) fun vs => K (resOf vs) h_28))
        ) (
          optW (bld [(.string (bs [])), (.int .i64 0), (.string (bs [])), (.slice none 0 0)] [(0, 1), (1, 3)] [(0, v23)]) fun v60_1 =>
          newR none [(.string (bs [])), (.int .i64 0), (.string (bs [])), (.slice none 0 0)] h_17 fun v7_1 h_29 =>
          optW (pStore 4 v7_1 v60_1 h_29) fun h_30 =>
          optW (pNilCheck a0) fun v62_1 =>
          optW (pOff 2 v62_1) fun v63_1 =>
          optW (rdRow false 1 v63_1 h_30) fun v64_1 =>
          optW (pBin Try.prog .eql 3 v64_1 (.int .i64 0)) fun v65_1 =>
          condW v65_1 (
            X 64 [a0] h_30 fun v67_1 h_31 =>
            optW (pOff 1 v7_1) fun v68_1 =>
            optW (pStore 3 v68_1 v67_1 h_31) fun h_32 =>
            optW (pNilCheck a0) fun v70_2 =>
            optW (pOff 2 v70_2) fun v71_2 =>
            optW (rdRow false 1 v71_2 h_32) fun v72_2 =>
            optW (pBin Try.prog .eql 3 v72_2 (.int .i64 0)) fun v73_2 =>
            condW v73_2 (
              X 40 [a0, (.string (bs [59]))] h_32 fun v75_2 h_33 =>
              optW (rdRow true 4 v7_1 h_33) fun v76_4 =>
              optW (pStore 4 v4 v76_4 h_33) fun h_34 =>
              optW (resList Try.prog (pt (pt (pt (pt (pt (pt (pt (pt (pt (pt (pt (pt (pt (pt (pt (pt (pt (pt (pt (pt (pt (pt (pt (pt (pt (pt (pt (pt (pt (pt (pt (pt (pt (pt (pt (pt (pt (pt (pt (pt (pt (pt (pt (pt (pt (pt (pt (pt (pt (pt (pt (pt (pt (pt (pt (pt (pt (pt (pt (pt (pt (pt (pt (pt (pt (pt (pt (pt (pt (pt (pt (envOf [a0, a1]) 3 v3) 4 v4) 8 a0) 9 v9) 10 a0) 11 v11) 12 a0) 13 v13) 14 v14) 15 v15) 5 v15) 16 a0) 17 v17) 18 v18) 19 v19) 20 v20) 22 a0) 23 v23) 6 v23) 24 a0) 25 v25) 26 v26) 27 v27) 28 v28) 29 v28) 30 v30) 31 v31) 32 v32) 33 v33) 34 v34) 35 a0) 36 v15) 37 v37) 38 a0) 39 v39) 40 v40) 41 v41) 42 v42) 43 v42) 44 v44) 45 v45) 46 v46) 47 v47) 48 v48) 49 a0) 50 v15) 51 v51) 52 a0) 53 v53) 54 v54) 55 v55) 56 v56) 59 v23) 60 v60_1) 7 v7_1) 61 a0) 62 v62_1) 63 v63_1) 64 v64_1) 65 v65_1) 66 a0) 67 v67_1) 68 v68_1) 69 a0) 70 v70_2) 71 v71_2) 72 v72_2) 73 v73_2) 74 a0) 75 v75_2) 76 v76_4) h_34 Try.f43.results.toList) fun vs => K (resOf vs) h_34
            ) (
              optW (rdRow true 4 v7_1 h_32) fun v76_5 =>
              optW (pStore 4 v4 v76_5 h_32) fun h_35 =>
              optW (resList Try.prog (pt (pt (pt (pt (pt (pt (pt (pt (pt (pt (pt (pt (pt (pt (pt (pt (pt (pt (pt (pt (pt (pt (pt (pt (pt (pt (pt (pt (pt (pt (pt (pt (pt (pt (pt (pt (pt (pt (pt (pt (pt (pt (pt (pt (pt (pt (pt (pt (pt (pt (pt (pt (pt (pt (pt (pt (pt (pt (pt (pt (pt (pt (pt (pt (pt (pt (pt (pt (pt (envOf [a0, a1]) 3 v3) 4 v4) 8 a0) 9 v9) 10 a0) 11 v11) 12 a0) 13 v13) 14 v14) 15 v15) 5 v15) 16 a0) 17 v17) 18 v18) 19 v19) 20 v20) 22 a0) 23 v23) 6 v23) 24 a0) 25 v25) 26 v26) 27 v27) 28 v28) 29 v28) 30 v30) 31 v31) 32 v32) 33 v33) 34 v34) 35 a0) 36 v15) 37 v37) 38 a0) 39 v39) 40 v40) 41 v41) 42 v42) 43 v42) 44 v44) 45 v45) 46 v46) 47 v47) 48 v48) 49 a0) 50 v15) 51 v51) 52 a0) 53 v53) 54 v54) 55 v55) 56 v56) 59 v23) 60 v60_1) 7 v7_1) 61 a0) 62 v62_1) 63 v63_1) 64 v64_1) 65 v65_1) 66 a0) 67 v67_1) 68 v68_1) 69 a0) 70 v70_2) 71 v71_2) 72 v72_2) 73 v73_2) 76 v76_5) h_35 Try.f43.results.toList) fun vs => K (resOf vs) h_35)
          ) (
            optW (pNilCheck a0) fun v70_3 =>
            optW (pOff 2 v70_3) fun v71_3 =>
            optW (rdRow false 1 v71_3 h_30) fun v72_3 =>
            optW (pBin Try.prog .eql 3 v72_3 (.int .i64 0)) fun v73_3 =>
            condW v73_3 (
              X 40 [a0, (.string (bs [59]))] h_30 fun v75_3 h_36 =>
              optW (rdRow true 4 v7_1 h_36) fun v76_6 =>
              optW (pStore 4 v4 v76_6 h_36) fun h_37 =>
              optW (resList Try.prog (pt (pt (pt (pt (pt (pt (pt (pt (pt (pt (pt (pt (pt (pt (pt (pt (pt (pt (pt (pt (pt (pt (pt (pt (pt (pt (pt (pt (pt (pt (pt (pt (pt (pt (pt (pt (pt (pt (pt (pt (pt (pt (pt (pt (pt (pt (pt (pt (pt (pt (pt (pt (pt (pt (pt (pt (pt (pt (pt (pt (pt (pt (pt (pt (pt (pt (pt (pt (envOf [a0, a1]) 3 v3) 4 v4) 8 a0) 9 v9) 10 a0) 11 v11) 12 a0) 13 v13) 14 v14) 15 v15) 5 v15) 16 a0) 17 v17) 18 v18) 19 v19) 20 v20) 22 a0) 23 v23) 6 v23) 24 a0) 25 v25) 26 v26) 27 v27) 28 v28) 29 v28) 30 v30) 31 v31) 32 v32) 33 v33) 34 v34) 35 a0) 36 v15) 37 v37) 38 a0) 39 v39) 40 v40) 41 v41) 42 v42) 43 v42) 44 v44) 45 v45) 46 v46) 47 v47) 48 v48) 49 a0) 50 v15) 51 v51) 52 a0) 53 v53) 54 v54) 55 v55) 56 v56) 59 v23) 60 v60_1) 7 v7_1) 61 a0) 62 v62_1) 63 v63_1) 64 v64_1) 65 v65_1) 69 a0) 70 v70_3) 71 v71_3) 72 v72_3) 73 v73_3) 74 a0) 75 v75_3) 76 v76_6) h_37 Try.f43.results.toList) fun vs => K (resOf vs) h_37
            ) (
              optW (rdRow true 4 v7_1 h_30) fun v76_7 =>
              optW (pStore 4 v4 v76_7 h_30) fun h_38 =>
              optW (resList Try.prog (pt (pt (pt (pt (pt (pt (pt (pt (pt (pt (pt (pt (pt (pt (pt (pt (pt (pt (pt (pt (pt (pt (pt (pt (pt (pt (pt (pt (pt (pt (pt (pt (pt (pt (pt (pt (pt (pt (pt (pt (pt (pt (pt (pt (pt (pt (pt (pt (pt (pt (pt (pt (pt (pt (pt (pt (pt (pt (pt (pt (pt (pt (pt (pt (pt (pt (envOf [a0, a1]) 3 v3) 4 v4) 8 a0) 9 v9) 10 a0) 11 v11) 12 a0) 13 v13) 14 v14) 15 v15) 5 v15) 16 a0) 17 v17) 18 v18) 19 v19) 20 v20) 22 a0) 23 v23) 6 v23) 24 a0) 25 v25) 26 v26) 27 v27) 28 v28) 29 v28) 30 v30) 31 v31) 32 v32) 33 v33) 34 v34) 35 a0) 36 v15) 37 v37) 38 a0) 39 v39) 40 v40) 41 v41) 42 v42) 43 v42) 44 v44) 45 v45) 46 v46) 47 v47) 48 v48) 49 a0) 50 v15) 51 v51) 52 a0) 53 v53) 54 v54) 55 v55) 56 v56) 59 v23) 60 v60_1) 7 v7_1) 61 a0) 62 v62_1) 63 v63_1) 64 v64_1) 65 v65_1) 69 a0) 70 v70_3) 71 v71_3) 72 v72_3) 73 v73_3) 76 v76_7) h_38 Try.f43.results.toList) fun vs => K (resOf vs) h_38)))
      ) (
        optW (pNilCheck a0) fun v53_1 =>
        optW (pOff 2 v53_1) fun v54_1 =>
        optW (rdRow false 1 v54_1 h_16) fun v55_1 =>
        optW (pBin Try.prog .eql 3 v55_1 (.int .i64 0)) fun v56_1 =>
        condW v56_1 (
          X 40 [a0, (.string (bs [61]))] h_16 fun v58_1 h_39 =>
          optW (bld [(.string (bs [])), (.int .i64 0), (.string (bs [])), (.slice none 0 0)] [(0, 1), (1, 3)] [(0, v23)]) fun v60_2 =>
          newR none [(.string (bs [])), (.int .i64 0), (.string (bs [])), (.slice none 0 0)] h_39 fun v7_2 h_40 =>
          optW (pStore 4 v7_2 v60_2 h_40) fun h_41 =>
          optW (pNilCheck a0) fun v62_2 =>
          optW (pOff 2 v62_2) fun v63_2 =>
          optW (rdRow false 1 v63_2 h_41) fun v64_2 =>
          optW (pBin Try.prog .eql 3 v64_2 (.int .i64 0)) fun v65_2 =>
          condW v65_2 (
            X 64 [a0] h_41 fun v67_2 h_42 =>
            optW (pOff 1 v7_2) fun v68_2 =>
            optW (pStore 3 v68_2 v67_2 h_42) fun h_43 =>
            optW (pNilCheck a0) fun v70_4 =>
            optW (pOff 2 v70_4) fun v71_4 =>
            optW (rdRow false 1 v71_4 h_43) fun v72_4 =>
            optW (pBin Try.prog .eql 3 v72_4 (.int .i64 0)) fun v73_4 =>
            condW v73_4 (
              X 40 [a0, (.string (bs [59]))] h_43 fun v75_4 h_44 =>
              optW (rdRow true 4 v7_2 h_44) fun v76_8 =>
              optW (pStore 4 v4 v76_8 h_44) fun h_45 =>
              optW (resList Try.prog (pt (pt (pt (pt (pt (pt (pt (pt (pt (pt (pt (pt (pt (pt (pt (pt (pt (pt (pt (pt (pt (pt (pt (pt (pt (pt (pt (pt (pt (pt (pt (pt (pt (pt (pt (pt (pt (pt (pt (pt (pt (pt (pt (pt (pt (pt (pt (pt (pt (pt (pt (pt (pt (pt (pt (pt (pt (pt (pt (pt (pt (pt (pt (pt (pt (pt (pt (pt (pt (pt (envOf [a0, a1]) 3 v3) 4 v4) 8 a0) 9 v9) 10 a0) 11 v11) 12 a0) 13 v13) 14 v14) 15 v15) 5 v15) 16 a0) 17 v17) 18 v18) 19 v19) 20 v20) 22 a0) 23 v23) 6 v23) 24 a0) 25 v25) 26 v26) 27 v27) 28 v28) 29 v28) 30 v30) 31 v31) 32 v32) 33 v33) 34 v34) 35 a0) 36 v15) 37 v37) 38 a0) 39 v39) 40 v40) 41 v41) 42 v42) 43 v42) 44 v44) 45 v45) 46 v46) 47 v47) 48 v48) 52 a0) 53 v53_1) 54 v54_1) 55 v55_1) 56 v56_1) 57 a0) 58 v58_1) 59 v23) 60 v60_2) 7 v7_2) 61 a0) 62 v62_2) 63 v63_2) 64 v64_2) 65 v65_2) 66 a0) 67 v67_2) 68 v68_2) 69 a0) 70 v70_4) 71 v71_4) 72 v72_4) 73 v73_4) 74 a0) 75 v75_4) 76 v76_8) h_45 Try.f43.results.toList) fun vs => K (resOf vs) h_45
            ) (
              optW (rdRow true 4 v7_2 h_43) fun v76_9 =>
              optW (pStore 4 v4 v76_9 h_43) fun h_46 =>
              optW (resList Try.prog (pt (pt (pt (pt (pt (pt (pt (pt (pt (pt (pt (pt (pt (pt (pt (pt (pt (pt (pt (pt (pt (pt (pt (pt (pt (pt (pt (pt (pt (pt (pt (pt (pt (pt (pt (pt (pt (pt (pt (pt (pt (pt (pt (pt (pt (pt (pt (pt (pt (pt (pt (pt (pt (pt (pt (pt (pt (pt (pt (pt (pt (pt (pt (pt (pt (pt (pt (pt (envOf [a0, a1]) 3 v3) 4 v4) 8 a0) 9 v9) 10 a0) 11 v11) 12 a0) 13 v13) 14 v14) 15 v15) 5 v15) 16 a0) 17 v17) 18 v18) 19 v19) 20 v20) 22 a0) 23 v23) 6 v23) 24 a0) 25 v25) 26 v26) 27 v27) 28 v28) 29 v28) 30 v30) 31 v31) 32 v32) 33 v33) 34 v34) 35 a0) 36 v15) 37 v37) 38 a0) 39 v39) 40 v40) 41 v41) 42 v42) 43 v42) 44 v44) 45 v45) 46 v46) 47 v47) 48 v48) 52 a0) 53 v53_1) 54 v54_1) 55 v55_1) 56 v56_1) 57 a0) 58 v58_1) 59 v23) 60 v60_2) 7 v7_2) 61 a0) 62 v62_2) 63 v63_2) 64 v64_2) 65 v65_2) 66 a0) 67 v67_2) 68 v68_2) 69 a0) 70 v70_4) 71 v71_4) 72 v72_4) 73 v73_4) 76 v76_9) h_46 Try.f43.results.toList) fun vs => K (resOf vs) h_46)
          ) (
            optW (pNilCheck a0) fun v70_5 =>
            optW (pOff 2 v70_5) fun v71_5 =>
            optW (rdRow false 1 v71_5 h_41) fun v72_5 =>
            optW (pBin Try.prog .eql 3 v72_5 (.int .i64 0)) fun v73_5 =>
            condW v73_5 (
              X 40 [a0, (.string (bs [59]))] h_41 fun v75_5 h_47 =>
              optW (rdRow true 4 v7_2 h_47) fun v76_10 =>
              optW (pStore 4 v4 v76_10 h_47) fun h_48 =>
              optW (resList Try.prog (pt (pt (pt (pt (pt (pt (pt (pt (pt (pt (pt (pt (pt (pt (pt (pt (pt (pt (pt (pt (pt (pt (pt (pt (pt (pt (pt (pt (pt (pt (pt (pt (pt (pt (pt (pt (pt (pt (pt (pt (pt (pt (pt (pt (pt (pt (pt (pt (pt (pt (pt (pt (pt (pt (pt (pt (pt (pt (pt (pt (pt (pt (pt (pt (pt (pt (pt (envOf [a0, a1]) 3 v3) 4 v4) 8 a0) 9 v9) 10 a0) 11 v11) 12 a0) 13 v13) 14 v14) 15 v15) 5 v15) 16 a0) 17 v17) 18 v18) 19 v19) 20 v20) 22 a0) 23 v23) 6 v23) 24 a0) 25 v25) 26 v26) 27 v27) 28 v28) 29 v28) 30 v30) 31 v31) 32 v32) 33 v33) 34 v34) 35 a0) 36 v15) 37 v37) 38 a0) 39 v39) 40 v40) 41 v41) 42 v42) 43 v42) 44 v44) 45 v45) 46 v46) 47 v47) 48 v48) 52 a0) 53 v53_1) 54 v54_1) 55 v55_1) 56 v56_1) 57 a0) 58 v58_1) 59 v23) 60 v60_2) 7 v7_2) 61 a0) 62 v62_2) 63 v63_2) 64 v64_2) 65 v65_2) 69 a0) 70 v70_5) 71 v71_5) 72 v72_5) 73 v73_5) 74 a0) 75 v75_5) 76 v76_10) h_48 Try.f43.results.toList) fun vs => K (resOf vs) h_48
            ) (
              optW (rdRow true 4 v7_2 h_41) fun v76_11 =>
              optW (pStore 4 v4 v76_11 h_41) fun h_49 =>
              optW (resList Try.prog (pt (pt (pt (pt (pt (pt (pt (pt (pt (pt (pt (pt (pt (pt (pt (pt (pt (pt (pt (pt (pt (pt (pt (pt (pt (pt (pt (pt (pt (pt (pt (pt (pt (pt (pt (pt (pt (pt (pt (pt (pt (pt (pt (pt (pt (pt (pt (pt (pt (pt (pt (pt (pt (pt (pt (pt (pt (pt (pt (pt (pt (pt (pt (pt (pt (envOf [a0, a1]) 3 v3) 4 v4) 8 a0) 9 v9) 10 a0) 11 v11) 12 a0) 13 v13) 14 v14) 15 v15) 5 v15) 16 a0) 17 v17) 18 v18) 19 v19) 20 v20) 22 a0) 23 v23) 6 v23) 24 a0) 25 v25) 26 v26) 27 v27) 28 v28) 29 v28) 30 v30) 31 v31) 32 v32) 33 v33) 34 v34) 35 a0) 36 v15) 37 v37) 38 a0) 39 v39) 40 v40) 41 v41) 42 v42) 43 v42) 44 v44) 45 v45) 46 v46) 47 v47) 48 v48) 52 a0) 53 v53_1) 54 v54_1) 55 v55_1) 56 v56_1) 57 a0) 58 v58_1) 59 v23) 60 v60_2) 7 v7_2) 61 a0) 62 v62_2) 63 v63_2) 64 v64_2) 65 v65_2) 69 a0) 70 v70_5) 71 v71_5) 72 v72_5) 73 v73_5) 76 v76_11) h_49 Try.f43.results.toList) fun vs => K (resOf vs) h_49))
        ) (
          optW (bld [(.string (bs [])), (.int .i64 0), (.string (bs [])), (.slice none 0 0)] [(0, 1), (1, 3)] [(0, v23)]) fun v60_3 =>
          newR none [(.string (bs [])), (.int .i64 0), (.string (bs [])), (.slice none 0 0)] h_16 fun v7_3 h_50 =>
          optW (pStore 4 v7_3 v60_3 h_50) fun h_51 =>
          optW (pNilCheck a0) fun v62_3 =>
          optW (pOff 2 v62_3) fun v63_3 =>
          optW (rdRow false 1 v63_3 h_51) fun v64_3 =>
          optW (pBin Try.prog .eql 3 v64_3 (.int .i64 0)) fun v65_3 =>
          condW v65_3 (
            X 64 [a0] h_51 fun v67_3 h_52 =>
            optW (pOff 1 v7_3) fun v68_3 =>
            optW (pStore 3 v68_3 v67_3 h_52) fun h_53 =>
            optW (pNilCheck a0) fun v70_6 =>
            optW (pOff 2 v70_6) fun v71_6 =>
            optW (rdRow false 1 v71_6 h_53) fun v72_6 =>
            optW (pBin Try.prog .eql 3 v72_6 (.int .i64 0)) fun v73_6 =>
            condW v73_6 (
              X 40 [a0, (.string (bs [59]))] h_53 fun v75_6 h_54 =>
              optW (rdRow true 4 v7_3 h_54) fun v76_12 =>
              optW (pStore 4 v4 v76_12 h_54) fun h_55 =>
              optW (resList Try.prog (pt (pt (pt (pt (pt (pt (pt (pt (pt (pt (pt (pt (pt (pt (pt (pt (pt (pt (pt (pt (pt (pt (pt (pt (pt (pt (pt (pt (pt (pt (pt (pt (pt (pt (pt (pt (pt (pt (pt (pt (pt (pt (pt (pt (pt (pt (pt (pt (pt (pt (pt (pt (pt (pt (pt (pt (pt (pt (pt (pt (pt (pt (pt (pt (pt (pt (pt (pt (envOf [a0, a1]) 3 v3) 4 v4) 8 a0) 9 v9) 10 a0) 11 v11) 12 a0) 13 v13) 14 v14) 15 v15) 5 v15) 16 a0) 17 v17) 18 v18) 19 v19) 20 v20) 22 a0) 23 v23) 6 v23) 24 a0) 25 v25) 26 v26) 27 v27) 28 v28) 29 v28) 30 v30) 31 v31) 32 v32) 33 v33) 34 v34) 35 a0) 36 v15) 37 v37) 38 a0) 39 v39) 40 v40) 41 v41) 42 v42) 43 v42) 44 v44) 45 v45) 46 v46) 47 v47) 48 v48) 52 a0) 53 v53_1) 54 v54_1) 55 v55_1) 56 v56_1) 59 v23) 60 v60_3) 7 v7_3) 61 a0) 62 v62_3) 63 v63_3) 64 v64_3) 65 v65_3) 66 a0) 67 v67_3) 68 v68_3) 69 a0) 70 v70_6) 71 v71_6) 72 v72_6) 73 v73_6) 74 a0) 75 v75_6) 76 v76_12) h_55 Try.f43.results.toList) fun vs => K (resOf vs) h_55
            ) (
              optW (rdRow true 4 v7_3 h_53) fun v76_13 =>
              optW (pStore 4 v4 v76_13 h_53) fun h_56 =>
              optW (resList Try.prog (pt (pt (pt (pt (pt (pt (pt (pt (pt (pt (pt (pt (pt (pt (pt (pt (pt (pt (pt (pt (pt (pt (pt (pt (pt (pt (pt (pt (pt (pt (pt (pt (pt (pt (pt (pt (pt (pt (pt (pt (pt (pt (pt (pt (pt (pt (pt (pt (pt (pt (pt (pt (pt (pt (pt (pt (pt (pt (pt (pt (pt (pt (pt (pt (pt (pt (envOf [a0, a1]) 3 v3) 4 v4) 8 a0) 9 v9) 10 a0) 11 v11) 12 a0) 13 v13) 14 v14) 15 v15) 5 v15) 16 a0) 17 v17) 18 v18) 19 v19) 20 v20) 22 a0) 23 v23) 6 v23) 24 a0) 25 v25) 26 v26) 27 v27) 28 v28) 29 v28) 30 v30) 31 v31) 32 v32) 33 v33) 34 v34) 35 a0) 36 v15) 37 v37) 38 a0) 39 v39) 40 v40) 41 v41) 42 v42) 43 v42) 44 v44) 45 v45) 46 v46) 47 v47) 48 v48) 52 a0) 53 v53_1) 54 v54_1) 55 v55_1) 56 v56_1) 59 v23) 60 v60_3) 7 v7_3) 61 a0) 62 v62_3) 63 v63_3) 64 v64_3) 65 v65_3) 66 a0) 67 v67_3) 68 v68_3) 69 a0) 70 v70_6) 71 v71_6) 72 v72_6) 73 v73_6) 76 v76_13) h_56 Try.f43.results.toList) fun vs => K (resOf vs) h_56)
          ) (
            optW (pNilCheck a0) fun v70_7 =>
            optW (pOff 2 v70_7) fun v71_7 =>
            optW (rdRow false 1 v71_7 h_51) fun v72_7 =>
            optW (pBin Try.prog .eql 3 v72_7 (.int .i64 0)) fun v73_7 =>
            condW v73_7 (
              X 40 [a0, (.string (bs [59]))] h_51 fun v75_7 h_57 =>
              optW (rdRow true 4 v7_3 h_57) fun v76_14 =>
              optW (pStore 4 v4 v76_14 h_57) fun h_58 =>
              optW (resList Try.prog (pt (pt (pt (pt (pt (pt (pt (pt (pt (pt (pt (pt (pt (pt (pt (pt (pt (pt (pt (pt (pt (pt (pt (pt (pt (pt (pt (pt (pt (pt (pt (pt (pt (pt (pt (pt (pt (pt (pt (pt (pt (pt (pt (pt (pt (pt (pt (pt (pt (pt (pt (pt (pt (pt (pt (pt (pt (pt (pt (pt (pt (pt (pt (pt (pt (envOf [a0, a1]) 3 v3) 4 v4) 8 a0) 9 v9) 10 a0) 11 v11) 12 a0) 13 v13) 14 v14) 15 v15) 5 v15) 16 a0) 17 v17) 18 v18) 19 v19) 20 v20) 22 a0) 23 v23) 6 v23) 24 a0) 25 v25) 26 v26) 27 v27) 28 v28) 29 v28) 30 v30) 31 v31) 32 v32) 33 v33) 34 v34) 35 a0) 36 v15) 37 v37) 38 a0) 39 v39) 40 v40) 41 v41) 42 v42) 43 v42) 44 v44) 45 v45) 46 v46) 47 v47) 48 v48) 52 a0) 53 v53_1) 54 v54_1) 55 v55_1) 56 v56_1) 59 v23) 60 v60_3) 7 v7_3) 61 a0) 62 v62_3) 63 v63_3) 64 v64_3) 65 v65_3) 69 a0) 70 v70_7) 71 v71_7) 72 v72_7) 73 v73_7) 74 a0) 75 v75_7) 76 v76_14) h_58 Try.f43.results.toList) fun vs => K (resOf vs) h_58
            ) (
              optW (rdRow true 4 v7_3 h_51) fun v76_15 =>
              optW (pStore 4 v4 v76_15 h_51) fun h_59 =>
              optW (resList Try.prog (pt (pt (pt (pt (pt (pt (pt (pt (pt (pt (pt (pt (pt (pt (pt (pt (pt (pt (pt (pt (pt (pt (pt (pt (pt (pt (pt (pt (pt (pt (pt (pt (pt (pt (pt (pt (pt (pt (pt (pt (pt (pt (pt (pt (pt (pt (pt (pt (pt (pt (pt (pt (pt (pt (pt (pt (pt (pt (pt (pt (pt (pt (pt (envOf [a0, a1]) 3 v3) 4 v4) 8 a0) 9 v9) 10 a0) 11 v11) 12 a0) 13 v13) 14 v14) 15 v15) 5 v15) 16 a0) 17 v17) 18 v18) 19 v19) 20 v20) 22 a0) 23 v23) 6 v23) 24 a0) 25 v25) 26 v26) 27 v27) 28 v28) 29 v28) 30 v30) 31 v31) 32 v32) 33 v33) 34 v34) 35 a0) 36 v15) 37 v37) 38 a0) 39 v39) 40 v40) 41 v41) 42 v42) 43 v42) 44 v44) 45 v45) 46 v46) 47 v47) 48 v48) 52 a0) 53 v53_1) 54 v54_1) 55 v55_1) 56 v56_1) 59 v23) 60 v60_3) 7 v7_3) 61 a0) 62 v62_3) 63 v63_3) 64 v64_3) 65 v65_3) 69 a0) 70 v70_7) 71 v71_7) 72 v72_7) 73 v73_7) 76 v76_15) h_59 Try.f43.results.toList) fun vs => K (resOf vs) h_59))))
    ) (
      optW (pNilCheck a0) fun v39_1 =>
      optW (pOff 2 v39_1) fun v40_1 =>
      optW (rdRow false 1 v40_1 h_11) fun v41_1 =>
      optW (pBin Try.prog .eql 3 v41_1 (.int .i64 0)) fun v42_1 =>
      gopW (gB v42_1 true) (fun k_8 =>
        optW (pOff 1 v3) fun v44_3 =>
        k_8 v44_3 h_11) h_11 fun v44_2 h_60 =>
      gopW (gB v42_1 true) (fun k_9 =>
        optW (rdRow false 1 v44_2 h_60) fun v45_3 =>
        k_9 v45_3 h_60) h_60 fun v45_2 h_61 =>
      gopW (gB v42_1 true) (fun k_10 =>
        optW (lenSl v45_2) fun v46_3 =>
        k_10 v46_3 h_61) h_61 fun v46_2 h_62 =>
      gopW (gB v42_1 true) (fun k_11 =>
        optW (pBin Try.prog .geq 3 v46_2 (.int .i64 8)) fun v47_3 =>
        k_11 v47_3 h_62) h_62 fun v47_2 h_63 =>
      optW (pPick v42_1 v47_2 (.bool false)) fun v48_1 =>
      condW v48_1 (
        X 62 [a0, (.int .i64 2), v15] h_63 fun v51_1 h_64 =>
        optW (pNilCheck a0) fun v53_2 =>
        optW (pOff 2 v53_2) fun v54_2 =>
        optW (rdRow false 1 v54_2 h_64) fun v55_2 =>
        optW (pBin Try.prog .eql 3 v55_2 (.int .i64 0)) fun v56_2 =>
        condW v56_2 (
          X 40 [a0, (.string (bs [61]))] h_64 fun v58_2 h_65 =>
          optW (bld [(.string (bs [])), (.int .i64 0), (.string (bs [])), (.slice none 0 0)] [(0, 1), (1, 3)] [(0, v23)]) fun v60_4 =>
          newR none [(.string (bs [])), (.int .i64 0), (.string (bs [])), (.slice none 0 0)] h_65 fun v7_4 h_66 =>
          optW (pStore 4 v7_4 v60_4 h_66) fun h_67 =>
          optW (pNilCheck a0) fun v62_4 =>
          optW (pOff 2 v62_4) fun v63_4 =>
          optW (rdRow false 1 v63_4 h_67) fun v64_4 =>
          optW (pBin Try.prog .eql 3 v64_4 (.int .i64 0)) fun v65_4 =>
          condW v65_4 (
            X 64 [a0] h_67 fun v67_4 h_68 =>
            optW (pOff 1 v7_4) fun v68_4 =>
            optW (pStore 3 v68_4 v67_4 h_68) fun h_69 =>
            optW (pNilCheck a0) fun v70_8 =>
            optW (pOff 2 v70_8) fun v71_8 =>
            optW (rdRow false 1 v71_8 h_69) fun v72_8 =>
            optW (pBin Try.prog .eql 3 v72_8 (.int .i64 0)) fun v73_8 =>
            condW v73_8 (
              X 40 [a0, (.string (bs [59]))] h_69 fun v75_8 h_70 =>
              optW (rdRow true 4 v7_4 h_70) fun v76_16 =>
              optW (pStore 4 v4 v76_16 h_70) fun h_71 =>
              optW (resList Try.prog (pt (pt (pt (pt (pt (pt (pt (pt (pt (pt (pt (pt (pt (pt (pt (pt (pt (pt (pt (pt (pt (pt (pt (pt (pt (pt (pt (pt (pt (pt (pt (pt (pt (pt (pt (pt (pt (pt (pt (pt (pt (pt (pt (pt (pt (pt (pt (pt (pt (pt (pt (pt (pt (pt (pt (pt (pt (pt (pt (pt (pt (pt (pt (pt (pt (pt (pt (pt (pt (pt (envOf [a0, a1]) 3 v3) 4 v4) 8 a0) 9 v9) 10 a0) 11 v11) 12 a0) 13 v13) 14 v14) 15 v15) 5 v15) 16 a0) 17 v17) 18 v18) 19 v19) 20 v20) 22 a0) 23 v23) 6 v23) 24 a0) 25 v25) 26 v26) 27 v27) 28 v28) 29 v28) 30 v30) 31 v31) 32 v32) 33 v33) 34 v34) 38 a0) 39 v39_1) 40 v40_1) 41 v41_1) 42 v42_1) 43 v42_1) 44 v44_2) 45 v45_2) 46 v46_2) 47 v47_2) 48 v48_1) 49 a0) 50 v15) 51 v51_1) 52 a0) 53 v53_2) 54 v54_2) 55 v55_2) 56 v56_2) 57 a0) 58 v58_2) 59 v23) 60 v60_4) 7 v7_4) 61 a0) 62 v62_4) 63 v63_4) 64 v64_4) 65 v65_4) 66 a0) 67 v67_4) 68 v68_4) 69 a0) 70 v70_8) 71 v71_8) 72 v72_8) 73 v73_8) 74 a0) 75 v75_8) 76 v76_16) h_71 Try.f43.results.toList) fun vs => K (resOf vs) h_71
            ) (
              optW (rdRow true 4 v7_4 h_69) fun v76_17 =>
              optW (pStore 4 v4 v76_17 h_69) fun h_72 =>
              optW (resList Try.prog (pt (pt (pt (pt (pt (pt (pt (pt (pt (pt (pt (pt (pt (pt (pt (pt (pt (pt (pt (pt (pt (pt (pt (pt (pt (pt (pt (pt (pt (pt (pt (pt (pt (pt (pt (pt (pt (pt (pt (pt (pt (pt (pt (pt (pt (pt (pt (pt (pt (pt (pt (pt (pt (pt (pt (pt (pt (pt (pt (pt (pt (pt (pt (pt (pt (pt (pt (pt (envOf [a0, a1]) 3 v3) 4 v4) 8 a0) 9 v9) 10 a0) 11 v11) 12 a0) 13 v13) 14 v14) 15 v15) 5 v15) 16 a0) 17 v17) 18 v18) 19 v19) 20 v20) 22 a0) 23 v23) 6 v23) 24 a0) 25 v25) 26 v26) 27 v27) 28 v28) 29 v28) 30 v30) 31 v31) 32 v32) 33 v33) 34 v34) 38 a0) 39 v39_1) 40 v40_1) 41 v41_1) 42 v42_1) 43 v42_1) 44 v44_2) 45 v45_2) 46 v46_2) 47 v47_2) 48 v48_1) 49 a0) 50 v15) 51 v51_1) 52 a0) 53 v53_2) 54 v54_2) 55 v55_2) 56 v56_2) 57 a0) 58 v58_2) 59 v23) 60 v60_4) 7 v7_4) 61 a0) 62 v62_4) 63 v63_4) 64 v64_4) 65 v65_4) 66 a0) 67 v67_4) 68 v68_4) 69 a0) 70 v70_8) 71 v71_8) 72 v72_8) 73 v73_8) 76 v76_17) h_72 Try.f43.results.toList) fun vs => K (resOf vs) h_72)
          ) (
            optW (pNilCheck a0) fun v70_9 =>
            optW (pOff 2 v70_9) fun v71_9 =>
            optW (rdRow false 1 v71_9 h_67) fun v72_9 =>
            optW (pBin Try.prog .eql 3 v72_9 (.int .i64 0)) fun v73_9 =>
            condW v73_9 (
              X 40 [a0, (.string (bs [59]))] h_67 fun v75_9 h_73 =>
              optW (rdRow true 4 v7_4 h_73) fun v76_18 =>
              optW (pStore 4 v4 v76_18 h_73) fun h_74 =>
              optW (resList Try.prog (pt (pt (pt (pt (pt (pt (pt (pt (pt (pt (pt (pt (pt (pt (pt (pt (pt (pt (pt (pt (pt (pt (pt (pt (pt (pt (pt (pt (pt (pt (pt (pt (pt (pt (pt (pt (pt (pt (pt (pt (pt (pt (pt (pt (pt (pt (pt (pt (pt (pt (pt (pt (pt (pt (pt (pt (pt (pt (pt (pt (pt (pt (pt (pt (pt (pt (pt (envOf [a0, a1]) 3 v3) 4 v4) 8 a0) 9 v9) 10 a0) 11 v11) 12 a0) 13 v13) 14 v14) 15 v15) 5 v15) 16 a0) 17 v17) 18 v18) 19 v19) 20 v20) 22 a0) 23 v23) 6 v23) 24 a0) 25 v25) 26 v26) 27 v27) 28 v28) 29 v28) 30 v30) 31 v31) 32 v32) 33 v33) 34 v34) 38 a0) 39 v39_1) 40 v40_1) 41 v41_1) 42 v42_1) 43 v42_1) 44 v44_2) 45 v45_2) 46 v46_2) 47 v47_2) 48 v48_1) 49 a0) 50 v15) 51 v51_1) 52 a0) 53 v53_2) 54 v54_2) 55 v55_2) 56 v56_2) 57 a0) 58 v58_2) 59 v23) 60 v60_4) 7 v7_4) 61 a0) 62 v62_4) 63 v63_4) 64 v64_4) 65 v65_4) 69 a0) 70 v70_9) 71 v71_9) 72 v72_9) 73 v73_9) 74 a0) 75 v75_9) 76 v76_18) h_74 Try.f43.results.toList) fun vs => K (resOf vs) h_74
            ) (
              optW (rdRow true 4 v7_4 h_67) fun v76_19 =>
              optW (pStore 4 v4 v76_19 h_67) fun h_75 =>
              optW (resList Try.prog (pt (pt (pt (pt (pt (pt (pt (pt (pt (pt (pt (pt (pt (pt (pt (pt (pt (pt (pt (pt (pt (pt (pt (pt (pt (pt (pt (pt (pt (pt (pt (pt (pt (pt (pt (pt (pt (pt (pt (pt (pt (pt (pt (pt (pt (pt (pt (pt (pt (pt (pt (pt (pt (pt (pt (pt (pt (pt (pt (pt (pt (pt (pt (pt (pt (envOf [a0, a1]) 3 v3) 4 v4) 8 a0) 9 v9) 10 a0) 11 v11) 12 a0) 13 v13) 14 v14) 15 v15) 5 v15) 16 a0) 17 v17) 18 v18) 19 v19) 20 v20) 22 a0) 23 v23) 6 v23) 24 a0) 25 v25) 26 v26) 27 v27) 28 v28) 29 v28) 30 v30) 31 v31) 32 v32) 33 v33) 34 v34) 38 a0) 39 v39_1) 40 v40_1) 41 v41_1) 42 v42_1) 43 v42_1) 44 v44_2) 45 v45_2) 46 v46_2) 47 v47_2) 48 v48_1) 49 a0) 50 v15) 51 v51_1) 52 a0) 53 v53_2) 54 v54_2) 55 v55_2) 56 v56_2) 57 a0) 58 v58_2) 59 v23) 60 v60_4) 7 v7_4) 61 a0) 62 v62_4) 63 v63_4) 64 v64_4) 65 v65_4) 69 a0) 70 v70_9) 71 v71_9) 72 v72_9) 73 v73_9) 76 v76_19) h_75 Try.f43.results.toList) fun vs => K (resOf vs) h_75))
        ) (
          optW (bld [(.string (bs [])), (.int .i64 0), (.string (bs [])), (.slice none 0 0)] [(0, 1), (1, 3)] [(0, v23)]) fun v60_5 =>
          newR none [(.string (bs [])), (.int .i64 0), (.string (bs [])), (.slice none 0 0)] h_64 fun v7_5 h_76 =>
          optW (pStore 4 v7_5 v60_5 h_76) fun h_77 =>
          optW (pNilCheck a0) fun v62_5 =>
          optW (pOff 2 v62_5) fun v63_5 =>
          optW (rdRow false 1 v63_5 h_77) fun v64_5 =>
          optW (pBin Try.prog .eql 3 v64_5 (.int .i64 0)) fun v65_5 =>
          condW v65_5 (
            X 64 [a0] h_77 fun v67_5 h_78 =>
            optW (pOff 1 v7_5) fun v68_5 =>
            optW (pStore 3 v68_5 v67_5 h_78) fun h_79 =>
            optW (pNilCheck a0) fun v70_10 =>
            optW (pOff 2 v70_10) fun v71_10 =>
            optW (rdRow false 1 v71_10 h_79) fun v72_10 =>
            optW (pBin Try.prog .eql 3 v72_10 (.int .i64 0)) fun v73_10 =>
            condW v73_10 (
              X 40 [a0, (.string (bs [59]))] h_79 fun v75_10 h_80 =>
              optW (rdRow true 4 v7_5 h_80) fun v76_20 =>
              optW (pStore 4 v4 v76_20 h_80) fun h_81 =>
              optW (resList Try.prog (pt (pt (pt (pt (pt (pt (pt (pt (pt (pt (pt (pt (pt (pt (pt (pt (pt (pt (pt (pt (pt (pt (pt (pt (pt (pt (pt (pt (pt (pt (pt (pt (pt (pt (pt (pt (pt (pt (pt (pt (pt (pt (pt (pt (pt (pt (pt (pt (pt (pt (pt (pt (pt (pt (pt (pt (pt (pt (pt (pt (pt (pt (pt (pt (pt (pt (pt (pt (envOf [a0, a1]) 3 v3) 4 v4) 8 a0) 9 v9) 10 a0) 11 v11) 12 a0) 13 v13) 14 v14) 15 v15) 5 v15) 16 a0) 17 v17) 18 v18) 19 v19) 20 v20) 22 a0) 23 v23) 6 v23) 24 a0) 25 v25) 26 v26) 27 v27) 28 v28) 29 v28) 30 v30) 31 v31) 32 v32) 33 v33) 34 v34) 38 a0) 39 v39_1) 40 v40_1) 41 v41_1) 42 v42_1) 43 v42_1) 44 v44_2) 45 v45_2) 46 v46_2) 47 v47_2) 48 v48_1) 49 a0) 50 v15) 51 v51_1) 52 a0) 53 v53_2) 54 v54_2) 55 v55_2) 56 v56_2) 59 v23) 60 v60_5) 7 v7_5) 61 a0) 62 v62_5) 63 v63_5) 64 v64_5) 65 v65_5) 66 a0) 67 v67_5) 68 v68_5) 69 a0) 70 v70_10) 71 v71_10) 72 v72_10) 73 v73_10) 74 a0) 75 v75_10) 76 v76_20) h_81 Try.f43.results.toList) fun vs => K (resOf vs) h_81
            ) (
              optW (rdRow true 4 v7_5 h_79) fun v76_21 =>
              optW (pStore 4 v4 v76_21 h_79) fun h_82 =>
              optW (resList Try.prog (pt (pt (pt (pt (pt (pt (pt (pt (pt (pt (pt (pt (pt (pt (pt (pt (pt (pt (pt (pt (pt (pt (pt (pt (pt (pt (pt (pt (pt (pt (pt (pt (pt (pt (pt (pt (pt (pt (pt (pt (pt (pt (pt (pt (pt (pt (pt (pt (pt (pt (pt (pt (pt (pt (pt (pt (pt (pt (pt (pt (pt (pt (pt (pt (pt (pt (envOf [a0, a1]) 3 v3) 4 v4) 8 a0) 9 v9) 10 a0) 11 v11) 12 a0) 13 v13) 14 v14) 15 v15) 5 v15) 16 a0) 17 v17) 18 v18) 19 v19) 20 v20) 22 a0) 23 v23) 6 v23) 24 a0) 25 v25) 26 v26) 27 v27) 28 v28) 29 v28) 30 v30) 31 v31) 32 v32) 33 v33) 34 v34) 38 a0) 39 v39_1) 40 v40_1) 41 v41_1) 42 v42_1) 43 v42_1) 44 v44_2) 45 v45_2) 46 v46_2) 47 v47_2) 48 v48_1) 49 a0) 50 v15) 51 v51_1) 52 a0) 53 v53_2) 54 v54_2) 55 v55_2) 56 v56_2) 59 v23) 60 v60_5) 7 v7_5) 61 a0) 62 v62_5) 63 v63_5) 64 v64_5) 65 v65_5) 66 a0) 67 v67_5) 68 v68_5) 69 a0) 70 v70_10) 71 v71_10) 72 v72_10) 73 v73_10) 76 v76_21) h_82 Try.f43.results.toList) fun vs => K (resOf vs) h_82)
          ) (
            optW (pNilCheck a0) fun v70_11 =>
            optW (pOff 2 v70_11) fun v71_11 =>
            optW (rdRow false 1 v71_11 h_77) fun v72_11 =>
            optW (pBin Try.prog .eql 3 v72_11 (.int .i64 0)) fun v73_11 =>
            condW v73_11 (
              X 40 [a0, (.string (bs [59]))] h_77 fun v75_11 h_83 =>
              optW (rdRow true 4 v7_5 h_83) fun v76_22 =>
              optW (pStore 4 v4 v76_22 h_83) fun h_84 =>
              optW (resList Try.prog (pt (pt (pt (pt (pt (pt (pt (pt (pt (pt (pt (pt (pt (pt (pt (pt (pt (pt (pt (pt (pt (pt (pt (pt (pt (pt (pt (pt (pt (pt (pt (pt (pt (pt (pt (pt (pt (pt (pt (pt (pt (pt (pt (pt (pt (pt (pt (pt (pt (pt (pt (pt (pt (pt (pt (pt (pt (pt (pt (pt (pt (pt (pt (pt (pt (envOf [a0, a1]) 3 v3) 4 v4) 8 a0) 9 v9) 10 a0) 11 v11) 12 a0) 13 v13) 14 v14) 15 v15) 5 v15) 16 a0) 17 v17) 18 v18) 19 v19) 20 v20) 22 a0) 23 v23) 6 v23) 24 a0) 25 v25) 26 v26) 27 v27) 28 v28) 29 v28) 30 v30) 31 v31) 32 v32) 33 v33) 34 v34) 38 a0) 39 v39_1) 40 v40_1) 41 v41_1) 42 v42_1) 43 v42_1) 44 v44_2) 45 v45_2) 46 v46_2) 47 v47_2) 48 v48_1) 49 a0) 50 v15) 51 v51_1) 52 a0) 53 v53_2) 54 v54_2) 55 v55_2) 56 v56_2) 59 v23) 60 v60_5) 7 v7_5) 61 a0) 62 v62_5) 63 v63_5) 64 v64_5) 65 v65_5) 69 a0) 70 v70_11) 71 v71_11) 72 v72_11) 73 v73_11) 74 a0) 75 v75_11) 76 v76_22) h_84 Try.f43.results.toList) fun vs => K (resOf vs) h_84
            ) (
              optW (rdRow true 4 v7_5 h_77) fun v76_23 =>
              optW (pStore 4 v4 v76_23 h_77) fun h_85 =>
              optW (resList Try.prog (pt (pt (pt (pt (pt (pt (pt (pt (pt (pt (pt (pt (pt (pt (pt (pt (pt (pt (pt (pt (pt (pt (pt (pt (pt (pt (pt (pt (pt (pt (pt (pt (pt (pt (pt (pt (pt (pt (pt (pt (pt (pt (pt (pt (pt (pt (pt (pt (pt (pt (pt (pt (pt (pt (pt (pt (pt (pt (pt (pt (pt (pt (pt (envOf [a0, a1]) 3 v3) 4 v4) 8 a0) 9 v9) 10 a0) 11 v11) 12 a0) 13 v13) 14 v14) 15 v15) 5 v15) 16 a0) 17 v17) 18 v18) 19 v19) 20 v20) 22 a0) 23 v23) 6 v23) 24 a0) 25 v25) 26 v26) 27 v27) 28 v28) 29 v28) 30 v30) 31 v31) 32 v32) 33 v33) 34 v34) 38 a0) 39 v39_1) 40 v40_1) 41 v41_1) 42 v42_1) 43 v42_1) 44 v44_2) 45 v45_2) 46 v46_2) 47 v47_2) 48 v48_1) 49 a0) 50 v15) 51 v51_1) 52 a0) 53 v53_2) 54 v54_2) 55 v55_2) 56 v56_2) 59 v23) 60 v60_5) 7 v7_5) 61 a0) 62 v62_5) 63 v63_5) 64 v64_5) 65 v65_5) 69 a0) 70 v70_11) 71 v71_11) 72 v72_11) 73 v73_11) 76 v76_23) h_85 Try.f43.results.toList) fun vs => K (resOf vs) h_85)))
      ) (
        optW (pNilCheck a0) fun v53_3 =>
        optW (pOff 2 v53_3) fun v54_3 =>
        optW (rdRow false 1 v54_3 h_63) fun v55_3 =>
        optW (pBin Try.prog .eql 3 v55_3 (.int .i64 0)) fun v56_3 =>
        condW v56_3 (
          X 40 [a0, (.string (bs [61]))] h_63 fun v58_3 h_86 =>
          optW (bld [(.string (bs [])), (.int .i64 0), (.string (bs [])), (.slice none 0 0)] [(0, 1), (1, 3)] [(0, v23)]) fun v60_6 =>
          newR none [(.string (bs [])), (.int .i64 0), (.string (bs [])), (.slice none 0 0)] h_86 fun v7_6 h_87 =>
          optW (pStore 4 v7_6 v60_6 h_87) fun h_88 =>
          optW (pNilCheck a0) fun v62_6 =>
          optW (pOff 2 v62_6) fun v63_6 =>
          optW (rdRow false 1 v63_6 h_88) fun v64_6 =>
          optW (pBin Try.prog .eql 3 v64_6 (.int .i64 0)) fun v65_6 =>
          condW v65_6 (
            X 64 [a0] h_88 fun v67_6 h_89 =>
            optW (pOff 1 v7_6) fun v68_6 =>
            optW (pStore 3 v68_6 v67_6 h_89) fun h_90 =>
            optW (pNilCheck a0) fun v70_12 =>
            optW (pOff 2 v70_12) fun v71_12 =>
            optW (rdRow false 1 v71_12 h_90) fun v72_12 =>
            optW (pBin Try.prog .eql 3 v72_12 (.int .i64 0)) fun v73_12 =>
            condW v73_12 (
              X 40 [a0, (.string (bs [59]))] h_90 fun v75_12 h_91 =>
              optW (rdRow true 4 v7_6 h_91) fun v76_24 =>
              optW (pStore 4 v4 v76_24 h_91) fun h_92 =>
              optW (resList Try.prog (pt (pt (pt (pt (pt (pt (pt (pt (pt (pt (pt (pt (pt (pt (pt (pt (pt (pt (pt (pt (pt (pt (pt (pt (pt (pt (pt (pt (pt (pt (pt (pt (pt (pt (pt (pt (pt (pt (pt (pt (pt (pt (pt (pt (pt (pt (pt (pt (pt (pt (pt (pt (pt (pt (pt (pt (pt (pt (pt (pt (pt (pt (pt (pt (pt (pt (pt (envOf [a0, a1]) 3 v3) 4 v4) 8 a0) 9 v9) 10 a0) 11 v11) 12 a0) 13 v13) 14 v14) 15 v15) 5 v15) 16 a0) 17 v17) 18 v18) 19 v19) 20 v20) 22 a0) 23 v23) 6 v23) 24 a0) 25 v25) 26 v26) 27 v27) 28 v28) 29 v28) 30 v30) 31 v31) 32 v32) 33 v33) 34 v34) 38 a0) 39 v39_1) 40 v40_1) 41 v41_1) 42 v42_1) 43 v42_1) 44 v44_2) 45 v45_2) 46 v46_2) 47 v47_2) 48 v48_1) 52 a0) 53 v53_3) 54 v54_3) 55 v55_3) 56 v56_3) 57 a0) 58 v58_3) 59 v23) 60 v60_6) 7 v7_6) 61 a0) 62 v62_6) 63 v63_6) 64 v64_6) 65 v65_6) 66 a0) 67 v67_6) 68 v68_6) 69 a0) 70 v70_12) 71 v71_12) 72 v72_12) 73 v73_12) 74 a0) 75 v75_12) 76 v76_24) h_92 Try.f43.results.toList) fun vs => K (resOf vs) h_92
            ) (
              optW (rdRow true 4 v7_6 h_90) fun v76_25 =>
              optW (pStore 4 v4 v76_25 h_90) fun h_93 =>
              optW (resList Try.prog (pt (pt (pt (pt (pt (pt (pt (pt (pt (pt (pt (pt (pt (pt (pt (pt (pt (pt (pt (pt (pt (pt (pt (pt (pt (pt (pt (pt (pt (pt (pt (pt (pt (pt (pt (pt (pt (pt (pt (pt (pt (pt (pt (pt (pt (pt (pt (pt (pt (pt (pt (pt (pt (pt (pt (pt (pt (pt (pt (pt (pt (pt (pt (pt (pt (envOf [a0, a1]) 3 v3) 4 v4) 8 a0) 9 v9) 10 a0) 11 v11) 12 a0) 13 v13) 14 v14) 15 v15) 5 v15) 16 a0) 17 v17) 18 v18) 19 v19) 20 v20) 22 a0) 23 v23) 6 v23) 24 a0) 25 v25) 26 v26) 27 v27) 28 v28) 29 v28) 30 v30) 31 v31) 32 v32) 33 v33) 34 v34) 38 a0) 39 v39_1) 40 v40_1) 41 v41_1) 42 v42_1) 43 v42_1) 44 v44_2) 45 v45_2) 46 v46_2) 47 v47_2) 48 v48_1) 52 a0) 53 v53_3) 54 v54_3) 55 v55_3) 56 v56_3) 57 a0) 58 v58_3) 59 v23) 60 v60_6) 7 v7_6) 61 a0) 62 v62_6) 63 v63_6) 64 v64_6) 65 v65_6) 66 a0) 67 v67_6) 68 v68_6) 69 a0) 70 v70_12) 71 v71_12) 72 v72_12) 73 v73_12) 76 v76_25) h_93 Try.f43.results.toList) fun vs => K (resOf vs) h_93)
          ) (
            optW (pNilCheck a0) fun v70_13 =>
            optW (pOff 2 v70_13) fun v71_13 =>
            optW (rdRow false 1 v71_13 h_88) fun v72_13 =>
            optW (pBin Try.prog .eql 3 v72_13 (.int .i64 0)) fun v73_13 =>
            condW v73_13 (
              X 40 [a0, (.string (bs [59]))] h_88 fun v75_13 h_94 =>
              optW (rdRow true 4 v7_6 h_94) fun v76_26 =>
              optW (pStore 4 v4 v76_26 h_94) fun h_95 =>
              optW (resList Try.prog (pt (pt (pt (pt (pt (pt (pt (pt (pt (pt (pt (pt (pt (pt (pt (pt (pt (pt (pt (pt (pt (pt (pt (pt (pt (pt (pt (pt (pt (pt (pt (pt (pt (pt (pt (pt (pt (pt (pt (pt (pt (pt (pt (pt (pt (pt (pt (pt (pt (pt (pt (pt (pt (pt (pt (pt (pt (pt (pt (pt (pt (pt (pt (pt (envOf [a0, a1]) 3 v3) 4 v4) 8 a0) 9 v9) 10 a0) 11 v11) 12 a0) 13 v13) 14 v14) 15 v15) 5 v15) 16 a0) 17 v17) 18 v18) 19 v19) 20 v20) 22 a0) 23 v23) 6 v23) 24 a0) 25 v25) 26 v26) 27 v27) 28 v28) 29 v28) 30 v30) 31 v31) 32 v32) 33 v33) 34 v34) 38 a0) 39 v39_1) 40 v40_1) 41 v41_1) 42 v42_1) 43 v42_1) 44 v44_2) 45 v45_2) 46 v46_2) 47 v47_2) 48 v48_1) 52 a0) 53 v53_3) 54 v54_3) 55 v55_3) 56 v56_3) 57 a0) 58 v58_3) 59 v23) 60 v60_6) 7 v7_6) 61 a0) 62 v62_6) 63 v63_6) 64 v64_6) 65 v65_6) 69 a0) 70 v70_13) 71 v71_13) 72 v72_13) 73 v73_13) 74 a0) 75 v75_13) 76 v76_26) h_95 Try.f43.results.toList) fun vs => K (resOf vs) h_95
            ) (
              optW (rdRow true 4 v7_6 h_88) fun v76_27 =>
              optW (pStore 4 v4 v76_27 h_88) fun h_96 =>
              optW (resList Try.prog (pt (pt (pt (pt (pt (pt (pt (pt (pt (pt (pt (pt (pt (pt (pt (pt (pt (pt (pt (pt (pt (pt (pt (pt (pt (pt (pt (pt (pt (pt (pt (pt (pt (pt (pt (pt (pt (pt (pt (pt (pt (pt (pt (pt (pt (pt (pt (pt (pt (pt (pt (pt (pt (pt (pt (pt (pt (pt (pt (pt (pt (pt (envOf [a0, a1]) 3 v3) 4 v4) 8 a0) 9 v9) 10 a0) 11 v11) 12 a0) 13 v13) 14 v14) 15 v15) 5 v15) 16 a0) 17 v17) 18 v18) 19 v19) 20 v20) 22 a0) 23 v23) 6 v23) 24 a0) 25 v25) 26 v26) 27 v27) 28 v28) 29 v28) 30 v30) 31 v31) 32 v32) 33 v33) 34 v34) 38 a0) 39 v39_1) 40 v40_1) 41 v41_1) 42 v42_1) 43 v42_1) 44 v44_2) 45 v45_2) 46 v46_2) 47 v47_2) 48 v48_1) 52 a0) 53 v53_3) 54 v54_3) 55 v55_3) 56 v56_3) 57 a0) 58 v58_3) 59 v23) 60 v60_6) 7 v7_6) 61 a0) 62 v62_6) 63 v63_6) 64 v64_6) 65 v65_6) 69 a0) 70 v70_13) 71 v71_13) 72 v72_13) 73 v73_13) 76 v76_27) h_96 Try.f43.results.toList) fun vs => K (resOf vs) h_96))
        ) (
          optW (bld [(.string (bs [])), (.int .i64 0), (.string (bs [])), (.slice none 0 0)] [(0, 1), (1, 3)] [(0, v23)]) fun v60_7 =>
          newR none [(.string (bs [])), (.int .i64 0), (.string (bs [])), (.slice none 0 0)] h_63 fun v7_7 h_97 =>
          optW (pStore 4 v7_7 v60_7 h_97) fun h_98 =>
          optW (pNilCheck a0) fun v62_7 =>
          optW (pOff 2 v62_7) fun v63_7 =>
          optW (rdRow false 1 v63_7 h_98) fun v64_7 =>
          optW (pBin Try.prog .eql 3 v64_7 (.int .i64 0)) fun v65_7 =>
          condW v65_7 (
            X 64 [a0] h_98 fun v67_7 h_99 =>
            optW (pOff 1 v7_7) fun v68_7 =>
            optW (pStore 3 v68_7 v67_7 h_99) fun h_100 =>
            optW (pNilCheck a0) fun v70_14 =>
            optW (pOff 2 v70_14) fun v71_14 =>
            optW (rdRow false 1 v71_14 h_100) fun v72_14 =>
            optW (pBin Try.prog .eql 3 v72_14 (.int .i64 0)) fun v73_14 =>
            condW v73_14 (
              X 40 [a0, (.string (bs [59]))] h_100 fun v75_14 h_101 =>
              optW (rdRow true 4 v7_7 h_101) fun v76_28 =>
              optW (pStore 4 v4 v76_28 h_101) fun h_102 =>
              optW (resList Try.prog (pt (pt (pt (pt (pt (pt (pt (pt (pt (pt (pt (pt (pt (pt (pt (pt (pt (pt (pt (pt (pt (pt (pt (pt (pt (pt (pt (pt (pt (pt (pt (pt (pt (pt (pt (pt (pt (pt (pt (pt (pt (pt (pt (pt (pt (pt (pt (pt (pt (pt (pt (pt (pt (pt (pt (pt (pt (pt (pt (pt (pt (pt (pt (pt (pt (envOf [a0, a1]) 3 v3) 4 v4) 8 a0) 9 v9) 10 a0) 11 v11) 12 a0) 13 v13) 14 v14) 15 v15) 5 v15) 16 a0) 17 v17) 18 v18) 19 v19) 20 v20) 22 a0) 23 v23) 6 v23) 24 a0) 25 v25) 26 v26) 27 v27) 28 v28) 29 v28) 30 v30) 31 v31) 32 v32) 33 v33) 34 v34) 38 a0) 39 v39_1) 40 v40_1) 41 v41_1) 42 v42_1) 43 v42_1) 44 v44_2) 45 v45_2) 46 v46_2) 47 v47_2) 48 v48_1) 52 a0) 53 v53_3) 54 v54_3) 55 v55_3) 56 v56_3) 59 v23) 60 v60_7) 7 v7_7) 61 a0) 62 v62_7) 63 v63_7) 64 v64_7) 65 v65_7) 66 a0) 67 v67_7) 68 v68_7) 69 a0) 70 v70_14) 71 v71_14) 72 v72_14) 73 v73_14) 74 a0) 75 v75_14) 76 v76_28) h_102 Try.f43.results.toList) fun vs => K (resOf vs) h_102
            ) (
              optW (rdRow true 4 v7_7 h_100) fun v76_29 =>
              optW (pStore 4 v4 v76_29 h_100) fun h_103 =>
              optW (resList Try.prog (pt (pt (pt (pt (pt (pt (pt (pt (pt (pt (pt (pt (pt (pt (pt (pt (pt (pt (pt (pt (pt (pt (pt (pt (pt (pt (pt (pt (pt (pt (pt (pt (pt (pt (pt (pt (pt (pt (pt (pt (pt (pt (pt (pt (pt (pt (pt (pt (pt (pt (pt (pt (pt (pt (pt (pt (pt (pt (pt (pt (pt (pt (pt (envOf [a0, a1]) 3 v3) 4 v4) 8 a0) 9 v9) 10 a0) 11 v11) 12 a0) 13 v13) 14 v14) 15 v15) 5 v15) 16 a0) 17 v17) 18 v18) 19 v19) 20 v20) 22 a0) 23 v23) 6 v23) 24 a0) 25 v25) 26 v26) 27 v27) 28 v28) 29 v28) 30 v30) 31 v31) 32 v32) 33 v33) 34 v34) 38 a0) 39 v39_1) 40 v40_1) 41 v41_1) 42 v42_1) 43 v42_1) 44 v44_2) 45 v45_2) 46 v46_2) 47 v47_2) 48 v48_1) 52 a0) 53 v53_3) 54 v54_3) 55 v55_3) 56 v56_3) 59 v23) 60 v60_7) 7 v7_7) 61 a0) 62 v62_7) 63 v63_7) 64 v64_7) 65 v65_7) 66 a0) 67 v67_7) 68 v68_7) 69 a0) 70 v70_14) 71 v71_14) 72 v72_14) 73 v73_14) 76 v76_29) h_103 Try.f43.results.toList) fun vs => K (resOf vs) h_103)
          ) (
            optW (pNilCheck a0) fun v70_15 =>
            optW (pOff 2 v70_15) fun v71_15 =>
            optW (rdRow false 1 v71_15 h_98) fun v72_15 =>
            optW (pBin Try.prog .eql 3 v72_15 (.int .i64 0)) fun v73_15 =>
            condW v73_15 (
              X 40 [a0, (.string (bs [59]))] h_98 fun v75_15 h_104 =>
              optW (rdRow true 4 v7_7 h_104) fun v76_30 =>
              optW (pStore 4 v4 v76_30 h_104) fun h_105 =>
              optW (resList Try.prog (pt (pt (pt (pt (pt (pt (pt (pt (pt (pt (pt (pt (pt (pt (pt (pt (pt (pt (pt (pt (pt (pt (pt (pt (pt (pt (pt (pt (pt (pt (pt (pt (pt (pt (pt (pt (pt (pt (pt (pt (pt (pt (pt (pt (pt (pt (pt (pt (pt (pt (pt (pt (pt (pt (pt (pt (pt (pt (pt (pt (pt (pt (envOf [a0, a1]) 3 v3) 4 v4) 8 a0) 9 v9) 10 a0) 11 v11) 12 a0) 13 v13) 14 v14) 15 v15) 5 v15) 16 a0) 17 v17) 18 v18) 19 v19) 20 v20) 22 a0) 23 v23) 6 v23) 24 a0) 25 v25) 26 v26) 27 v27) 28 v28) 29 v28) 30 v30) 31 v31) 32 v32) 33 v33) 34 v34) 38 a0) 39 v39_1) 40 v40_1) 41 v41_1) 42 v42_1) 43 v42_1) 44 v44_2) 45 v45_2) 46 v46_2) 47 v47_2) 48 v48_1) 52 a0) 53 v53_3) 54 v54_3) 55 v55_3) 56 v56_3) 59 v23) 60 v60_7) 7 v7_7) 61 a0) 62 v62_7) 63 v63_7) 64 v64_7) 65 v65_7) 69 a0) 70 v70_15) 71 v71_15) 72 v72_15) 73 v73_15) 74 a0) 75 v75_15) 76 v76_30) h_105 Try.f43.results.toList) fun vs => K (resOf vs) h_105
            ) (
              optW (rdRow true 4 v7_7 h_98) fun v76_31 =>
              optW (pStore 4 v4 v76_31 h_98) fun h_106 =>
              optW (resList Try.prog (pt (pt (pt (pt (pt (pt (pt (pt (pt (pt (pt (pt (pt (pt (pt (pt (pt (pt (pt (pt (pt (pt (pt (pt (pt (pt (pt (pt (pt (pt (pt (pt (pt (pt (pt (pt (pt (pt (pt (pt (pt (pt (pt (pt (pt (pt (pt (pt (pt (pt (pt (pt (pt (pt (pt (pt (pt (pt (pt (pt (envOf [a0, a1]) 3 v3) 4 v4) 8 a0) 9 v9) 10 a0) 11 v11) 12 a0) 13 v13) 14 v14) 15 v15) 5 v15) 16 a0) 17 v17) 18 v18) 19 v19) 20 v20) 22 a0) 23 v23) 6 v23) 24 a0) 25 v25) 26 v26) 27 v27) 28 v28) 29 v28) 30 v30) 31 v31) 32 v32) 33 v33) 34 v34) 38 a0) 39 v39_1) 40 v40_1) 41 v41_1) 42 v42_1) 43 v42_1) 44 v44_2) 45 v45_2) 46 v46_2) 47 v47_2) 48 v48_1) 52 a0) 53 v53_3) 54 v54_3) 55 v55_3) 56 v56_3) 59 v23) 60 v60_7) 7 v7_7) 61 a0) 62 v62_7) 63 v63_7) 64 v64_7) 65 v65_7) 69 a0) 70 v70_15) 71 v71_15) 72 v72_15) 73 v73_15) 76 v76_31) h_106 Try.f43.results.toList) fun vs => K (resOf vs) h_106))))))
theorem e43 (X : CallT) (a0 a1 : Value) (h : AH) (K : Value → AH → Prop) : cwp2 Try.prog X (Try.f43.body.getD .skip) (endW Try.prog Try.f43 K) (envOf [a0, a1]) h = s43 X a0 a1 h K := by kernel_rfl
theorem c43 {a0 a1 : Value} {h : AH} {K : Value → AH → Prop} (hs : s43 (callW Try.prog) a0 a1 h K) : callW Try.prog 43 [a0, a1] h K := callW_of Try.func43 (by kernel_rfl) (Eq.mpr (e43 _ a0 a1 _ _) hs)

end Go.Proofs.Ytlenlhlipmkeeaa.W
end

section
/- Go functions, printed by a program as predicates on what may come behind; each is the function. Conditions: none. -/
namespace Go.Proofs.Ytlenlhlipmkeeaa.W
open Go Go.AM
set_option linter.unusedVariables false
set_option maxRecDepth 100000


/-- strings.TrimLeftFunc () -/
def s55 (X : CallT) (a0 a1 : Value) (h : AH) (K : Value → AH → Prop) : Prop :=
  X 70 [a0, a1, (.bool false)] h fun v8 h_1 =>
  optW (pBin Try.prog .eql 3 v8 (.int .i64 (-1))) fun v10 =>
  condW v10 (
    K (.string (bs [])) h_1
  ) (
    optW (pSliceStr a0 (some v8) none) fun v13 =>
    K v13 h_1)
theorem e55 (X : CallT) (a0 a1 : Value) (h : AH) (K : Value → AH → Prop) : cwp2 Try.prog X (Try.f55.body.getD .skip) (endW Try.prog Try.f55 K) (envOf [a0, a1]) h = s55 X a0 a1 h K := by kernel_rfl
theorem c55 {a0 a1 : Value} {h : AH} {K : Value → AH → Prop} (hs : s55 (callW Try.prog) a0 a1 h K) : callW Try.prog 55 [a0, a1] h K := callW_of Try.func55 (by kernel_rfl) (Eq.mpr (e55 _ a0 a1 _ _) hs)

/-- canopy/schema.letter () -/
def s56 (X : CallT) (a0 : Value) (h : AH) (K : Value → AH → Prop) : Prop :=
  optW (pBin Try.prog .geq 21 a0 (.int .i32 97)) fun v4 =>
  gopW (gB v4 true) (fun k =>
    k a0 h) h fun v6 h_1 =>
  gopW (gB v4 true) (fun k_1 =>
    optW (pBin Try.prog .leq 21 v6 (.int .i32 122)) fun v7_1 =>
    k_1 v7_1 h_1) h_1 fun v7 h_2 =>
  optW (pPick v4 v7 (.bool false)) fun v8 =>
  K v8 h_2
theorem e56 (X : CallT) (a0 : Value) (h : AH) (K : Value → AH → Prop) : cwp2 Try.prog X (Try.f56.body.getD .skip) (endW Try.prog Try.f56 K) (envOf [a0]) h = s56 X a0 h K := by kernel_rfl
theorem c56 {a0 : Value} {h : AH} {K : Value → AH → Prop} (hs : s56 (callW Try.prog) a0 h K) : callW Try.prog 56 [a0] h K := callW_of Try.func56 (by kernel_rfl) (Eq.mpr (e56 _ a0 _ _) hs)

/-- canopy/schema.key () -/
def s57 (X : CallT) (a0 : Value) (h : AH) (K : Value → AH → Prop) : Prop :=
  optW (bldSl 1 [(.string (bs []))] 5 [(0, (.string (bs [114, 111, 111, 116]))), (1, (.string (bs [101, 108, 101, 109, 101, 110, 116]))), (2, (.string (bs [101, 109, 112, 116, 121]))), (3, (.string (bs [97, 110, 121]))), (4, (.string (bs [116, 101, 120, 116])))]) fun c =>
  newW none (.row c true) h fun i h_1 =>
  X 71 [(.slice (some ⟨i, 0, none⟩) 5 5), a0] h_1 fun v5 h_2 =>
  K v5 h_2
theorem e57 (X : CallT) (a0 : Value) (h : AH) (K : Value → AH → Prop) : cwp2 Try.prog X (Try.f57.body.getD .skip) (endW Try.prog Try.f57 K) (envOf [a0]) h = s57 X a0 h K := by kernel_rfl
theorem c57 {a0 : Value} {h : AH} {K : Value → AH → Prop} (hs : s57 (callW Try.prog) a0 h K) : callW Try.prog 57 [a0] h K := callW_of Try.func57 (by kernel_rfl) (Eq.mpr (e57 _ a0 _ _) hs)

/-- (*canopy/schema.parser).or (I at e: live [0, 3], writes [3, 7, 8, 9, 10, 11, 12, 13, 14]) -/
def s58 (X : CallT) (a0 : Value) (h : AH) (K : Value → AH → Prop) : Prop :=
  newR none [(.int .i64 0), (.string (bs [])), (.slice none 0 0)] h fun v2 h_1 =>
  X 72 [a0] h_1 fun v5 h_2 =>
  optW (bldSl 3 [(.int .i64 0), (.string (bs [])), (.slice none 0 0)] 1 [(0, v5)]) fun c =>
  newW none (.row c true) h_2 fun i h_3 =>
  loopE (fun I e h_4 =>
    optW (bld [(.string (bs [])), (.int .u8 0)] [(0, 1), (1, 1)] [(1, (.int .u8 124))]) fun v8 =>
    X 35 [(e 0), v8] h_4 fun v9 h_5 =>
    condW v9 (
      X 72 [(e 0)] h_5 fun v12 h_6 =>
      optW (bldSl 3 [(.int .i64 0), (.string (bs [])), (.slice none 0 0)] 1 [(0, v12)]) fun c_1 =>
      newW none (.row c_1 true) h_6 fun i_1 h_7 =>
      appSl 3 (e 3) (.slice (some ⟨i_1, 0, none⟩) 1 1) h_7 fun v14 h_8 =>
      I (pt (pt (pt (pt (pt (pt (pt (pt (pt e 7 (e 0)) 8 v8) 9 v9) 10 (e 3)) 11 (e 0)) 12 v12) 13 (.slice (some ⟨i_1, 0, none⟩) 1 1)) 14 v14) 3 v14) h_8
    ) (
      X 73 [(.int .i64 6), (e 3)] h_5 fun v16 h_9 =>
      optW (pStore 3 (e 2) v16 h_9) fun h_10 =>
      optW (resList Try.prog (pt (pt (pt (pt (pt e 7 (e 0)) 8 v8) 9 v9) 15 (e 3)) 16 v16) h_10 Try.f58.results.toList) fun vs => K (resOf vs) h_10))
  (pt (pt (pt (pt (pt (envOf [a0]) 2 v2) 4 a0) 5 v5) 6 (.slice (some ⟨i, 0, none⟩) 1 1)) 3 (.slice (some ⟨i, 0, none⟩) 1 1)) h_3
theorem e58 (X : CallT) (a0 : Value) (h : AH) (K : Value → AH → Prop) : cwp2 Try.prog X (Try.f58.body.getD .skip) (endW Try.prog Try.f58 K) (envOf [a0]) h = s58 X a0 h K := by kernel_rfl
theorem c58 {a0 : Value} {h : AH} {K : Value → AH → Prop} (hs : s58 (callW Try.prog) a0 h K) : callW Try.prog 58 [a0] h K := callW_of Try.func58 (by kernel_rfl) (Eq.mpr (e58 _ a0 _ _) hs)

/-- slices.ContainsFunc[[]canopy/api.Element,canopy/api.Element] () -/
def s59 (X : CallT) (a0 a1 : Value) (h : AH) (K : Value → AH → Prop) : Prop :=
  X 74 [a0, a1] h fun v7 h_1 =>
  optW (pBin Try.prog .geq 3 v7 (.int .i64 0)) fun v8 =>
  K v8 h_1
theorem e59 (X : CallT) (a0 a1 : Value) (h : AH) (K : Value → AH → Prop) : cwp2 Try.prog X (Try.f59.body.getD .skip) (endW Try.prog Try.f59 K) (envOf [a0, a1]) h = s59 X a0 a1 h K := by kernel_rfl
theorem c59 {a0 a1 : Value} {h : AH} {K : Value → AH → Prop} (hs : s59 (callW Try.prog) a0 a1 h K) : callW Try.prog 59 [a0, a1] h K := callW_of Try.func59 (by kernel_rfl) (Eq.mpr (e59 _ a0 a1 _ _) hs)

/-- canopy/schema.has$1 () -/
def s60 (X : CallT) (a0 a1 : Value) (h : AH) (K : Value → AH → Prop) : Prop :=
  aBox a0 none h fun v2 h_1 =>
  optW (pOff 0 v2) fun v4 =>
  optW (rdRow false 1 v4 h_1) fun v5 =>
  optW (rdRow false 1 a1 h_1) fun v6 =>
  optW (pBin Try.prog .eql 9 v5 v6) fun v7 =>
  K v7 h_1
theorem e60 (X : CallT) (a0 a1 : Value) (h : AH) (K : Value → AH → Prop) : cwp2 Try.prog X (Try.f60.body.getD .skip) (endW Try.prog Try.f60 K) (envOf [a0, a1]) h = s60 X a0 a1 h K := by kernel_rfl
theorem c60 {a0 a1 : Value} {h : AH} {K : Value → AH → Prop} (hs : s60 (callW Try.prog) a0 a1 h K) : callW Try.prog 60 [a0, a1] h K := callW_of Try.func60 (by kernel_rfl) (Eq.mpr (e60 _ a0 a1 _ _) hs)

/-- (*canopy/canopyref8.reader).word (I at e: live [0, 3], writes [3, 10, 11, 12, 13, 14, 15, 16, 17, 18, 19, 20, 21, 22, 23, 24, 25, 26, 27, 28, 29, 30, 31, 32, 33, 34, 35, 36]) -/
def s61 (X : CallT) (a0 : Value) (h : AH) (K : Value → AH → Prop) : Prop :=
  X 42 [a0] h fun v5 h_1 =>
  optW (pNilCheck a0) fun v7 =>
  optW (pOff 1 v7) fun v8 =>
  optW (rdRow false 1 v8 h_1) fun v9 =>
  loopE (fun I e h_2 =>
    optW (pNilCheck (e 0)) fun v12 =>
    optW (pOff 0 v12) fun v13 =>
    optW (rdRow false 1 v13 h_2) fun v14 =>
    optW (lenStr v14) fun v15 =>
    optW (pBin Try.prog .lss 3 (e 3) v15) fun v16 =>
    gopW (gB v16 true) (fun k =>
      k (e 0) h_2) h_2 fun v18 h_3 =>
    gopW (gB v16 true) (fun k_1 =>
      optW (pNilCheck v18) fun v19_1 =>
      k_1 v19_1 h_3) h_3 fun v19 h_4 =>
    gopW (gB v16 true) (fun k_2 =>
      optW (pOff 0 v19) fun v20_1 =>
      k_2 v20_1 h_4) h_4 fun v20 h_5 =>
    gopW (gB v16 true) (fun k_3 =>
      optW (rdRow false 1 v20 h_5) fun v21_1 =>
      k_3 v21_1 h_5) h_5 fun v21 h_6 =>
    gopW (gB v16 true) (fun k_4 =>
      k_4 (e 3) h_6) h_6 fun v22 h_7 =>
    gopW (gB v16 true) (fun k_5 =>
      optW (pIdxStr v21 v22) fun v23_1 =>
      k_5 v23_1 h_7) h_7 fun v23 h_8 =>
    gopW (gB v16 true) (fun k_6 =>
      optW (pBin Try.prog .geq 5 v23 (.int .u8 97)) fun v24_1 =>
      k_6 v24_1 h_8) h_8 fun v24 h_9 =>
    optW (pPick v16 v24 (.bool false)) fun v25 =>
    gopW (gB v25 true) (fun k_7 =>
      k_7 (e 0) h_9) h_9 fun v27 h_10 =>
    gopW (gB v25 true) (fun k_8 =>
      optW (pNilCheck v27) fun v28_1 =>
      k_8 v28_1 h_10) h_10 fun v28 h_11 =>
    gopW (gB v25 true) (fun k_9 =>
      optW (pOff 0 v28) fun v29_1 =>
      k_9 v29_1 h_11) h_11 fun v29 h_12 =>
    gopW (gB v25 true) (fun k_10 =>
      optW (rdRow false 1 v29 h_12) fun v30_1 =>
      k_10 v30_1 h_12) h_12 fun v30 h_13 =>
    gopW (gB v25 true) (fun k_11 =>
      k_11 (e 3) h_13) h_13 fun v31 h_14 =>
    gopW (gB v25 true) (fun k_12 =>
      optW (pIdxStr v30 v31) fun v32_1 =>
      k_12 v32_1 h_14) h_14 fun v32 h_15 =>
    gopW (gB v25 true) (fun k_13 =>
      optW (pBin Try.prog .leq 5 v32 (.int .u8 122)) fun v33_1 =>
      k_13 v33_1 h_15) h_15 fun v33 h_16 =>
    optW (pPick v25 v33 (.bool false)) fun v34 =>
    condW v34 (
      optW (pBin Try.prog .add 3 (e 3) (.int .i64 1)) fun v36 =>
      I (pt (pt (pt (pt (pt (pt (pt (pt (pt (pt (pt (pt (pt (pt (pt (pt (pt (pt (pt (pt (pt (pt (pt (pt (pt (pt (pt (pt e 10 (e 3)) 11 (e 0)) 12 v12) 13 v13) 14 v14) 15 v15) 16 v16) 17 v16) 18 v18) 19 v19) 20 v20) 21 v21) 22 v22) 23 v23) 24 v24) 25 v25) 26 v25) 27 v27) 28 v28) 29 v29) 30 v30) 31 v31) 32 v32) 33 v33) 34 v34) 35 (e 3)) 36 v36) 3 v36) h_16
    ) (
      optW (pNilCheck (e 0)) fun v38 =>
      optW (pOff 0 v38) fun v39 =>
      optW (rdRow false 1 v39 h_16) fun v40 =>
      optW (pNilCheck (e 0)) fun v42 =>
      optW (pOff 1 v42) fun v43 =>
      optW (rdRow false 1 v43 h_16) fun v44 =>
      optW (pSliceStr v40 (some v44) (some (e 3))) fun v46 =>
      K v46 h_16))
  (pt (pt (pt (pt (pt (pt (pt (pt (envOf [a0]) 2 (.string (bs []))) 4 a0) 5 v5) 6 a0) 7 v7) 8 v8) 9 v9) 3 v9) h_1
theorem e61 (X : CallT) (a0 : Value) (h : AH) (K : Value → AH → Prop) : cwp2 Try.prog X (Try.f61.body.getD .skip) (endW Try.prog Try.f61 K) (envOf [a0]) h = s61 X a0 h K := by kernel_rfl
theorem c61 {a0 : Value} {h : AH} {K : Value → AH → Prop} (hs : s61 (callW Try.prog) a0 h K) : callW Try.prog 61 [a0] h K := callW_of Try.func61 (by kernel_rfl) (Eq.mpr (e61 _ a0 _ _) hs)

/-- (*canopy/canopyref8.reader).fail () -/
def s62 (X : CallT) (a0 a1 a2 : Value) (h : AH) (K : Value → AH → Prop) : Prop :=
  newR none [(.int .i64 0), (.string (bs [])), (.slice none 0 0)] h fun v6 h_1 =>
  optW (pNilCheck a0) fun v8 =>
  optW (pOff 2 v8) fun v9 =>
  optW (rdRow false 1 v9 h_1) fun v10 =>
  optW (pBin Try.prog .eql 3 v10 (.int .i64 0)) fun v11 =>
  condW v11 (
    optW (pNilCheck a0) fun v16 =>
    optW (pOff 2 v16) fun v17 =>
    optW (pStore 1 v17 a1 h_1) fun h_2 =>
    optW (pNilCheck a0) fun v18 =>
    optW (pOff 3 v18) fun v19 =>
    optW (pStore 1 v19 a2 h_2) fun h_3 =>
    optW (bld [(.int .i64 0), (.string (bs [])), (.slice none 0 0)] [(0, 1), (1, 1), (2, 1)] []) fun v20 =>
    optW (pStore 3 v6 v20 h_3) fun h_4 =>
    optW (resList Try.prog (pt (pt (pt (pt (pt (pt (pt (pt (pt (pt (pt (pt (pt (pt (pt (envOf [a0, a1, a2]) 6 v6) 7 a0) 8 v8) 9 v9) 10 v10) 11 v11) 12 a0) 13 a0) 14 a1) 15 a2) 16 v16) 17 v17) 18 v18) 19 v19) 20 v20) h_4 Try.f62.results.toList) fun vs => K (resOf vs) h_4
  ) (
    optW (bld [(.int .i64 0), (.string (bs [])), (.slice none 0 0)] [(0, 1), (1, 1), (2, 1)] []) fun v20_1 =>
    optW (pStore 3 v6 v20_1 h_1) fun h_5 =>
    optW (resList Try.prog (pt (pt (pt (pt (pt (pt (pt (envOf [a0, a1, a2]) 6 v6) 7 a0) 8 v8) 9 v9) 10 v10) 11 v11) 20 v20_1) h_5 Try.f62.results.toList) fun vs => K (resOf vs) h_5)
theorem e62 (X : CallT) (a0 a1 a2 : Value) (h : AH) (K : Value → AH → Prop) : cwp2 Try.prog X (Try.f62.body.getD .skip) (endW Try.prog Try.f62 K) (envOf [a0, a1, a2]) h = s62 X a0 a1 a2 h K := by kernel_rfl
theorem c62 {a0 a1 a2 : Value} {h : AH} {K : Value → AH → Prop} (hs : s62 (callW Try.prog) a0 a1 a2 h K) : callW Try.prog 62 [a0, a1, a2] h K := callW_of Try.func62 (by kernel_rfl) (Eq.mpr (e62 _ a0 a1 a2 _ _) hs)

/-- canopy/canopyref8.kept () -/
def s63 (X : CallT) (a0 : Value) (h : AH) (K : Value → AH → Prop) : Prop :=
  optW (pBin Try.prog .eql 9 a0 (.string (bs [114, 111, 111, 116]))) fun v4 =>
  gopW (gB v4 false) (fun k =>
    k a0 h) h fun v6 h_1 =>
  gopW (gB v4 false) (fun k_1 =>
    optW (pBin Try.prog .eql 9 v6 (.string (bs [101, 108, 101, 109, 101, 110, 116]))) fun v7_1 =>
    k_1 v7_1 h_1) h_1 fun v7 h_2 =>
  optW (pPick v4 (.bool true) v7) fun v8 =>
  gopW (gB v8 false) (fun k_2 =>
    k_2 a0 h_2) h_2 fun v10 h_3 =>
  gopW (gB v8 false) (fun k_3 =>
    optW (pBin Try.prog .eql 9 v10 (.string (bs [101, 109, 112, 116, 121]))) fun v11_1 =>
    k_3 v11_1 h_3) h_3 fun v11 h_4 =>
  optW (pPick v8 (.bool true) v11) fun v12 =>
  gopW (gB v12 false) (fun k_4 =>
    k_4 a0 h_4) h_4 fun v14 h_5 =>
  gopW (gB v12 false) (fun k_5 =>
    optW (pBin Try.prog .eql 9 v14 (.string (bs [97, 110, 121]))) fun v15_1 =>
    k_5 v15_1 h_5) h_5 fun v15 h_6 =>
  optW (pPick v12 (.bool true) v15) fun v16 =>
  gopW (gB v16 false) (fun k_6 =>
    k_6 a0 h_6) h_6 fun v18 h_7 =>
  gopW (gB v16 false) (fun k_7 =>
    optW (pBin Try.prog .eql 9 v18 (.string (bs [116, 101, 120, 116]))) fun v19_1 =>
    k_7 v19_1 h_7) h_7 fun v19 h_8 =>
  optW (pPick v16 (.bool true) v19) fun v20 =>
  K v20 h_8
theorem e63 (X : CallT) (a0 : Value) (h : AH) (K : Value → AH → Prop) : cwp2 Try.prog X (Try.f63.body.getD .skip) (endW Try.prog Try.f63 K) (envOf [a0]) h = s63 X a0 h K := by kernel_rfl
theorem c63 {a0 : Value} {h : AH} {K : Value → AH → Prop} (hs : s63 (callW Try.prog) a0 h K) : callW Try.prog 63 [a0] h K := callW_of Try.func63 (by kernel_rfl) (Eq.mpr (e63 _ a0 _ _) hs)

/-- (*canopy/canopyref8.reader).or (I at e: live [0, 3], writes [3, 7, 8, 9, 10, 11, 12, 13, 14, 15, 16, 17, 18, 19, 20, 21, 22, 23, 24, 25, 26, 27]) -/
def s64 (X : CallT) (a0 : Value) (h : AH) (K : Value → AH → Prop) : Prop :=
  newR none [(.int .i64 0), (.string (bs [])), (.slice none 0 0)] h fun v2 h_1 =>
  X 75 [a0] h_1 fun v5 h_2 =>
  optW (bldSl 3 [(.int .i64 0), (.string (bs [])), (.slice none 0 0)] 1 [(0, v5)]) fun c =>
  newW none (.row c true) h_2 fun i h_3 =>
  loopE (fun I e h_4 =>
    optW (pNilCheck (e 0)) fun v8 =>
    optW (pOff 2 v8) fun v9 =>
    optW (rdRow false 1 v9 h_4) fun v10 =>
    optW (pBin Try.prog .eql 3 v10 (.int .i64 0)) fun v11 =>
    gopW (gB v11 true) (fun k =>
      k (e 0) h_4) h_4 fun v13 h_5 =>
    gopW (gB v11 true) (fun k_1 =>
      X 76 [v13, (.int .u8 124)] h_5 fun v14_1 h_7 =>
      k_1 v14_1 h_7) h_5 fun v14 h_6 =>
    optW (pPick v11 v14 (.bool false)) fun v15 =>
    condW v15 (
      optW (pNilCheck (e 0)) fun v17 =>
      optW (pOff 1 v17) fun v18 =>
      optW (rdRow false 1 v18 h_6) fun v19 =>
      optW (pBin Try.prog .add 3 v19 (.int .i64 1)) fun v20 =>
      optW (pNilCheck (e 0)) fun v21 =>
      optW (pOff 1 v21) fun v22 =>
      optW (pStore 1 v22 v20 h_6) fun h_8 =>
      X 75 [(e 0)] h_8 fun v25 h_9 =>
      optW (bldSl 3 [(.int .i64 0), (.string (bs [])), (.slice none 0 0)] 1 [(0, v25)]) fun c_1 =>
      newW none (.row c_1 true) h_9 fun i_1 h_10 =>
      appSl 3 (e 3) (.slice (some ⟨i_1, 0, none⟩) 1 1) h_10 fun v27 h_11 =>
      I (pt (pt (pt (pt (pt (pt (pt (pt (pt (pt (pt (pt (pt (pt (pt (pt (pt (pt (pt (pt (pt (pt e 7 (e 0)) 8 v8) 9 v9) 10 v10) 11 v11) 12 v11) 13 v13) 14 v14) 15 v15) 16 (e 0)) 17 v17) 18 v18) 19 v19) 20 v20) 21 v21) 22 v22) 23 (e 3)) 24 (e 0)) 25 v25) 26 (.slice (some ⟨i_1, 0, none⟩) 1 1)) 27 v27) 3 v27) h_11
    ) (
      optW (lenSl (e 3)) fun v29 =>
      optW (pBin Try.prog .eql 3 v29 (.int .i64 1)) fun v30 =>
      condW v30 (
        optW (pIdxS 3 (e 3) (.int .i64 0)) fun v32 =>
        optW (rdRow true 3 v32 h_6) fun v33 =>
        optW (pStore 3 (e 2) v33 h_6) fun h_12 =>
        optW (resList Try.prog (pt (pt (pt (pt (pt (pt (pt (pt (pt (pt (pt (pt (pt (pt (pt e 7 (e 0)) 8 v8) 9 v9) 10 v10) 11 v11) 12 v11) 13 v13) 14 v14) 15 v15) 28 (e 3)) 29 v29) 30 v30) 31 (e 3)) 32 v32) 33 v33) h_12 Try.f64.results.toList) fun vs => K (resOf vs) h_12
      ) (
        optW (bld [(.int .i64 0), (.string (bs [])), (.slice none 0 0)] [(0, 1), (1, 1), (2, 1)] [(0, (.int .i64 6)), (2, (e 3))]) fun v35 =>
        optW (pStore 3 (e 2) v35 h_6) fun h_13 =>
        optW (resList Try.prog (pt (pt (pt (pt (pt (pt (pt (pt (pt (pt (pt (pt (pt (pt e 7 (e 0)) 8 v8) 9 v9) 10 v10) 11 v11) 12 v11) 13 v13) 14 v14) 15 v15) 28 (e 3)) 29 v29) 30 v30) 34 (e 3)) 35 v35) h_13 Try.f64.results.toList) fun vs => K (resOf vs) h_13)))
  (pt (pt (pt (pt (pt (envOf [a0]) 2 v2) 4 a0) 5 v5) 6 (.slice (some ⟨i, 0, none⟩) 1 1)) 3 (.slice (some ⟨i, 0, none⟩) 1 1)) h_3
theorem e64 (X : CallT) (a0 : Value) (h : AH) (K : Value → AH → Prop) : cwp2 Try.prog X (Try.f64.body.getD .skip) (endW Try.prog Try.f64 K) (envOf [a0]) h = s64 X a0 h K := by kernel_rfl
theorem c64 {a0 : Value} {h : AH} {K : Value → AH → Prop} (hs : s64 (callW Try.prog) a0 h K) : callW Try.prog 64 [a0] h K := callW_of Try.func64 (by kernel_rfl) (Eq.mpr (e64 _ a0 _ _) hs)

end Go.Proofs.Ytlenlhlipmkeeaa.W
end

section
/- Go functions, printed by a program as predicates on what may come behind; each is the function. Conditions: none. -/
namespace Go.Proofs.Ytlenlhlipmkeeaa.W
open Go Go.AM
set_option linter.unusedVariables false
set_option maxRecDepth 100000


/-- strings.indexFunc (I at e: live [1, 2, 10], writes [6, 7, 8, 11, 12, 13, 14, 15, 16, 17, 18, 19, 20]) -/
def s70 (X : CallT) (a0 a1 a2 : Value) (h : AH) (K : Value → AH → Prop) : Prop :=
  aRange Try.prog 9 a0 none h fun v10 h_1 =>
  loopE (fun I e h_2 =>
    aNext (e 10) true h_2 fun v11 h_3 =>
    optW (pExtract v11 0) fun v12 =>
    condW v12 (
      optW (pExtract v11 1) fun v13 =>
      optW (pExtract v11 2) fun v14 =>
      callV X (e 1) [v14] h_3 fun v17 h_4 =>
      optW (pBin Try.prog .eql 4 v17 (e 2)) fun v19 =>
      condW v19 (
        K v13 h_4
      ) (
        I (pt (pt (pt (pt (pt (pt (pt (pt (pt (pt (pt e 11 v11) 12 v12) 13 v13) 14 v14) 7 v13) 8 v14) 15 (e 1)) 16 v14) 17 v17) 18 (e 2)) 19 v19) h_4)
    ) (
      K (.int .i64 (-1)) h_3))
  (pt (pt (pt (envOf [a0, a1, a2]) 6 (.int .i64 0)) 9 a0) 10 v10) h_1
theorem e70 (X : CallT) (a0 a1 a2 : Value) (h : AH) (K : Value → AH → Prop) : cwp2 Try.prog X (Try.f70.body.getD .skip) (endW Try.prog Try.f70 K) (envOf [a0, a1, a2]) h = s70 X a0 a1 a2 h K := by kernel_rfl
theorem c70 {a0 a1 a2 : Value} {h : AH} {K : Value → AH → Prop} (hs : s70 (callW Try.prog) a0 a1 a2 h K) : callW Try.prog 70 [a0, a1, a2] h K := callW_of Try.func70 (by kernel_rfl) (Eq.mpr (e70 _ a0 a1 a2 _ _) hs)

/-- slices.Contains[[]string,string] () -/
def s71 (X : CallT) (a0 a1 : Value) (h : AH) (K : Value → AH → Prop) : Prop :=
  X 89 [a0, a1] h fun v7 h_1 =>
  optW (pBin Try.prog .geq 3 v7 (.int .i64 0)) fun v8 =>
  K v8 h_1
theorem e71 (X : CallT) (a0 a1 : Value) (h : AH) (K : Value → AH → Prop) : cwp2 Try.prog X (Try.f71.body.getD .skip) (endW Try.prog Try.f71 K) (envOf [a0, a1]) h = s71 X a0 a1 h K := by kernel_rfl
theorem c71 {a0 a1 : Value} {h : AH} {K : Value → AH → Prop} (hs : s71 (callW Try.prog) a0 a1 h K) : callW Try.prog 71 [a0, a1] h K := callW_of Try.func71 (by kernel_rfl) (Eq.mpr (e71 _ a0 a1 _ _) hs)

/-- (*canopy/schema.parser).seq (I at e: live [0, 3], writes [3, 7, 8, 9, 10, 11, 12, 13, 14]) -/
def s72 (X : CallT) (a0 : Value) (h : AH) (K : Value → AH → Prop) : Prop :=
  newR none [(.int .i64 0), (.string (bs [])), (.slice none 0 0)] h fun v2 h_1 =>
  X 90 [a0] h_1 fun v5 h_2 =>
  optW (bldSl 3 [(.int .i64 0), (.string (bs [])), (.slice none 0 0)] 1 [(0, v5)]) fun c =>
  newW none (.row c true) h_2 fun i h_3 =>
  loopE (fun I e h_4 =>
    optW (bld [(.string (bs [])), (.int .u8 0)] [(0, 1), (1, 1)] [(1, (.int .u8 44))]) fun v8 =>
    X 35 [(e 0), v8] h_4 fun v9 h_5 =>
    condW v9 (
      X 90 [(e 0)] h_5 fun v12 h_6 =>
      optW (bldSl 3 [(.int .i64 0), (.string (bs [])), (.slice none 0 0)] 1 [(0, v12)]) fun c_1 =>
      newW none (.row c_1 true) h_6 fun i_1 h_7 =>
      appSl 3 (e 3) (.slice (some ⟨i_1, 0, none⟩) 1 1) h_7 fun v14 h_8 =>
      I (pt (pt (pt (pt (pt (pt (pt (pt (pt e 7 (e 0)) 8 v8) 9 v9) 10 (e 3)) 11 (e 0)) 12 v12) 13 (.slice (some ⟨i_1, 0, none⟩) 1 1)) 14 v14) 3 v14) h_8
    ) (
      X 73 [(.int .i64 5), (e 3)] h_5 fun v16 h_9 =>
      optW (pStore 3 (e 2) v16 h_9) fun h_10 =>
      optW (resList Try.prog (pt (pt (pt (pt (pt e 7 (e 0)) 8 v8) 9 v9) 15 (e 3)) 16 v16) h_10 Try.f72.results.toList) fun vs => K (resOf vs) h_10))
  (pt (pt (pt (pt (pt (envOf [a0]) 2 v2) 4 a0) 5 v5) 6 (.slice (some ⟨i, 0, none⟩) 1 1)) 3 (.slice (some ⟨i, 0, none⟩) 1 1)) h_3
theorem e72 (X : CallT) (a0 : Value) (h : AH) (K : Value → AH → Prop) : cwp2 Try.prog X (Try.f72.body.getD .skip) (endW Try.prog Try.f72 K) (envOf [a0]) h = s72 X a0 h K := by kernel_rfl
theorem c72 {a0 : Value} {h : AH} {K : Value → AH → Prop} (hs : s72 (callW Try.prog) a0 h K) : callW Try.prog 72 [a0] h K := callW_of Try.func72 (by kernel_rfl) (Eq.mpr (e72 _ a0 _ _) hs)

/-- canopy/schema.several () -/
def s73 (X : CallT) (a0 a1 : Value) (h : AH) (K : Value → AH → Prop) : Prop :=
  newR none [(.int .i64 0), (.string (bs [])), (.slice none 0 0)] h fun v4 h_1 =>
  optW (lenSl a1) fun v6 =>
  optW (pBin Try.prog .eql 3 v6 (.int .i64 1)) fun v7 =>
  condW v7 (
    optW (pIdxS 3 a1 (.int .i64 0)) fun v9 =>
    optW (rdRow true 3 v9 h_1) fun v10 =>
    optW (pStore 3 v4 v10 h_1) fun h_2 =>
    optW (resList Try.prog (pt (pt (pt (pt (pt (pt (pt (envOf [a0, a1]) 4 v4) 5 a1) 6 v6) 7 v7) 8 a1) 9 v9) 10 v10) h_2 Try.f73.results.toList) fun vs => K (resOf vs) h_2
  ) (
    X 91 [a1] h_1 fun v13 h_3 =>
    optW (bld [(.int .i64 0), (.string (bs [])), (.slice none 0 0)] [(0, 1), (1, 1), (2, 1)] [(0, a0), (2, v13)]) fun v14 =>
    optW (pStore 3 v4 v14 h_3) fun h_4 =>
    optW (resList Try.prog (pt (pt (pt (pt (pt (pt (pt (pt (envOf [a0, a1]) 4 v4) 5 a1) 6 v6) 7 v7) 11 a0) 12 a1) 13 v13) 14 v14) h_4 Try.f73.results.toList) fun vs => K (resOf vs) h_4)
theorem e73 (X : CallT) (a0 a1 : Value) (h : AH) (K : Value → AH → Prop) : cwp2 Try.prog X (Try.f73.body.getD .skip) (endW Try.prog Try.f73 K) (envOf [a0, a1]) h = s73 X a0 a1 h K := by kernel_rfl
theorem c73 {a0 a1 : Value} {h : AH} {K : Value → AH → Prop} (hs : s73 (callW Try.prog) a0 a1 h K) : callW Try.prog 73 [a0, a1] h K := callW_of Try.func73 (by kernel_rfl) (Eq.mpr (e73 _ a0 a1 _ _) hs)

/-- slices.IndexFunc[[]canopy/api.Element,canopy/api.Element] (I at e: live [0, 1, 7, 8], writes [4, 5, 8, 9, 10, 11, 12, 13, 14, 15, 16, 17, 18]) -/
def s74 (X : CallT) (a0 a1 : Value) (h : AH) (K : Value → AH → Prop) : Prop :=
  optW (lenSl a0) fun v7 =>
  loopE (fun I e h_1 =>
    optW (pBin Try.prog .lss 3 (e 8) (e 7)) fun v9 =>
    condW v9 (
      optW (pIdxS 4 (e 0) (e 8)) fun v14 =>
      optW (rdRow true 4 v14 h_1) fun v15 =>
      callV X (e 1) [v15] h_1 fun v16 h_2 =>
      condW v16 (
        K (e 8) h_2
      ) (
        optW (pBin Try.prog .add 3 (e 8) (.int .i64 1)) fun v18 =>
        I (pt (pt (pt (pt (pt (pt (pt (pt (pt (pt (pt e 9 v9) 10 (e 8)) 5 (e 8)) 11 (e 1)) 12 (e 0)) 13 (e 8)) 14 v14) 15 v15) 16 v16) 18 v18) 8 v18) h_2)
    ) (
      K (.int .i64 (-1)) h_1))
  (pt (pt (pt (pt (envOf [a0, a1]) 4 (.int .i64 0)) 6 a0) 7 v7) 8 (.int .i64 0)) h
theorem e74 (X : CallT) (a0 a1 : Value) (h : AH) (K : Value → AH → Prop) : cwp2 Try.prog X (Try.f74.body.getD .skip) (endW Try.prog Try.f74 K) (envOf [a0, a1]) h = s74 X a0 a1 h K := by kernel_rfl
theorem c74 {a0 a1 : Value} {h : AH} {K : Value → AH → Prop} (hs : s74 (callW Try.prog) a0 a1 h K) : callW Try.prog 74 [a0, a1] h K := callW_of Try.func74 (by kernel_rfl) (Eq.mpr (e74 _ a0 a1 _ _) hs)

/-- (*canopy/canopyref8.reader).seq (I at e: live [0, 3], writes [3, 7, 8, 9, 10, 11, 12, 13, 14, 15, 16, 17, 18, 19, 20, 21, 22, 23, 24, 25, 26, 27]) -/
def s75 (X : CallT) (a0 : Value) (h : AH) (K : Value → AH → Prop) : Prop :=
  newR none [(.int .i64 0), (.string (bs [])), (.slice none 0 0)] h fun v2 h_1 =>
  X 92 [a0] h_1 fun v5 h_2 =>
  optW (bldSl 3 [(.int .i64 0), (.string (bs [])), (.slice none 0 0)] 1 [(0, v5)]) fun c =>
  newW none (.row c true) h_2 fun i h_3 =>
  loopE (fun I e h_4 =>
    optW (pNilCheck (e 0)) fun v8 =>
    optW (pOff 2 v8) fun v9 =>
    optW (rdRow false 1 v9 h_4) fun v10 =>
    optW (pBin Try.prog .eql 3 v10 (.int .i64 0)) fun v11 =>
    gopW (gB v11 true) (fun k =>
      k (e 0) h_4) h_4 fun v13 h_5 =>
    gopW (gB v11 true) (fun k_1 =>
      X 76 [v13, (.int .u8 44)] h_5 fun v14_1 h_7 =>
      k_1 v14_1 h_7) h_5 fun v14 h_6 =>
    optW (pPick v11 v14 (.bool false)) fun v15 =>
    condW v15 (
      optW (pNilCheck (e 0)) fun v17 =>
      optW (pOff 1 v17) fun v18 =>
      optW (rdRow false 1 v18 h_6) fun v19 =>
      optW (pBin Try.prog .add 3 v19 (.int .i64 1)) fun v20 =>
      optW (pNilCheck (e 0)) fun v21 =>
      optW (pOff 1 v21) fun v22 =>
      optW (pStore 1 v22 v20 h_6) fun h_8 =>
      X 92 [(e 0)] h_8 fun v25 h_9 =>
      optW (bldSl 3 [(.int .i64 0), (.string (bs [])), (.slice none 0 0)] 1 [(0, v25)]) fun c_1 =>
      newW none (.row c_1 true) h_9 fun i_1 h_10 =>
      appSl 3 (e 3) (.slice (some ⟨i_1, 0, none⟩) 1 1) h_10 fun v27 h_11 =>
      I (pt (pt (pt (pt (pt (pt (pt (pt (pt (pt (pt (pt (pt (pt (pt (pt (pt (pt (pt (pt (pt (pt e 7 (e 0)) 8 v8) 9 v9) 10 v10) 11 v11) 12 v11) 13 v13) 14 v14) 15 v15) 16 (e 0)) 17 v17) 18 v18) 19 v19) 20 v20) 21 v21) 22 v22) 23 (e 3)) 24 (e 0)) 25 v25) 26 (.slice (some ⟨i_1, 0, none⟩) 1 1)) 27 v27) 3 v27) h_11
    ) (
      optW (lenSl (e 3)) fun v29 =>
      optW (pBin Try.prog .eql 3 v29 (.int .i64 1)) fun v30 =>
      condW v30 (
        optW (pIdxS 3 (e 3) (.int .i64 0)) fun v32 =>
        optW (rdRow true 3 v32 h_6) fun v33 =>
        optW (pStore 3 (e 2) v33 h_6) fun h_12 =>
        optW (resList Try.prog (pt (pt (pt (pt (pt (pt (pt (pt (pt (pt (pt (pt (pt (pt (pt e 7 (e 0)) 8 v8) 9 v9) 10 v10) 11 v11) 12 v11) 13 v13) 14 v14) 15 v15) 28 (e 3)) 29 v29) 30 v30) 31 (e 3)) 32 v32) 33 v33) h_12 Try.f75.results.toList) fun vs => K (resOf vs) h_12
      ) (
        optW (bld [(.int .i64 0), (.string (bs [])), (.slice none 0 0)] [(0, 1), (1, 1), (2, 1)] [(0, (.int .i64 5)), (2, (e 3))]) fun v35 =>
        optW (pStore 3 (e 2) v35 h_6) fun h_13 =>
        optW (resList Try.prog (pt (pt (pt (pt (pt (pt (pt (pt (pt (pt (pt (pt (pt (pt e 7 (e 0)) 8 v8) 9 v9) 10 v10) 11 v11) 12 v11) 13 v13) 14 v14) 15 v15) 28 (e 3)) 29 v29) 30 v30) 34 (e 3)) 35 v35) h_13 Try.f75.results.toList) fun vs => K (resOf vs) h_13)))
  (pt (pt (pt (pt (pt (envOf [a0]) 2 v2) 4 a0) 5 v5) 6 (.slice (some ⟨i, 0, none⟩) 1 1)) 3 (.slice (some ⟨i, 0, none⟩) 1 1)) h_3
theorem e75 (X : CallT) (a0 : Value) (h : AH) (K : Value → AH → Prop) : cwp2 Try.prog X (Try.f75.body.getD .skip) (endW Try.prog Try.f75 K) (envOf [a0]) h = s75 X a0 h K := by kernel_rfl
theorem c75 {a0 : Value} {h : AH} {K : Value → AH → Prop} (hs : s75 (callW Try.prog) a0 h K) : callW Try.prog 75 [a0] h K := callW_of Try.func75 (by kernel_rfl) (Eq.mpr (e75 _ a0 _ _) hs)

/-- (*canopy/canopyref8.reader).is () -/
def s76 (X : CallT) (a0 a1 : Value) (h : AH) (K : Value → AH → Prop) : Prop :=
  X 42 [a0] h fun v6 h_1 =>
  optW (pNilCheck a0) fun v8 =>
  optW (pOff 1 v8) fun v9 =>
  optW (rdRow false 1 v9 h_1) fun v10 =>
  optW (pNilCheck a0) fun v12 =>
  optW (pOff 0 v12) fun v13 =>
  optW (rdRow false 1 v13 h_1) fun v14 =>
  optW (lenStr v14) fun v15 =>
  optW (pBin Try.prog .lss 3 v10 v15) fun v16 =>
  gopD (gB v16 true) (fun k =>
    k a0 h_1 [] ((7, (ceOf 1 v13)) :: ((3, (ceOf 1 v9)) :: []))) h_1 [] ((7, (ceOf 1 v13)) :: ((3, (ceOf 1 v9)) :: [])) fun v18 h_2 H S =>
  gopD (gB v16 true) (fun k_1 =>
    optW (pNilCheck v18) fun v19_1 =>
    k_1 v19_1 h_2 H S) h_2 H S fun v19 h_3 H_1 S_1 =>
  gopD (gB v16 true) (fun k_2 =>
    optW (pOff 0 v19) fun v20_1 =>
    k_2 v20_1 h_3 H_1 S_1) h_3 H_1 S_1 fun v20 h_4 H_2 S_2 =>
  gopD (gB v16 true) (fun k_3 =>
    histC #[0, 1, 3, 7, 0, 16, 48, 112, 240, 511, 1023, 2047, 4095, 8191, 16383, 2047, 34815, 100351, 231423, 524287, 2047, 2097151, 4194303, 8388607] 14 (ceOf 1 v20) H_2 (
      optW (rdRow false 1 v20 h_4) fun v21_1 =>
      k_3 v21_1 h_4 H_2 ((14, (ceOf 1 v20)) :: S_2))) h_4 H_2 S_2 fun v21 h_5 H_3 S_3 =>
  gopD (gB v16 true) (fun k_4 =>
    k_4 a0 h_5 H_3 S_3) h_5 H_3 S_3 fun v22 h_6 H_4 S_4 =>
  gopD (gB v16 true) (fun k_5 =>
    optW (pNilCheck v22) fun v23_1 =>
    k_5 v23_1 h_6 H_4 S_4) h_6 H_4 S_4 fun v23 h_7 H_5 S_5 =>
  gopD (gB v16 true) (fun k_6 =>
    optW (pOff 1 v23) fun v24_1 =>
    k_6 v24_1 h_7 H_5 S_5) h_7 H_5 S_5 fun v24 h_8 H_6 S_6 =>
  gopD (gB v16 true) (fun k_7 =>
    histC #[0, 1, 3, 7, 0, 16, 48, 112, 240, 511, 1023, 2047, 4095, 8191, 16383, 2047, 34815, 100351, 231423, 524287, 2047, 2097151, 4194303, 8388607] 18 (ceOf 1 v24) H_6 (
      optW (rdRow false 1 v24 h_8) fun v25_1 =>
      k_7 v25_1 h_8 H_6 ((18, (ceOf 1 v24)) :: S_6))) h_8 H_6 S_6 fun v25 h_9 H_7 S_7 =>
  gopD (gB v16 true) (fun k_8 =>
    optW (pIdxStr v21 v25) fun v26_1 =>
    k_8 v26_1 h_9 H_7 S_7) h_9 H_7 S_7 fun v26 h_10 H_8 S_8 =>
  gopD (gB v16 true) (fun k_9 =>
    k_9 a1 h_10 H_8 S_8) h_10 H_8 S_8 fun v27 h_11 H_9 S_9 =>
  gopD (gB v16 true) (fun k_10 =>
    optW (pBin Try.prog .eql 5 v26 v27) fun v28_1 =>
    k_10 v28_1 h_11 H_9 S_9) h_11 H_9 S_9 fun v28 h_12 H_10 S_10 =>
  optW (pPick v16 v28 (.bool false)) fun v29 =>
  K v29 h_12
theorem e76 (X : CallT) (a0 a1 : Value) (h : AH) (K : Value → AH → Prop) : cwp2 Try.prog X (Try.f76.body.getD .skip) (endW Try.prog Try.f76 K) (envOf [a0, a1]) h = s76 X a0 a1 h K := by kernel_rfl
theorem c76 {a0 a1 : Value} {h : AH} {K : Value → AH → Prop} (hs : s76 (callW Try.prog) a0 a1 h K) : callW Try.prog 76 [a0, a1] h K := callW_of Try.func76 (by kernel_rfl) (Eq.mpr (e76 _ a0 a1 _ _) hs)

end Go.Proofs.Ytlenlhlipmkeeaa.W
end

section
/- Go functions, printed by a program as predicates on what may come behind; each is the function. Conditions: none. -/
namespace Go.Proofs.Ytlenlhlipmkeeaa.W
open Go Go.AM
set_option linter.unusedVariables false
set_option maxRecDepth 100000


/-- slices.Index[[]string,string] (I at e: live [0, 1, 7, 8], writes [4, 5, 8, 9, 10, 11, 12, 13, 14, 15, 16, 17, 18]) -/
def s89 (X : CallT) (a0 a1 : Value) (h : AH) (K : Value → AH → Prop) : Prop :=
  optW (lenSl a0) fun v7 =>
  loopE (fun I e h_1 =>
    optW (pBin Try.prog .lss 3 (e 8) (e 7)) fun v9 =>
    condW v9 (
      optW (pIdxS 1 (e 0) (e 8)) fun v14 =>
      optW (rdRow false 1 v14 h_1) fun v15 =>
      optW (pBin Try.prog .eql 9 (e 1) v15) fun v16 =>
      condW v16 (
        K (e 8) h_1
      ) (
        optW (pBin Try.prog .add 3 (e 8) (.int .i64 1)) fun v18 =>
        I (pt (pt (pt (pt (pt (pt (pt (pt (pt (pt (pt e 9 v9) 10 (e 8)) 5 (e 8)) 11 (e 1)) 12 (e 0)) 13 (e 8)) 14 v14) 15 v15) 16 v16) 18 v18) 8 v18) h_1)
    ) (
      K (.int .i64 (-1)) h_1))
  (pt (pt (pt (pt (envOf [a0, a1]) 4 (.int .i64 0)) 6 a0) 7 v7) 8 (.int .i64 0)) h
theorem e89 (X : CallT) (a0 a1 : Value) (h : AH) (K : Value → AH → Prop) : cwp2 Try.prog X (Try.f89.body.getD .skip) (endW Try.prog Try.f89 K) (envOf [a0, a1]) h = s89 X a0 a1 h K := by kernel_rfl
theorem c89 {a0 a1 : Value} {h : AH} {K : Value → AH → Prop} (hs : s89 (callW Try.prog) a0 a1 h K) : callW Try.prog 89 [a0, a1] h K := callW_of Try.func89 (by kernel_rfl) (Eq.mpr (e89 _ a0 a1 _ _) hs)

/-- (*canopy/schema.parser).rep () -/
def s90 (X : CallT) (a0 : Value) (h : AH) (K : Value → AH → Prop) : Prop :=
  newR none [(.int .i64 0), (.string (bs [])), (.slice none 0 0)] h fun v2 h_1 =>
  X 97 [a0] h_1 fun v5 h_2 =>
  newR none [(.int .i64 0), (.string (bs [])), (.slice none 0 0)] h_2 fun v3 h_3 =>
  optW (pStore 3 v3 v5 h_3) fun h_4 =>
  optW (bld [(.string (bs [])), (.int .u8 0)] [(0, 1), (1, 1)] [(1, (.int .u8 42))]) fun v8 =>
  X 35 [a0, v8] h_4 fun v9 h_5 =>
  condW v9 (
    optW (rdRow true 3 v3 h_5) fun v10 =>
    optW (bldSl 3 [(.int .i64 0), (.string (bs [])), (.slice none 0 0)] 1 [(0, v10)]) fun c =>
    newW none (.row c true) h_5 fun i h_6 =>
    optW (bld [(.int .i64 0), (.string (bs [])), (.slice none 0 0)] [(0, 1), (1, 1), (2, 1)] [(0, (.int .i64 7)), (2, (.slice (some ⟨i, 0, none⟩) 1 1))]) fun v12 =>
    optW (pStore 3 v2 v12 h_6) fun h_7 =>
    optW (resList Try.prog (pt (pt (pt (pt (pt (pt (pt (pt (pt (pt (pt (envOf [a0]) 2 v2) 4 a0) 5 v5) 3 v3) 7 a0) 8 v8) 9 v9) 6 v9) 10 v10) 11 (.slice (some ⟨i, 0, none⟩) 1 1)) 12 v12) h_7 Try.f90.results.toList) fun vs => K (resOf vs) h_7
  ) (
    optW (bld [(.string (bs [])), (.int .u8 0)] [(0, 1), (1, 1)] [(1, (.int .u8 43))]) fun v15 =>
    X 35 [a0, v15] h_5 fun v16 h_8 =>
    condW v16 (
      optW (rdRow true 3 v3 h_8) fun v17 =>
      optW (bldSl 3 [(.int .i64 0), (.string (bs [])), (.slice none 0 0)] 1 [(0, v17)]) fun c_1 =>
      newW none (.row c_1 true) h_8 fun i_1 h_9 =>
      optW (bld [(.int .i64 0), (.string (bs [])), (.slice none 0 0)] [(0, 1), (1, 1), (2, 1)] [(0, (.int .i64 8)), (2, (.slice (some ⟨i_1, 0, none⟩) 1 1))]) fun v19 =>
      optW (pStore 3 v2 v19 h_9) fun h_10 =>
      optW (resList Try.prog (pt (pt (pt (pt (pt (pt (pt (pt (pt (pt (pt (pt (pt (pt (pt (envOf [a0]) 2 v2) 4 a0) 5 v5) 3 v3) 7 a0) 8 v8) 9 v9) 6 v9) 14 a0) 15 v15) 16 v16) 13 v16) 17 v17) 18 (.slice (some ⟨i_1, 0, none⟩) 1 1)) 19 v19) h_10 Try.f90.results.toList) fun vs => K (resOf vs) h_10
    ) (
      optW (bld [(.string (bs [])), (.int .u8 0)] [(0, 1), (1, 1)] [(1, (.int .u8 63))]) fun v22 =>
      X 35 [a0, v22] h_8 fun v23 h_11 =>
      condW v23 (
        optW (rdRow true 3 v3 h_11) fun v24 =>
        optW (bldSl 3 [(.int .i64 0), (.string (bs [])), (.slice none 0 0)] 1 [(0, v24)]) fun c_2 =>
        newW none (.row c_2 true) h_11 fun i_2 h_12 =>
        optW (bld [(.int .i64 0), (.string (bs [])), (.slice none 0 0)] [(0, 1), (1, 1), (2, 1)] [(0, (.int .i64 9)), (2, (.slice (some ⟨i_2, 0, none⟩) 1 1))]) fun v26 =>
        optW (pStore 3 v2 v26 h_12) fun h_13 =>
        optW (resList Try.prog (pt (pt (pt (pt (pt (pt (pt (pt (pt (pt (pt (pt (pt (pt (pt (pt (pt (pt (pt (envOf [a0]) 2 v2) 4 a0) 5 v5) 3 v3) 7 a0) 8 v8) 9 v9) 6 v9) 14 a0) 15 v15) 16 v16) 13 v16) 21 a0) 22 v22) 23 v23) 20 v23) 24 v24) 25 (.slice (some ⟨i_2, 0, none⟩) 1 1)) 26 v26) h_13 Try.f90.results.toList) fun vs => K (resOf vs) h_13
      ) (
        optW (rdRow true 3 v3 h_11) fun v27 =>
        optW (pStore 3 v2 v27 h_11) fun h_14 =>
        optW (resList Try.prog (pt (pt (pt (pt (pt (pt (pt (pt (pt (pt (pt (pt (pt (pt (pt (pt (pt (envOf [a0]) 2 v2) 4 a0) 5 v5) 3 v3) 7 a0) 8 v8) 9 v9) 6 v9) 14 a0) 15 v15) 16 v16) 13 v16) 21 a0) 22 v22) 23 v23) 20 v23) 27 v27) h_14 Try.f90.results.toList) fun vs => K (resOf vs) h_14)))
theorem e90 (X : CallT) (a0 : Value) (h : AH) (K : Value → AH → Prop) : cwp2 Try.prog X (Try.f90.body.getD .skip) (endW Try.prog Try.f90 K) (envOf [a0]) h = s90 X a0 h K := by kernel_rfl
theorem c90 {a0 : Value} {h : AH} {K : Value → AH → Prop} (hs : s90 (callW Try.prog) a0 h K) : callW Try.prog 90 [a0] h K := callW_of Try.func90 (by kernel_rfl) (Eq.mpr (e90 _ a0 _ _) hs)

/-- slices.Clip[[]canopy/api.Model,canopy/api.Model] () -/
def s91 (X : CallT) (a0 : Value) (h : AH) (K : Value → AH → Prop) : Prop :=
  optW (lenSl a0) fun v5 =>
  optW (lenSl a0) fun v7 =>
  optW (pSliceSl 3 a0 none (some v5) (some v7)) fun v8 =>
  K v8 h
theorem e91 (X : CallT) (a0 : Value) (h : AH) (K : Value → AH → Prop) : cwp2 Try.prog X (Try.f91.body.getD .skip) (endW Try.prog Try.f91 K) (envOf [a0]) h = s91 X a0 h K := by kernel_rfl
theorem c91 {a0 : Value} {h : AH} {K : Value → AH → Prop} (hs : s91 (callW Try.prog) a0 h K) : callW Try.prog 91 [a0] h K := callW_of Try.func91 (by kernel_rfl) (Eq.mpr (e91 _ a0 _ _) hs)

/-- (*canopy/canopyref8.reader).rep () -/
def s92 (X : CallT) (a0 : Value) (h : AH) (K : Value → AH → Prop) : Prop :=
  newR none [(.int .i64 0), (.string (bs [])), (.slice none 0 0)] h fun v2 h_1 =>
  X 98 [a0] h_1 fun v6 h_2 =>
  newR none [(.int .i64 0), (.string (bs [])), (.slice none 0 0)] h_2 fun v3 h_3 =>
  optW (pStore 3 v3 v6 h_3) fun h_4 =>
  optW (pNilCheck a0) fun v10 =>
  optW (pOff 2 v10) fun v11 =>
  optW (rdRow false 1 v11 h_4) fun v12 =>
  optW (pBin Try.prog .neq 3 v12 (.int .i64 0)) fun v13 =>
  condW v13 (
    optW (rdRow true 3 v3 h_4) fun v14 =>
    optW (pStore 3 v2 v14 h_4) fun h_5 =>
    optW (resList Try.prog (pt (pt (pt (pt (pt (pt (pt (pt (pt (pt (pt (pt (envOf [a0]) 2 v2) 5 a0) 6 v6) 3 v3) 4 (.int .i64 0)) 9 a0) 10 v10) 11 v11) 12 v12) 13 v13) 8 v13) 14 v14) h_5 Try.f92.results.toList) fun vs => K (resOf vs) h_5
  ) (
    X 76 [a0, (.int .u8 42)] h_4 fun v17 h_6 =>
    condW v17 (
      optW (pNilCheck a0) fun v25 =>
      optW (pOff 1 v25) fun v26 =>
      optW (rdRow false 1 v26 h_6) fun v27 =>
      optW (pBin Try.prog .add 3 v27 (.int .i64 1)) fun v28 =>
      optW (pNilCheck a0) fun v29 =>
      optW (pOff 1 v29) fun v30 =>
      optW (pStore 1 v30 v28 h_6) fun h_7 =>
      optW (rdRow true 3 v3 h_7) fun v32 =>
      optW (bldSl 3 [(.int .i64 0), (.string (bs [])), (.slice none 0 0)] 1 [(0, v32)]) fun c =>
      newW none (.row c true) h_7 fun i h_8 =>
      optW (bld [(.int .i64 0), (.string (bs [])), (.slice none 0 0)] [(0, 1), (1, 1), (2, 1)] [(0, (.int .i64 7)), (2, (.slice (some ⟨i, 0, none⟩) 1 1))]) fun v34 =>
      optW (pStore 3 v2 v34 h_8) fun h_9 =>
      optW (resList Try.prog (pt (pt (pt (pt (pt (pt (pt (pt (pt (pt (pt (pt (pt (pt (pt (pt (pt (pt (pt (pt (pt (pt (pt (pt (pt (pt (envOf [a0]) 2 v2) 5 a0) 6 v6) 3 v3) 4 (.int .i64 0)) 9 a0) 10 v10) 11 v11) 12 v12) 13 v13) 8 v13) 16 a0) 17 v17) 15 v17) 4 (.int .i64 7)) 24 a0) 25 v25) 26 v26) 27 v27) 28 v28) 29 v29) 30 v30) 31 (.int .i64 7)) 32 v32) 33 (.slice (some ⟨i, 0, none⟩) 1 1)) 34 v34) h_9 Try.f92.results.toList) fun vs => K (resOf vs) h_9
    ) (
      X 76 [a0, (.int .u8 43)] h_6 fun v20 h_10 =>
      condW v20 (
        optW (pNilCheck a0) fun v25_1 =>
        optW (pOff 1 v25_1) fun v26_1 =>
        optW (rdRow false 1 v26_1 h_10) fun v27_1 =>
        optW (pBin Try.prog .add 3 v27_1 (.int .i64 1)) fun v28_1 =>
        optW (pNilCheck a0) fun v29_1 =>
        optW (pOff 1 v29_1) fun v30_1 =>
        optW (pStore 1 v30_1 v28_1 h_10) fun h_11 =>
        optW (rdRow true 3 v3 h_11) fun v32_1 =>
        optW (bldSl 3 [(.int .i64 0), (.string (bs [])), (.slice none 0 0)] 1 [(0, v32_1)]) fun c_1 =>
        newW none (.row c_1 true) h_11 fun i_1 h_12 =>
        optW (bld [(.int .i64 0), (.string (bs [])), (.slice none 0 0)] [(0, 1), (1, 1), (2, 1)] [(0, (.int .i64 8)), (2, (.slice (some ⟨i_1, 0, none⟩) 1 1))]) fun v34_1 =>
        optW (pStore 3 v2 v34_1 h_12) fun h_13 =>
        optW (resList Try.prog (pt (pt (pt (pt (pt (pt (pt (pt (pt (pt (pt (pt (pt (pt (pt (pt (pt (pt (pt (pt (pt (pt (pt (pt (pt (pt (pt (pt (pt (envOf [a0]) 2 v2) 5 a0) 6 v6) 3 v3) 4 (.int .i64 0)) 9 a0) 10 v10) 11 v11) 12 v12) 13 v13) 8 v13) 16 a0) 17 v17) 15 v17) 19 a0) 20 v20) 18 v20) 4 (.int .i64 8)) 24 a0) 25 v25_1) 26 v26_1) 27 v27_1) 28 v28_1) 29 v29_1) 30 v30_1) 31 (.int .i64 8)) 32 v32_1) 33 (.slice (some ⟨i_1, 0, none⟩) 1 1)) 34 v34_1) h_13 Try.f92.results.toList) fun vs => K (resOf vs) h_13
      ) (
        X 76 [a0, (.int .u8 63)] h_10 fun v23 h_14 =>
        condW v23 (
          optW (pNilCheck a0) fun v25_2 =>
          optW (pOff 1 v25_2) fun v26_2 =>
          optW (rdRow false 1 v26_2 h_14) fun v27_2 =>
          optW (pBin Try.prog .add 3 v27_2 (.int .i64 1)) fun v28_2 =>
          optW (pNilCheck a0) fun v29_2 =>
          optW (pOff 1 v29_2) fun v30_2 =>
          optW (pStore 1 v30_2 v28_2 h_14) fun h_15 =>
          optW (rdRow true 3 v3 h_15) fun v32_2 =>
          optW (bldSl 3 [(.int .i64 0), (.string (bs [])), (.slice none 0 0)] 1 [(0, v32_2)]) fun c_2 =>
          newW none (.row c_2 true) h_15 fun i_2 h_16 =>
          optW (bld [(.int .i64 0), (.string (bs [])), (.slice none 0 0)] [(0, 1), (1, 1), (2, 1)] [(0, (.int .i64 9)), (2, (.slice (some ⟨i_2, 0, none⟩) 1 1))]) fun v34_2 =>
          optW (pStore 3 v2 v34_2 h_16) fun h_17 =>
          optW (resList Try.prog (pt (pt (pt (pt (pt (pt (pt (pt (pt (pt (pt (pt (pt (pt (pt (pt (pt (pt (pt (pt (pt (pt (pt (pt (pt (pt (pt (pt (pt (pt (pt (pt (envOf [a0]) 2 v2) 5 a0) 6 v6) 3 v3) 4 (.int .i64 0)) 9 a0) 10 v10) 11 v11) 12 v12) 13 v13) 8 v13) 16 a0) 17 v17) 15 v17) 19 a0) 20 v20) 18 v20) 22 a0) 23 v23) 21 v23) 4 (.int .i64 9)) 24 a0) 25 v25_2) 26 v26_2) 27 v27_2) 28 v28_2) 29 v29_2) 30 v30_2) 31 (.int .i64 9)) 32 v32_2) 33 (.slice (some ⟨i_2, 0, none⟩) 1 1)) 34 v34_2) h_17 Try.f92.results.toList) fun vs => K (resOf vs) h_17
        ) (
          optW (rdRow true 3 v3 h_14) fun v7 =>
          optW (pStore 3 v2 v7 h_14) fun h_18 =>
          optW (resList Try.prog (pt (pt (pt (pt (pt (pt (pt (pt (pt (pt (pt (pt (pt (pt (pt (pt (pt (pt (pt (pt (pt (envOf [a0]) 2 v2) 5 a0) 6 v6) 3 v3) 4 (.int .i64 0)) 9 a0) 10 v10) 11 v11) 12 v12) 13 v13) 8 v13) 16 a0) 17 v17) 15 v17) 19 a0) 20 v20) 18 v20) 22 a0) 23 v23) 21 v23) 7 v7) h_18 Try.f92.results.toList) fun vs => K (resOf vs) h_18))))
theorem e92 (X : CallT) (a0 : Value) (h : AH) (K : Value → AH → Prop) : cwp2 Try.prog X (Try.f92.body.getD .skip) (endW Try.prog Try.f92 K) (envOf [a0]) h = s92 X a0 h K := by kernel_rfl
theorem c92 {a0 : Value} {h : AH} {K : Value → AH → Prop} (hs : s92 (callW Try.prog) a0 h K) : callW Try.prog 92 [a0] h K := callW_of Try.func92 (by kernel_rfl) (Eq.mpr (e92 _ a0 _ _) hs)

end Go.Proofs.Ytlenlhlipmkeeaa.W
end

section
/- Go functions, printed by a program as predicates on what may come behind; each is the function. Conditions: none. -/
namespace Go.Proofs.Ytlenlhlipmkeeaa.W
open Go Go.AM
set_option linter.unusedVariables false
set_option maxRecDepth 100000


/-- (*canopy/schema.parser).atom () -/
def s97 (X : CallT) (a0 : Value) (h : AH) (K : Value → AH → Prop) : Prop :=
  newR none [(.int .i64 0), (.string (bs [])), (.slice none 0 0)] h fun v2 h_1 =>
  optW (bld [(.string (bs [])), (.int .u8 0)] [(0, 1), (1, 1)] [(0, (.string (bs [101, 109, 112, 116, 121])))]) fun v7 =>
  X 35 [a0, v7] h_1 fun v8 h_2 =>
  condW v8 (
    optW (bld [(.int .i64 0), (.string (bs [])), (.slice none 0 0)] [(0, 1), (1, 1), (2, 1)] [(0, (.int .i64 1))]) fun v9 =>
    optW (pStore 3 v2 v9 h_2) fun h_3 =>
    optW (resList Try.prog (pt (pt (pt (pt (pt (pt (envOf [a0]) 2 v2) 6 a0) 7 v7) 8 v8) 5 v8) 9 v9) h_3 Try.f97.results.toList) fun vs => K (resOf vs) h_3
  ) (
    optW (bld [(.string (bs [])), (.int .u8 0)] [(0, 1), (1, 1)] [(0, (.string (bs [97, 110, 121])))]) fun v12 =>
    X 35 [a0, v12] h_2 fun v13 h_4 =>
    condW v13 (
      optW (bld [(.int .i64 0), (.string (bs [])), (.slice none 0 0)] [(0, 1), (1, 1), (2, 1)] [(0, (.int .i64 2))]) fun v14 =>
      optW (pStore 3 v2 v14 h_4) fun h_5 =>
      optW (resList Try.prog (pt (pt (pt (pt (pt (pt (pt (pt (pt (pt (envOf [a0]) 2 v2) 6 a0) 7 v7) 8 v8) 5 v8) 11 a0) 12 v12) 13 v13) 10 v13) 14 v14) h_5 Try.f97.results.toList) fun vs => K (resOf vs) h_5
    ) (
      optW (bld [(.string (bs [])), (.int .u8 0)] [(0, 1), (1, 1)] [(0, (.string (bs [116, 101, 120, 116])))]) fun v17 =>
      X 35 [a0, v17] h_4 fun v18 h_6 =>
      condW v18 (
        optW (bld [(.int .i64 0), (.string (bs [])), (.slice none 0 0)] [(0, 1), (1, 1), (2, 1)] [(0, (.int .i64 3))]) fun v19 =>
        optW (pStore 3 v2 v19 h_6) fun h_7 =>
        optW (resList Try.prog (pt (pt (pt (pt (pt (pt (pt (pt (pt (pt (pt (pt (pt (pt (envOf [a0]) 2 v2) 6 a0) 7 v7) 8 v8) 5 v8) 11 a0) 12 v12) 13 v13) 10 v13) 16 a0) 17 v17) 18 v18) 15 v18) 19 v19) h_7 Try.f97.results.toList) fun vs => K (resOf vs) h_7
      ) (
        optW (pNilCheck a0) fun v22 =>
        optW (pOff 3 v22) fun v23 =>
        optW (rdRow true 2 v23 h_6) fun v24 =>
        optW (bld [(.string (bs [])), (.int .u8 0)] [(0, 1), (1, 1)] [(1, (.int .u8 40))]) fun v25 =>
        optW (pBin Try.prog .eql 71 v24 v25) fun v26 =>
        condW v26 (
          optW (pNilCheck a0) fun v28 =>
          optW (pOff 5 v28) fun v29 =>
          optW (rdRow false 1 v29 h_6) fun v30 =>
          optW (pBin Try.prog .geq 3 v30 (.int .i64 20)) fun v31 =>
          condW v31 (
            X 37 [a0, (.int .i64 3)] h_6 fun v33 h_8 =>
            optW (bld [(.int .i64 0), (.string (bs [])), (.slice none 0 0)] [(0, 1), (1, 1), (2, 1)] []) fun v34 =>
            optW (pStore 3 v2 v34 h_8) fun h_9 =>
            optW (resList Try.prog (pt (pt (pt (pt (pt (pt (pt (pt (pt (pt (pt (pt (pt (pt (pt (pt (pt (pt (pt (pt (pt (pt (pt (pt (pt (pt (pt (pt (envOf [a0]) 2 v2) 6 a0) 7 v7) 8 v8) 5 v8) 11 a0) 12 v12) 13 v13) 10 v13) 16 a0) 17 v17) 18 v18) 15 v18) 21 a0) 22 v22) 23 v23) 24 v24) 25 v25) 26 v26) 20 v26) 27 a0) 28 v28) 29 v29) 30 v30) 31 v31) 32 a0) 33 v33) 34 v34) h_9 Try.f97.results.toList) fun vs => K (resOf vs) h_9
          ) (
            X 32 [a0] h_6 fun v36 h_10 =>
            optW (pNilCheck a0) fun v38 =>
            optW (pOff 5 v38) fun v39 =>
            optW (rdRow false 1 v39 h_10) fun v40 =>
            optW (pBin Try.prog .add 3 v40 (.int .i64 1)) fun v41 =>
            optW (pNilCheck a0) fun v42 =>
            optW (pOff 5 v42) fun v43 =>
            optW (pStore 1 v43 v41 h_10) fun h_11 =>
            X 58 [a0] h_11 fun v45 h_12 =>
            newR none [(.int .i64 0), (.string (bs [])), (.slice none 0 0)] h_12 fun v3 h_13 =>
            optW (pStore 3 v3 v45 h_13) fun h_14 =>
            optW (pNilCheck a0) fun v47 =>
            optW (pOff 5 v47) fun v48 =>
            optW (rdRow false 1 v48 h_14) fun v49 =>
            optW (pBin Try.prog .sub 3 v49 (.int .i64 1)) fun v50 =>
            optW (pNilCheck a0) fun v51 =>
            optW (pOff 5 v51) fun v52 =>
            optW (pStore 1 v52 v50 h_14) fun h_15 =>
            optW (bld [(.string (bs [])), (.int .u8 0)] [(0, 1), (1, 1)] [(1, (.int .u8 41))]) fun v54 =>
            X 33 [a0, v54] h_15 fun v55 h_16 =>
            optW (rdRow true 3 v3 h_16) fun v56 =>
            optW (pStore 3 v2 v56 h_16) fun h_17 =>
            optW (resList Try.prog (pt (pt (pt (pt (pt (pt (pt (pt (pt (pt (pt (pt (pt (pt (pt (pt (pt (pt (pt (pt (pt (pt (pt (pt (pt (pt (pt (pt (pt (pt (pt (pt (pt (pt (pt (pt (pt (pt (pt (pt (pt (pt (pt (pt (pt (pt (pt (pt (envOf [a0]) 2 v2) 6 a0) 7 v7) 8 v8) 5 v8) 11 a0) 12 v12) 13 v13) 10 v13) 16 a0) 17 v17) 18 v18) 15 v18) 21 a0) 22 v22) 23 v23) 24 v24) 25 v25) 26 v26) 20 v26) 27 a0) 28 v28) 29 v29) 30 v30) 31 v31) 35 a0) 36 v36) 37 a0) 38 v38) 39 v39) 40 v40) 41 v41) 42 v42) 43 v43) 44 a0) 45 v45) 3 v3) 46 a0) 47 v47) 48 v48) 49 v49) 50 v50) 51 v51) 52 v52) 53 a0) 54 v54) 55 v55) 56 v56) h_17 Try.f97.results.toList) fun vs => K (resOf vs) h_17)
        ) (
          X 34 [a0] h_6 fun v58 h_18 =>
          optW (pNilCheck a0) fun v60 =>
          optW (pOff 6 v60) fun v61 =>
          optW (rdRow false 1 v61 h_18) fun v62 =>
          optW (pBin Try.prog .eql 32 v62 (.int .i64 0)) fun v63 =>
          condW v63 (
            optW (pNilCheck a0) fun v66 =>
            optW (pOff 8 v66) fun v67 =>
            optW (rdRow false 1 v67 h_18) fun v68 =>
            optW (bldSl 1 [(.string (bs []))] 1 [(0, v58)]) fun c =>
            newW none (.row c true) h_18 fun i h_19 =>
            appSl 1 v68 (.slice (some ⟨i, 0, none⟩) 1 1) h_19 fun v71 h_20 =>
            optW (pNilCheck a0) fun v72 =>
            optW (pOff 8 v72) fun v73 =>
            optW (pStore 1 v73 v71 h_20) fun h_21 =>
            X 32 [a0] h_21 fun v75 h_22 =>
            optW (bld [(.int .i64 0), (.string (bs [])), (.slice none 0 0)] [(0, 1), (1, 1), (2, 1)] [(0, (.int .i64 4)), (1, v58)]) fun v77 =>
            optW (pStore 3 v2 v77 h_22) fun h_23 =>
            optW (resList Try.prog (pt (pt (pt (pt (pt (pt (pt (pt (pt (pt (pt (pt (pt (pt (pt (pt (pt (pt (pt (pt (pt (pt (pt (pt (pt (pt (pt (pt (pt (pt (pt (pt (pt (pt (pt (pt (pt (pt (pt (pt (pt (pt (envOf [a0]) 2 v2) 6 a0) 7 v7) 8 v8) 5 v8) 11 a0) 12 v12) 13 v13) 10 v13) 16 a0) 17 v17) 18 v18) 15 v18) 21 a0) 22 v22) 23 v23) 24 v24) 25 v25) 26 v26) 20 v26) 57 a0) 58 v58) 4 v58) 59 a0) 60 v60) 61 v61) 62 v62) 63 v63) 64 a0) 65 a0) 66 v66) 67 v67) 68 v68) 69 v58) 70 (.slice (some ⟨i, 0, none⟩) 1 1)) 71 v71) 72 v72) 73 v73) 74 a0) 75 v75) 76 v58) 77 v77) h_23 Try.f97.results.toList) fun vs => K (resOf vs) h_23
          ) (
            optW (bld [(.int .i64 0), (.string (bs [])), (.slice none 0 0)] [(0, 1), (1, 1), (2, 1)] [(0, (.int .i64 4)), (1, v58)]) fun v77_1 =>
            optW (pStore 3 v2 v77_1 h_18) fun h_24 =>
            optW (resList Try.prog (pt (pt (pt (pt (pt (pt (pt (pt (pt (pt (pt (pt (pt (pt (pt (pt (pt (pt (pt (pt (pt (pt (pt (pt (pt (pt (pt (pt (pt (pt (envOf [a0]) 2 v2) 6 a0) 7 v7) 8 v8) 5 v8) 11 a0) 12 v12) 13 v13) 10 v13) 16 a0) 17 v17) 18 v18) 15 v18) 21 a0) 22 v22) 23 v23) 24 v24) 25 v25) 26 v26) 20 v26) 57 a0) 58 v58) 4 v58) 59 a0) 60 v60) 61 v61) 62 v62) 63 v63) 76 v58) 77 v77_1) h_24 Try.f97.results.toList) fun vs => K (resOf vs) h_24)))))
theorem e97 (X : CallT) (a0 : Value) (h : AH) (K : Value → AH → Prop) : cwp2 Try.prog X (Try.f97.body.getD .skip) (endW Try.prog Try.f97 K) (envOf [a0]) h = s97 X a0 h K := by kernel_rfl
theorem c97 {a0 : Value} {h : AH} {K : Value → AH → Prop} (hs : s97 (callW Try.prog) a0 h K) : callW Try.prog 97 [a0] h K := callW_of Try.func97 (by kernel_rfl) (Eq.mpr (e97 _ a0 _ _) hs)

/-- (*canopy/canopyref8.reader).atom (J at e: live [0, 2, 3, 4]) -/
def s98 (X : CallT) (a0 : Value) (h : AH) (K : Value → AH → Prop) : Prop :=
  newR none [(.int .i64 0), (.string (bs [])), (.slice none 0 0)] h fun v2 h_1 =>
  X 61 [a0] h_1 fun v7 h_2 =>
  joinE (fun J =>
    optW (pBin Try.prog .eql 9 v7 (.string (bs [101, 109, 112, 116, 121]))) fun v10 =>
    condW v10 (
      J (pt (pt (pt (pt (pt (pt (pt (pt (pt (envOf [a0]) 2 v2) 6 a0) 7 v7) 3 v7) 4 (.int .i64 0)) 8 v7) 10 v10) 9 v10) 4 (.int .i64 1)) h_2
    ) (
      optW (pBin Try.prog .eql 9 v7 (.string (bs [97, 110, 121]))) fun v12 =>
      condW v12 (
        J (pt (pt (pt (pt (pt (pt (pt (pt (pt (pt (pt (envOf [a0]) 2 v2) 6 a0) 7 v7) 3 v7) 4 (.int .i64 0)) 8 v7) 10 v10) 9 v10) 12 v12) 11 v12) 4 (.int .i64 2)) h_2
      ) (
        optW (pBin Try.prog .eql 9 v7 (.string (bs [116, 101, 120, 116]))) fun v14 =>
        condW v14 (
          J (pt (pt (pt (pt (pt (pt (pt (pt (pt (pt (pt (pt (pt (envOf [a0]) 2 v2) 6 a0) 7 v7) 3 v7) 4 (.int .i64 0)) 8 v7) 10 v10) 9 v10) 12 v12) 11 v12) 14 v14) 13 v14) 4 (.int .i64 3)) h_2
        ) (
          J (pt (pt (pt (pt (pt (pt (pt (pt (pt (pt (pt (pt (envOf [a0]) 2 v2) 6 a0) 7 v7) 3 v7) 4 (.int .i64 0)) 8 v7) 10 v10) 9 v10) 12 v12) 11 v12) 14 v14) 13 v14) h_2))))
  (fun e h_3 =>
    optW (pBin Try.prog .gtr 3 (e 4) (.int .i64 0)) fun v16 =>
    condW v16 (
      optW (pNilCheck (e 0)) fun v19 =>
      optW (pOff 1 v19) fun v20 =>
      optW (rdRow false 1 v20 h_3) fun v21 =>
      optW (lenStr (e 3)) fun v23 =>
      optW (pBin Try.prog .add 3 v21 v23) fun v24 =>
      optW (pNilCheck (e 0)) fun v25 =>
      optW (pOff 1 v25) fun v26 =>
      optW (pStore 1 v26 v24 h_3) fun h_4 =>
      optW (bld [(.int .i64 0), (.string (bs [])), (.slice none 0 0)] [(0, 1), (1, 1), (2, 1)] [(0, (e 4))]) fun v28 =>
      optW (pStore 3 (e 2) v28 h_4) fun h_5 =>
      optW (resList Try.prog (pt (pt (pt (pt (pt (pt (pt (pt (pt (pt (pt (pt (pt (pt e 15 (e 4)) 16 v16) 17 (e 0)) 18 (e 0)) 19 v19) 20 v20) 21 v21) 22 (e 3)) 23 v23) 24 v24) 25 v25) 26 v26) 27 (e 4)) 28 v28) h_5 Try.f98.results.toList) fun vs => K (resOf vs) h_5
    ) (
      X 76 [(e 0), (.int .u8 40)] h_3 fun v30 h_6 =>
      optW (pUn .not v30) fun v31 =>
      condW v31 (
        X 41 [(e 0)] h_6 fun v33 h_7 =>
        optW (bld [(.int .i64 0), (.string (bs [])), (.slice none 0 0)] [(0, 1), (1, 1), (2, 1)] [(0, (.int .i64 4)), (1, v33)]) fun v34 =>
        optW (pStore 3 (e 2) v34 h_7) fun h_8 =>
        optW (resList Try.prog (pt (pt (pt (pt (pt (pt (pt (pt e 15 (e 4)) 16 v16) 29 (e 0)) 30 v30) 31 v31) 32 (e 0)) 33 v33) 34 v34) h_8 Try.f98.results.toList) fun vs => K (resOf vs) h_8
      ) (
        optW (pNilCheck (e 0)) fun v36 =>
        optW (pOff 4 v36) fun v37 =>
        optW (rdRow false 1 v37 h_6) fun v38 =>
        optW (pBin Try.prog .geq 3 v38 (.int .i64 20)) fun v39 =>
        condW v39 (
          optW (pNilCheck (e 0)) fun v42 =>
          optW (pOff 1 v42) fun v43 =>
          optW (rdRow false 1 v43 h_6) fun v44 =>
          X 62 [(e 0), (.int .i64 3), v44] h_6 fun v45 h_9 =>
          optW (pStore 3 (e 2) v45 h_9) fun h_10 =>
          optW (resList Try.prog (pt (pt (pt (pt (pt (pt (pt (pt (pt (pt (pt (pt (pt (pt (pt (pt e 15 (e 4)) 16 v16) 29 (e 0)) 30 v30) 31 v31) 35 (e 0)) 36 v36) 37 v37) 38 v38) 39 v39) 40 (e 0)) 41 (e 0)) 42 v42) 43 v43) 44 v44) 45 v45) h_10 Try.f98.results.toList) fun vs => K (resOf vs) h_10
        ) (
          optW (pNilCheck (e 0)) fun v47 =>
          optW (pOff 4 v47) fun v48 =>
          optW (rdRow false 1 v48 h_6) fun v49 =>
          optW (pBin Try.prog .add 3 v49 (.int .i64 1)) fun v50 =>
          optW (pNilCheck (e 0)) fun v51 =>
          optW (pOff 4 v51) fun v52 =>
          optW (pStore 1 v52 v50 h_6) fun h_11 =>
          optW (pNilCheck (e 0)) fun v54 =>
          optW (pOff 1 v54) fun v55 =>
          optW (rdRow false 1 v55 h_11) fun v56 =>
          optW (pBin Try.prog .add 3 v56 (.int .i64 1)) fun v57 =>
          optW (pNilCheck (e 0)) fun v58 =>
          optW (pOff 1 v58) fun v59 =>
          optW (pStore 1 v59 v57 h_11) fun h_12 =>
          X 64 [(e 0)] h_12 fun v61 h_13 =>
          newR none [(.int .i64 0), (.string (bs [])), (.slice none 0 0)] h_13 fun v5 h_14 =>
          optW (pStore 3 v5 v61 h_14) fun h_15 =>
          optW (pNilCheck (e 0)) fun v63 =>
          optW (pOff 2 v63) fun v64 =>
          optW (rdRow false 1 v64 h_15) fun v65 =>
          optW (pBin Try.prog .eql 3 v65 (.int .i64 0)) fun v66 =>
          condW v66 (
            X 40 [(e 0), (.string (bs [41]))] h_15 fun v68 h_16 =>
            optW (pNilCheck (e 0)) fun v70 =>
            optW (pOff 4 v70) fun v71 =>
            optW (rdRow false 1 v71 h_16) fun v72 =>
            optW (pBin Try.prog .sub 3 v72 (.int .i64 1)) fun v73 =>
            optW (pNilCheck (e 0)) fun v74 =>
            optW (pOff 4 v74) fun v75 =>
            optW (pStore 1 v75 v73 h_16) fun h_17 =>
            optW (rdRow true 3 v5 h_17) fun v76 =>
            optW (pStore 3 (e 2) v76 h_17) fun h_18 =>
            optW (resList Try.prog (pt (pt (pt (pt (pt (pt (pt (pt (pt (pt (pt (pt (pt (pt (pt (pt (pt (pt (pt (pt (pt (pt (pt (pt (pt (pt (pt (pt (pt (pt (pt (pt (pt (pt (pt (pt (pt (pt (pt (pt (pt (pt e 15 (e 4)) 16 v16) 29 (e 0)) 30 v30) 31 v31) 35 (e 0)) 36 v36) 37 v37) 38 v38) 39 v39) 46 (e 0)) 47 v47) 48 v48) 49 v49) 50 v50) 51 v51) 52 v52) 53 (e 0)) 54 v54) 55 v55) 56 v56) 57 v57) 58 v58) 59 v59) 60 (e 0)) 61 v61) 5 v5) 62 (e 0)) 63 v63) 64 v64) 65 v65) 66 v66) 67 (e 0)) 68 v68) 69 (e 0)) 70 v70) 71 v71) 72 v72) 73 v73) 74 v74) 75 v75) 76 v76) h_18 Try.f98.results.toList) fun vs => K (resOf vs) h_18
          ) (
            optW (pNilCheck (e 0)) fun v70_1 =>
            optW (pOff 4 v70_1) fun v71_1 =>
            optW (rdRow false 1 v71_1 h_15) fun v72_1 =>
            optW (pBin Try.prog .sub 3 v72_1 (.int .i64 1)) fun v73_1 =>
            optW (pNilCheck (e 0)) fun v74_1 =>
            optW (pOff 4 v74_1) fun v75_1 =>
            optW (pStore 1 v75_1 v73_1 h_15) fun h_19 =>
            optW (rdRow true 3 v5 h_19) fun v76_1 =>
            optW (pStore 3 (e 2) v76_1 h_19) fun h_20 =>
            optW (resList Try.prog (pt (pt (pt (pt (pt (pt (pt (pt (pt (pt (pt (pt (pt (pt (pt (pt (pt (pt (pt (pt (pt (pt (pt (pt (pt (pt (pt (pt (pt (pt (pt (pt (pt (pt (pt (pt (pt (pt (pt (pt e 15 (e 4)) 16 v16) 29 (e 0)) 30 v30) 31 v31) 35 (e 0)) 36 v36) 37 v37) 38 v38) 39 v39) 46 (e 0)) 47 v47) 48 v48) 49 v49) 50 v50) 51 v51) 52 v52) 53 (e 0)) 54 v54) 55 v55) 56 v56) 57 v57) 58 v58) 59 v59) 60 (e 0)) 61 v61) 5 v5) 62 (e 0)) 63 v63) 64 v64) 65 v65) 66 v66) 69 (e 0)) 70 v70_1) 71 v71_1) 72 v72_1) 73 v73_1) 74 v74_1) 75 v75_1) 76 v76_1) h_20 Try.f98.results.toList) fun vs => K (resOf vs) h_20)))))
theorem e98 (X : CallT) (a0 : Value) (h : AH) (K : Value → AH → Prop) : cwp2 Try.prog X (Try.f98.body.getD .skip) (endW Try.prog Try.f98 K) (envOf [a0]) h = s98 X a0 h K := by kernel_rfl
theorem c98 {a0 : Value} {h : AH} {K : Value → AH → Prop} (hs : s98 (callW Try.prog) a0 h K) : callW Try.prog 98 [a0] h K := callW_of Try.func98 (by kernel_rfl) (Eq.mpr (e98 _ a0 _ _) hs)

end Go.Proofs.Ytlenlhlipmkeeaa.W
end

section
/- Go functions, printed by a program as predicates on what may come behind; each is the function. Conditions: none. -/
namespace Go.Proofs.Ytlenlhlipmkeeaa.W
open Go Go.AM
set_option linter.unusedVariables false
set_option maxRecDepth 100000


/-- canopy/canopyref8.Find (I at e: live [1, 2, 5], writes [4, 5, 6, 7, 8, 9, 10, 11, 12, 13, 14, 15, 16, 17, 18, 19, 20, 21]) -/
def s44 (X : CallT) (a0 a1 : Value) (h : AH) (K : Value → AH → Prop) : Prop :=
  aBox a0 none h fun v2 h_1 =>
  loopE (fun I e h_2 =>
    optW (pOff 1 (e 2)) fun v7 =>
    optW (rdRow false 1 v7 h_2) fun v8 =>
    optW (lenSl v8) fun v9 =>
    optW (pBin Try.prog .lss 3 (e 5) v9) fun v10 =>
    condW v10 (
      optW (pOff 1 (e 2)) fun v13 =>
      optW (rdRow false 1 v13 h_2) fun v14 =>
      optW (pIdxS 4 v14 (e 5)) fun v16 =>
      optW (pOff 0 v16) fun v17 =>
      optW (rdRow false 1 v17 h_2) fun v18 =>
      optW (pBin Try.prog .eql 9 v18 (e 1)) fun v20 =>
      condW v20 (
        K (e 5) h_2
      ) (
        optW (pBin Try.prog .add 3 (e 5) (.int .i64 1)) fun v12 =>
        I (pt (pt (pt (pt (pt (pt (pt (pt (pt (pt (pt (pt (pt (pt (pt (pt e 6 (e 5)) 7 v7) 8 v8) 9 v9) 10 v10) 13 v13) 14 v14) 15 (e 5)) 16 v16) 17 v17) 18 v18) 19 (e 1)) 20 v20) 11 (e 5)) 12 v12) 5 v12) h_2)
    ) (
      K (.int .i64 (-1)) h_2))
  (pt (pt (pt (envOf [a0, a1]) 2 v2) 4 (.int .i64 0)) 5 (.int .i64 0)) h_1
theorem e44 (X : CallT) (a0 a1 : Value) (h : AH) (K : Value → AH → Prop) : cwp2 Try.prog X (Try.f44.body.getD .skip) (endW Try.prog Try.f44 K) (envOf [a0, a1]) h = s44 X a0 a1 h K := by kernel_rfl
theorem c44 {a0 a1 : Value} {h : AH} {K : Value → AH → Prop} (hs : s44 (callW Try.prog) a0 a1 h K) : callW Try.prog 44 [a0, a1] h K := callW_of Try.func44 (by kernel_rfl) (Eq.mpr (e44 _ a0 a1 _ _) hs)

/-- canopy/canopyref8.named (I at e: live [2, 3, 5], writes [4, 5, 16, 17, 18, 19, 20, 21, 22, 23, 24, 25, 26, 27, 28, 29, 30]) -/
def s45 (X : CallT) (a0 a1 : Value) (h : AH) (K : Value → AH → Prop) : Prop :=
  aBox a0 none h fun v2 h_1 =>
  aBox a1 none h_1 fun v3 h_2 =>
  optW (pOff 0 v3) fun v6 =>
  optW (rdRow false 1 v6 h_2) fun v7 =>
  optW (pBin Try.prog .eql 3 v7 (.int .i64 4)) fun v8 =>
  gopW (gB v8 true) (fun k =>
    optW (rdRow true 2 v2 h_2) fun v10_1 =>
    k v10_1 h_2) h_2 fun v10 h_3 =>
  gopW (gB v8 true) (fun k_1 =>
    optW (pOff 1 v3) fun v11_1 =>
    k_1 v11_1 h_3) h_3 fun v11 h_4 =>
  gopW (gB v8 true) (fun k_2 =>
    optW (rdRow false 1 v11 h_4) fun v12_1 =>
    k_2 v12_1 h_4) h_4 fun v12 h_5 =>
  gopW (gB v8 true) (fun k_3 =>
    X 44 [v10, v12] h_5 fun v13_1 h_7 =>
    k_3 v13_1 h_7) h_5 fun v13 h_6 =>
  gopW (gB v8 true) (fun k_4 =>
    optW (pBin Try.prog .lss 3 v13 (.int .i64 0)) fun v14_1 =>
    k_4 v14_1 h_6) h_6 fun v14 h_8 =>
  optW (pPick v8 v14 (.bool false)) fun v15 =>
  condW v15 (
    K (.bool false) h_8
  ) (
    loopE (fun I e h_9 =>
      optW (pOff 2 (e 3)) fun v17 =>
      optW (rdRow false 1 v17 h_9) fun v18 =>
      optW (lenSl v18) fun v19 =>
      optW (pBin Try.prog .lss 3 (e 5) v19) fun v20 =>
      condW v20 (
        optW (rdRow true 2 (e 2) h_9) fun v23 =>
        optW (pOff 2 (e 3)) fun v24 =>
        optW (rdRow false 1 v24 h_9) fun v25 =>
        optW (pIdxS 3 v25 (e 5)) fun v27 =>
        optW (rdRow true 3 v27 h_9) fun v28 =>
        X 45 [v23, v28] h_9 fun v29 h_10 =>
        optW (pUn .not v29) fun v30 =>
        condW v30 (
          K (.bool false) h_10
        ) (
          optW (pBin Try.prog .add 3 (e 5) (.int .i64 1)) fun v22 =>
          I (pt (pt (pt (pt (pt (pt (pt (pt (pt (pt (pt (pt (pt (pt (pt (pt e 16 (e 5)) 17 v17) 18 v18) 19 v19) 20 v20) 23 v23) 24 v24) 25 v25) 26 (e 5)) 27 v27) 28 v28) 29 v29) 30 v30) 21 (e 5)) 22 v22) 5 v22) h_10)
      ) (
        K (.bool true) h_9))
    (pt (pt (pt (pt (pt (pt (pt (pt (pt (pt (pt (pt (pt (pt (envOf [a0, a1]) 2 v2) 3 v3) 4 (.bool false)) 6 v6) 7 v7) 8 v8) 9 v8) 10 v10) 11 v11) 12 v12) 13 v13) 14 v14) 15 v15) 5 (.int .i64 0)) h_8)
theorem e45 (X : CallT) (a0 a1 : Value) (h : AH) (K : Value → AH → Prop) : cwp2 Try.prog X (Try.f45.body.getD .skip) (endW Try.prog Try.f45 K) (envOf [a0, a1]) h = s45 X a0 a1 h K := by kernel_rfl
theorem c45 {a0 a1 : Value} {h : AH} {K : Value → AH → Prop} (hs : s45 (callW Try.prog) a0 a1 h K) : callW Try.prog 45 [a0, a1] h K := callW_of Try.func45 (by kernel_rfl) (Eq.mpr (e45 _ a0 a1 _ _) hs)

/-- canopy/canopyref8.One (I at e: live [2, 3, 5], writes [4, 5, 27, 28, 29, 30, 31, 32, 33, 34, 35, 36, 37, 38, 39, 40, 41, 42, 43, 44, 45]) -/
def s46 (X : CallT) (a0 a1 : Value) (h : AH) (K : Value → AH → Prop) : Prop :=
  aBox a0 none h fun v2 h_1 =>
  aBox a1 none h_1 fun v3 h_2 =>
  optW (pOff 0 v2) fun v6 =>
  optW (rdRow false 1 v6 h_2) fun v7 =>
  optW (pOff 0 v3) fun v8 =>
  optW (rdRow false 1 v8 h_2) fun v9 =>
  optW (pBin Try.prog .neq 3 v7 v9) fun v10 =>
  gopW (gB v10 false) (fun k =>
    optW (pOff 1 v2) fun v12_1 =>
    k v12_1 h_2) h_2 fun v12 h_3 =>
  gopW (gB v10 false) (fun k_1 =>
    optW (rdRow false 1 v12 h_3) fun v13_1 =>
    k_1 v13_1 h_3) h_3 fun v13 h_4 =>
  gopW (gB v10 false) (fun k_2 =>
    optW (pOff 1 v3) fun v14_1 =>
    k_2 v14_1 h_4) h_4 fun v14 h_5 =>
  gopW (gB v10 false) (fun k_3 =>
    optW (rdRow false 1 v14 h_5) fun v15_1 =>
    k_3 v15_1 h_5) h_5 fun v15 h_6 =>
  gopW (gB v10 false) (fun k_4 =>
    optW (pBin Try.prog .neq 9 v13 v15) fun v16_1 =>
    k_4 v16_1 h_6) h_6 fun v16 h_7 =>
  optW (pPick v10 (.bool true) v16) fun v17 =>
  gopW (gB v17 false) (fun k_5 =>
    optW (pOff 2 v2) fun v19_1 =>
    k_5 v19_1 h_7) h_7 fun v19 h_8 =>
  gopW (gB v17 false) (fun k_6 =>
    optW (rdRow false 1 v19 h_8) fun v20_1 =>
    k_6 v20_1 h_8) h_8 fun v20 h_9 =>
  gopW (gB v17 false) (fun k_7 =>
    optW (lenSl v20) fun v21_1 =>
    k_7 v21_1 h_9) h_9 fun v21 h_10 =>
  gopW (gB v17 false) (fun k_8 =>
    optW (pOff 2 v3) fun v22_1 =>
    k_8 v22_1 h_10) h_10 fun v22 h_11 =>
  gopW (gB v17 false) (fun k_9 =>
    optW (rdRow false 1 v22 h_11) fun v23_1 =>
    k_9 v23_1 h_11) h_11 fun v23 h_12 =>
  gopW (gB v17 false) (fun k_10 =>
    optW (lenSl v23) fun v24_1 =>
    k_10 v24_1 h_12) h_12 fun v24 h_13 =>
  gopW (gB v17 false) (fun k_11 =>
    optW (pBin Try.prog .neq 3 v21 v24) fun v25_1 =>
    k_11 v25_1 h_13) h_13 fun v25 h_14 =>
  optW (pPick v17 (.bool true) v25) fun v26 =>
  condW v26 (
    K (.bool false) h_14
  ) (
    loopE (fun I e h_15 =>
      optW (pOff 2 (e 2)) fun v28 =>
      optW (rdRow false 1 v28 h_15) fun v29 =>
      optW (lenSl v29) fun v30 =>
      optW (pBin Try.prog .lss 3 (e 5) v30) fun v31 =>
      condW v31 (
        optW (pOff 2 (e 2)) fun v34 =>
        optW (rdRow false 1 v34 h_15) fun v35 =>
        optW (pIdxS 3 v35 (e 5)) fun v37 =>
        optW (rdRow true 3 v37 h_15) fun v38 =>
        optW (pOff 2 (e 3)) fun v39 =>
        optW (rdRow false 1 v39 h_15) fun v40 =>
        optW (pIdxS 3 v40 (e 5)) fun v42 =>
        optW (rdRow true 3 v42 h_15) fun v43 =>
        X 46 [v38, v43] h_15 fun v44 h_16 =>
        optW (pUn .not v44) fun v45 =>
        condW v45 (
          K (.bool false) h_16
        ) (
          optW (pBin Try.prog .add 3 (e 5) (.int .i64 1)) fun v33 =>
          I (pt (pt (pt (pt (pt (pt (pt (pt (pt (pt (pt (pt (pt (pt (pt (pt (pt (pt (pt (pt e 27 (e 5)) 28 v28) 29 v29) 30 v30) 31 v31) 34 v34) 35 v35) 36 (e 5)) 37 v37) 38 v38) 39 v39) 40 v40) 41 (e 5)) 42 v42) 43 v43) 44 v44) 45 v45) 32 (e 5)) 33 v33) 5 v33) h_16)
      ) (
        K (.bool true) h_15))
    (pt (pt (pt (pt (pt (pt (pt (pt (pt (pt (pt (pt (pt (pt (pt (pt (pt (pt (pt (pt (pt (pt (pt (pt (pt (envOf [a0, a1]) 2 v2) 3 v3) 4 (.bool false)) 6 v6) 7 v7) 8 v8) 9 v9) 10 v10) 11 v10) 12 v12) 13 v13) 14 v14) 15 v15) 16 v16) 17 v17) 18 v17) 19 v19) 20 v20) 21 v21) 22 v22) 23 v23) 24 v24) 25 v25) 26 v26) 5 (.int .i64 0)) h_14)
theorem e46 (X : CallT) (a0 a1 : Value) (h : AH) (K : Value → AH → Prop) : cwp2 Try.prog X (Try.f46.body.getD .skip) (endW Try.prog Try.f46 K) (envOf [a0, a1]) h = s46 X a0 a1 h K := by kernel_rfl
theorem c46 {a0 a1 : Value} {h : AH} {K : Value → AH → Prop} (hs : s46 (callW Try.prog) a0 a1 h K) : callW Try.prog 46 [a0, a1] h K := callW_of Try.func46 (by kernel_rfl) (Eq.mpr (e46 _ a0 a1 _ _) hs)

/-- canopy/canopyref1.Letters (I at e: live [0, 3], writes [2, 3, 4, 5, 6, 7, 8, 9, 10, 11, 12, 13, 14, 15, 16, 17, 18, 19]) -/
def s53 (X : CallT) (a0 : Value) (h : AH) (K : Value → AH → Prop) : Prop :=
  loopE (fun I e h_1 =>
    optW (lenStr (e 0)) fun v6 =>
    optW (pBin Try.prog .lss 3 (e 3) v6) fun v7 =>
    condW v7 (
      optW (pIdxStr (e 0) (e 3)) fun v12 =>
      optW (pBin Try.prog .lss 5 v12 (.int .u8 97)) fun v13 =>
      gopW (gB v13 false) (fun k =>
        k (e 0) h_1) h_1 fun v15 h_2 =>
      gopW (gB v13 false) (fun k_1 =>
        k_1 (e 3) h_2) h_2 fun v16 h_3 =>
      gopW (gB v13 false) (fun k_2 =>
        optW (pIdxStr v15 v16) fun v17_1 =>
        k_2 v17_1 h_3) h_3 fun v17 h_4 =>
      gopW (gB v13 false) (fun k_3 =>
        optW (pBin Try.prog .gtr 5 v17 (.int .u8 122)) fun v18_1 =>
        k_3 v18_1 h_4) h_4 fun v18 h_5 =>
      optW (pPick v13 (.bool true) v18) fun v19 =>
      condW v19 (
        K (.bool false) h_5
      ) (
        optW (pBin Try.prog .add 3 (e 3) (.int .i64 1)) fun v9 =>
        I (pt (pt (pt (pt (pt (pt (pt (pt (pt (pt (pt (pt (pt (pt (pt (pt (pt e 4 (e 3)) 5 (e 0)) 6 v6) 7 v7) 10 (e 0)) 11 (e 3)) 12 v12) 13 v13) 14 v13) 15 v15) 16 v16) 17 v17) 18 v18) 19 v19) 8 (e 3)) 9 v9) 3 v9) h_5)
    ) (
      optW (lenStr (e 0)) fun v21 =>
      optW (pBin Try.prog .gtr 3 v21 (.int .i64 0)) fun v22 =>
      gopW (gB v22 true) (fun k_4 =>
        k_4 (e 0) h_1) h_1 fun v24 h_6 =>
      gopW (gB v22 true) (fun k_5 =>
        optW (lenStr v24) fun v25_1 =>
        k_5 v25_1 h_6) h_6 fun v25 h_7 =>
      gopW (gB v22 true) (fun k_6 =>
        optW (pBin Try.prog .leq 3 v25 (.int .i64 8)) fun v26_1 =>
        k_6 v26_1 h_7) h_7 fun v26 h_8 =>
      optW (pPick v22 v26 (.bool false)) fun v27 =>
      K v27 h_8))
  (pt (pt (envOf [a0]) 2 (.bool false)) 3 (.int .i64 0)) h
theorem e53 (X : CallT) (a0 : Value) (h : AH) (K : Value → AH → Prop) : cwp2 Try.prog X (Try.f53.body.getD .skip) (endW Try.prog Try.f53 K) (envOf [a0]) h = s53 X a0 h K := by kernel_rfl
theorem c53 {a0 : Value} {h : AH} {K : Value → AH → Prop} (hs : s53 (callW Try.prog) a0 h K) : callW Try.prog 53 [a0] h K := callW_of Try.func53 (by kernel_rfl) (Eq.mpr (e53 _ a0 _ _) hs)

/-- canopy/canopyref8.held () -/
def s54 (X : CallT) (a0 a1 : Value) (h : AH) (K : Value → AH → Prop) : Prop :=
  aBox a0 none h fun v2 h_1 =>
  optW (pOff 0 v2) fun v8 =>
  optW (rdRow false 1 v8 h_1) fun v9 =>
  optW (pBin Try.prog .eql 3 v9 (.int .i64 6)) fun v10 =>
  optW (pOff 0 v2) fun v11 =>
  optW (rdRow false 1 v11 h_1) fun v12 =>
  optW (pBin Try.prog .eql 3 v12 (.int .i64 5)) fun v13 =>
  optW (pOff 0 v2) fun v14 =>
  optW (rdRow false 1 v14 h_1) fun v15 =>
  optW (pBin Try.prog .eql 3 v15 (.int .i64 7)) fun v16 =>
  gopD (gB v16 false) (fun k =>
    optW (pOff 0 v2) fun v18_1 =>
    k v18_1 h_1 [] ((7, (ceOf 1 v14)) :: ((4, (ceOf 1 v11)) :: ((1, (ceOf 1 v8)) :: [])))) h_1 [] ((7, (ceOf 1 v14)) :: ((4, (ceOf 1 v11)) :: ((1, (ceOf 1 v8)) :: []))) fun v18 h_2 H S =>
  gopD (gB v16 false) (fun k_1 =>
    histC #[0, 1, 3, 0, 8, 24, 0, 64, 192, 448, 960, 1984, 4032, 8128, 16320, 32704, 65472, 131008, 262080, 32711, 557055, 2097151] 11 (ceOf 1 v18) H (
      optW (rdRow false 1 v18 h_2) fun v19_1 =>
      k_1 v19_1 h_2 H ((11, (ceOf 1 v18)) :: S))) h_2 H S fun v19 h_3 H_1 S_1 =>
  gopD (gB v16 false) (fun k_2 =>
    optW (pBin Try.prog .eql 3 v19 (.int .i64 8)) fun v20_1 =>
    k_2 v20_1 h_3 H_1 S_1) h_3 H_1 S_1 fun v20 h_4 H_2 S_2 =>
  optW (pPick v16 (.bool true) v20) fun v21 =>
  gopD (gB v21 false) (fun k_3 =>
    optW (pOff 0 v2) fun v23_1 =>
    k_3 v23_1 h_4 H_2 S_2) h_4 H_2 S_2 fun v23 h_5 H_3 S_3 =>
  gopD (gB v21 false) (fun k_4 =>
    histC #[0, 1, 3, 0, 8, 24, 0, 64, 192, 448, 960, 1984, 4032, 8128, 16320, 32704, 65472, 131008, 262080, 32711, 557055, 2097151] 16 (ceOf 1 v23) H_3 (
      optW (rdRow false 1 v23 h_5) fun v24_1 =>
      k_4 v24_1 h_5 H_3 ((16, (ceOf 1 v23)) :: S_3))) h_5 H_3 S_3 fun v24 h_6 H_4 S_4 =>
  gopD (gB v21 false) (fun k_5 =>
    optW (pBin Try.prog .eql 3 v24 (.int .i64 9)) fun v25_1 =>
    k_5 v25_1 h_6 H_4 S_4) h_6 H_4 S_4 fun v25 h_7 H_5 S_5 =>
  optW (pPick v21 (.bool true) v25) fun v26 =>
  gopW (gB v10 false) (fun k_6 =>
    k_6 v13 h_7) h_7 fun v29 h_8 =>
  gopW (gB v10 false) (fun k_7 =>
    k_7 v29 h_8) h_8 fun v30 h_9 =>
  gopW (gB v30 true) (fun k_8 =>
    k_8 a1 h_9) h_9 fun v31 h_10 =>
  gopW (gB v30 true) (fun k_9 =>
    optW (pBin Try.prog .neq 3 v31 (.int .i64 6)) fun v32_1 =>
    k_9 v32_1 h_10) h_10 fun v32 h_11 =>
  gopW (gB v10 false) (fun k_10 =>
    optW (pPick v30 v32 (.bool false)) fun v33_1 =>
    k_10 v33_1 h_11) h_11 fun v33 h_12 =>
  optW (pPick v10 (.bool true) v33) fun v34 =>
  gopW (gB v34 false) (fun k_11 =>
    k_11 v26 h_12) h_12 fun v36 h_13 =>
  gopW (gB v34 false) (fun k_12 =>
    k_12 v36 h_13) h_13 fun v37 h_14 =>
  gopW (gB v37 true) (fun k_13 =>
    k_13 a1 h_14) h_14 fun v38 h_15 =>
  gopW (gB v37 true) (fun k_14 =>
    optW (pBin Try.prog .eql 3 v38 (.int .i64 7)) fun v39_1 =>
    k_14 v39_1 h_15) h_15 fun v39 h_16 =>
  gopW (gB v34 false) (fun k_15 =>
    optW (pPick v37 v39 (.bool false)) fun v40_1 =>
    k_15 v40_1 h_16) h_16 fun v40 h_17 =>
  optW (pPick v34 (.bool true) v40) fun v41 =>
  condW v41 (
    optW (rdRow true 3 v2 h_17) fun v42 =>
    X 29 [v42] h_17 fun v43 h_18 =>
    optW (pBin Try.prog .add 9 (.string (bs [40])) v43) fun v44 =>
    optW (pBin Try.prog .add 9 v44 (.string (bs [41]))) fun v45 =>
    K v45 h_18
  ) (
    optW (rdRow true 3 v2 h_17) fun v46 =>
    X 29 [v46] h_17 fun v47 h_19 =>
    K v47 h_19)
theorem e54 (X : CallT) (a0 a1 : Value) (h : AH) (K : Value → AH → Prop) : cwp2 Try.prog X (Try.f54.body.getD .skip) (endW Try.prog Try.f54 K) (envOf [a0, a1]) h = s54 X a0 a1 h K := by kernel_rfl
theorem c54 {a0 a1 : Value} {h : AH} {K : Value → AH → Prop} (hs : s54 (callW Try.prog) a0 a1 h K) : callW Try.prog 54 [a0, a1] h K := callW_of Try.func54 (by kernel_rfl) (Eq.mpr (e54 _ a0 a1 _ _) hs)

end Go.Proofs.Ytlenlhlipmkeeaa.W
end

section
/- Go functions, printed by a program as predicates on what may come behind; each is the function. Conditions: none. -/
namespace Go.Proofs.Ytlenlhlipmkeeaa.W
open Go Go.AM
set_option linter.unusedVariables false
set_option maxRecDepth 100000


/-- canopy/canopyref8.Parse (J at e: live [0, 2, 5, 6]; J_1 at e_1: live [0, 2, 5, 6]; I at e_2: live [0, 5, 6], writes [7, 36, 37, 38, 39, 40, 41, 42, 43, 44, 45, 46, 47, 48, 49, 50, 51, 52, 53, 54, 55, 56, 57, 58, 59, 60, 61, 62]; I_1 at e_3: live [6, 8, 9], writes [8, 9, 82, 83, 84, 85, 86, 87, 88, 89, 90, 91, 92, 93, 94, 95, 96, 97, 98, 99]) -/
def s18 (X : CallT) (a0 : Value) (h : AH) (K : Value → AH → Prop) : Prop :=
  newR none [(.string (bs [])), (.slice none 0 0)] h fun v2 h_1 =>
  optW (lenStr a0) fun v11 =>
  optW (pBin Try.prog .gtr 3 v11 (.int .i64 2000)) fun v12 =>
  condW v12 (
    optW (bld [(.string (bs [])), (.slice none 0 0)] [(0, 1), (1, 1)] []) fun v13 =>
    optW (pStore 2 v2 v13 h_1) fun h_2 =>
    optW (resList Try.prog (pt (pt (pt (pt (pt (pt (pt (pt (pt (envOf [a0]) 2 v2) 3 (.int .i64 0)) 4 (.int .i64 0)) 10 a0) 11 v11) 12 v12) 13 v13) 3 (.int .i64 0)) 4 (.int .i64 2)) h_2 Try.f18.results.toList) fun vs => K (resOf vs) h_2
  ) (
    optW (bld [(.string (bs [])), (.int .i64 0), (.int .i64 0), (.int .i64 0), (.int .i64 0)] [(0, 1), (1, 1), (2, 1), (3, 1), (4, 1)] [(0, a0)]) fun v15 =>
    aBox v15 none h_1 fun v16 h_3 =>
    newR none [(.string (bs [])), (.slice none 0 0)] h_3 fun v6 h_4 =>
    X 40 [v16, (.string (bs [114, 111, 111, 116]))] h_4 fun v18 h_5 =>
    joinE (fun J =>
      optW (pNilCheck v16) fun v20 =>
      optW (pOff 2 v20) fun v21 =>
      optW (rdRow false 1 v21 h_5) fun v22 =>
      optW (pBin Try.prog .eql 3 v22 (.int .i64 0)) fun v23 =>
      condW v23 (
        X 41 [v16] h_5 fun v25 h_41 =>
        optW (pOff 0 v6) fun v26 =>
        optW (pStore 1 v26 v25 h_41) fun h_42 =>
        J (pt (pt (pt (pt (pt (pt (pt (pt (pt (pt (pt (pt (pt (pt (pt (pt (pt (pt (pt (pt (pt (envOf [a0]) 2 v2) 3 (.int .i64 0)) 4 (.int .i64 0)) 10 a0) 11 v11) 12 v12) 14 a0) 15 v15) 16 v16) 5 v16) 6 v6) 17 v16) 18 v18) 19 v16) 20 v20) 21 v21) 22 v22) 23 v23) 24 v16) 25 v25) 26 v26) h_42
      ) (
        J (pt (pt (pt (pt (pt (pt (pt (pt (pt (pt (pt (pt (pt (pt (pt (pt (pt (pt (envOf [a0]) 2 v2) 3 (.int .i64 0)) 4 (.int .i64 0)) 10 a0) 11 v11) 12 v12) 14 a0) 15 v15) 16 v16) 5 v16) 6 v6) 17 v16) 18 v18) 19 v16) 20 v20) 21 v21) 22 v22) 23 v23) h_5))
    (fun e h_6 =>
      joinE (fun J_1 =>
        optW (pNilCheck (e 5)) fun v28 =>
        optW (pOff 2 v28) fun v29 =>
        optW (rdRow false 1 v29 h_6) fun v30 =>
        optW (pBin Try.prog .eql 3 v30 (.int .i64 0)) fun v31 =>
        condW v31 (
          X 40 [(e 5), (.string (bs [59]))] h_6 fun v33 h_40 =>
          J_1 (pt (pt (pt (pt (pt (pt (pt e 27 (e 5)) 28 v28) 29 v29) 30 v30) 31 v31) 32 (e 5)) 33 v33) h_40
        ) (
          J_1 (pt (pt (pt (pt (pt e 27 (e 5)) 28 v28) 29 v29) 30 v30) 31 v31) h_6))
      (fun e_1 h_7 =>
        X 42 [(e_1 5)] h_7 fun v35 h_8 =>
        loopE (fun I e_2 h_9 =>
          optW (pNilCheck (e_2 5)) fun v37 =>
          optW (pOff 2 v37) fun v38 =>
          optW (rdRow false 1 v38 h_9) fun v39 =>
          optW (pBin Try.prog .eql 3 v39 (.int .i64 0)) fun v40 =>
          gopW (gB v40 true) (fun k =>
            k (e_2 5) h_9) h_9 fun v42 h_10 =>
          gopW (gB v40 true) (fun k_1 =>
            optW (pNilCheck v42) fun v43_1 =>
            k_1 v43_1 h_10) h_10 fun v43 h_11 =>
          gopW (gB v40 true) (fun k_2 =>
            optW (pOff 1 v43) fun v44_1 =>
            k_2 v44_1 h_11) h_11 fun v44 h_12 =>
          gopW (gB v40 true) (fun k_3 =>
            optW (rdRow false 1 v44 h_12) fun v45_1 =>
            k_3 v45_1 h_12) h_12 fun v45 h_13 =>
          gopW (gB v40 true) (fun k_4 =>
            k_4 (e_2 0) h_13) h_13 fun v46 h_14 =>
          gopW (gB v40 true) (fun k_5 =>
            optW (lenStr v46) fun v47_1 =>
            k_5 v47_1 h_14) h_14 fun v47 h_15 =>
          gopW (gB v40 true) (fun k_6 =>
            optW (pBin Try.prog .lss 3 v45 v47) fun v48_1 =>
            k_6 v48_1 h_15) h_15 fun v48 h_16 =>
          optW (pPick v40 v48 (.bool false)) fun v49 =>
          condW v49 (
            optW (rdRow true 2 (e_2 6) h_16) fun v53 =>
            X 43 [(e_2 5), v53] h_16 fun v54 h_17 =>
            newR none [(.string (bs [])), (.int .i64 0), (.string (bs [])), (.slice none 0 0)] h_17 fun v7 h_18 =>
            optW (pStore 4 v7 v54 h_18) fun h_19 =>
            optW (bldSl 4 [(.string (bs [])), (.int .i64 0), (.string (bs [])), (.slice none 0 0)] 0 []) fun c =>
            newW (some (h_19.length)) (.row c true) (reserve 2 h_19) fun i h_20 =>
            optW (pOff 1 (e_2 6)) fun v56 =>
            (∀ x ∈ (ceOf 1 v56), vw x (reserve 2 h_19) = vw x h_20) ∧
            optW (rdRow false 1 v56 h_20) fun v57 =>
            appSl 4 (.slice (some ⟨i, 0, none⟩) 0 0) v57 h_20 fun v58 h_21 =>
            (∀ x ∈ (ceOf 4 v7), vw x h_20 = vw x h_21) ∧
            (∀ x ∈ (ceOf 4 v7), vw x (reserve 2 h_19) = vw x h_20) ∧
            optW (rdRow true 4 v7 h_21) fun v59 =>
            optW (bldSl 4 [(.string (bs [])), (.int .i64 0), (.string (bs [])), (.slice none 0 0)] 1 [(0, v59)]) fun c_1 =>
            newW (some (h_19.length + 1)) (.row c_1 true) h_21 fun i_1 h_22 =>
            appSl 4 v58 (.slice (some ⟨i_1, 0, none⟩) 1 1) h_22 fun v61 h_23 =>
            optW (pOff 1 (e_2 6)) fun v62 =>
            optW (pStore 1 v62 v61 h_23) fun h_24 =>
            X 42 [(e_2 5)] h_24 fun v51 h_25 =>
            I (pt (pt (pt (pt (pt (pt (pt (pt (pt (pt (pt (pt (pt (pt (pt (pt (pt (pt (pt (pt (pt (pt (pt (pt (pt (pt (pt (pt e_2 36 (e_2 5)) 37 v37) 38 v38) 39 v39) 40 v40) 41 v40) 42 v42) 43 v43) 44 v44) 45 v45) 46 v46) 47 v47) 48 v48) 49 v49) 52 (e_2 5)) 53 v53) 54 v54) 7 v7) 55 (.slice (some ⟨i, 0, none⟩) 0 0)) 56 v56) 57 v57) 58 v58) 59 v59) 60 (.slice (some ⟨i_1, 0, none⟩) 1 1)) 61 v61) 62 v62) 50 (e_2 5)) 51 v51) h_25
          ) (
            optW (pNilCheck (e_2 5)) fun v64 =>
            optW (pOff 2 v64) fun v65 =>
            optW (rdRow false 1 v65 h_16) fun v66 =>
            optW (pBin Try.prog .neq 3 v66 (.int .i64 0)) fun v67 =>
            condW v67 (
              optW (bld [(.string (bs [])), (.slice none 0 0)] [(0, 1), (1, 1)] []) fun v68 =>
              optW (pNilCheck (e_2 5)) fun v70 =>
              optW (pOff 3 v70) fun v71 =>
              optW (rdRow false 1 v71 h_16) fun v72 =>
              optW (pNilCheck (e_2 5)) fun v74 =>
              optW (pOff 2 v74) fun v75 =>
              optW (rdRow false 1 v75 h_16) fun v76 =>
              optW (pStore 2 (e_2 2) v68 h_16) fun h_26 =>
              (∀ x ∈ (ceOf 1 v75), vw x h_16 = vw x h_26) ∧
              (∀ x ∈ (ceOf 1 v71), vw x h_16 = vw x h_26) ∧
              optW (resList Try.prog (pt (pt (pt (pt (pt (pt (pt (pt (pt (pt (pt (pt (pt (pt (pt (pt (pt (pt (pt (pt (pt (pt (pt (pt (pt (pt (pt (pt (pt (pt e_2 36 (e_2 5)) 37 v37) 38 v38) 39 v39) 40 v40) 41 v40) 42 v42) 43 v43) 44 v44) 45 v45) 46 v46) 47 v47) 48 v48) 49 v49) 63 (e_2 5)) 64 v64) 65 v65) 66 v66) 67 v67) 68 v68) 69 (e_2 5)) 70 v70) 71 v71) 72 v72) 73 (e_2 5)) 74 v74) 75 v75) 76 v76) 3 v72) 4 v76) h_26 Try.f18.results.toList) fun vs => K (resOf vs) h_26
            ) (
              optW (rdRow true 2 (e_2 6) h_16) fun v77 =>
              optW (pOff 0 (e_2 6)) fun v78 =>
              optW (rdRow false 1 v78 h_16) fun v79 =>
              X 44 [v77, v79] h_16 fun v80 h_27 =>
              optW (pBin Try.prog .geq 3 v80 (.int .i64 0)) fun v81 =>
              loopE (fun I_1 e_3 h_28 =>
                optW (pOff 1 (e_3 6)) fun v83 =>
                optW (rdRow false 1 v83 h_28) fun v84 =>
                optW (lenSl v84) fun v85 =>
                optW (pBin Try.prog .lss 3 (e_3 9) v85) fun v86 =>
                condW v86 (
                  gopD (gB (e_3 8) true) (fun k_7 =>
                    optW (rdRow true 2 (e_3 6) h_28) fun v91_1 =>
                    k_7 v91_1 h_28 [] ((2, (ceOf 2 (e_3 6))) :: [])) h_28 [] [] fun v91 h_29 H S =>
                  gopD (gB (e_3 8) true) (fun k_8 =>
                    optW (pOff 1 (e_3 6)) fun v92_1 =>
                    k_8 v92_1 h_29 H S) h_29 H S fun v92 h_30 H_1 S_1 =>
                  gopD (gB (e_3 8) true) (fun k_9 =>
                    histC #[0, 1, 3, 3, 11, 3, 59, 123, 251, 511, 1023, 2047] 4 (ceOf 1 v92) H_1 (
                      optW (rdRow false 1 v92 h_30) fun v93_1 =>
                      k_9 v93_1 h_30 H_1 ((4, (ceOf 1 v92)) :: S_1))) h_30 H_1 S_1 fun v93 h_31 H_2 S_2 =>
                  gopD (gB (e_3 8) true) (fun k_10 =>
                    k_10 (e_3 9) h_31 H_2 S_2) h_31 H_2 S_2 fun v94 h_32 H_3 S_3 =>
                  gopD (gB (e_3 8) true) (fun k_11 =>
                    optW (pIdxS 4 v93 v94) fun v95_1 =>
                    k_11 v95_1 h_32 H_3 S_3) h_32 H_3 S_3 fun v95 h_33 H_4 S_4 =>
                  gopD (gB (e_3 8) true) (fun k_12 =>
                    optW (pOff 1 v95) fun v96_1 =>
                    k_12 v96_1 h_33 H_4 S_4) h_33 H_4 S_4 fun v96 h_34 H_5 S_5 =>
                  gopD (gB (e_3 8) true) (fun k_13 =>
                    histC #[0, 1, 3, 3, 11, 3, 59, 123, 251, 511, 1023, 2047] 8 (ceOf 3 v96) H_5 (
                      optW (rdRow true 3 v96 h_34) fun v97_1 =>
                      k_13 v97_1 h_34 H_5 ((8, (ceOf 3 v96)) :: S_5))) h_34 H_5 S_5 fun v97 h_35 H_6 S_6 =>
                  gopD (gB (e_3 8) true) (fun k_14 =>
                    X 45 [v91, v97] h_35 fun v98_1 h_37 =>
                    readC #[0, 1, 3, 3, 11, 3, 59, 123, 251, 511, 1023, 2047] 9 h_35 h_37 S_6 (
                      k_14 v98_1 h_37 ((9, h_35, h_37) :: H_6) S_6)) h_35 H_6 S_6 fun v98 h_36 H_7 S_7 =>
                  optW (pPick (e_3 8) v98 (.bool false)) fun v99 =>
                  optW (pBin Try.prog .add 3 (e_3 9) (.int .i64 1)) fun v88 =>
                  I_1 (pt (pt (pt (pt (pt (pt (pt (pt (pt (pt (pt (pt (pt (pt (pt (pt (pt (pt (pt (pt e_3 82 (e_3 9)) 83 v83) 84 v84) 85 v85) 86 v86) 89 (e_3 8)) 90 (e_3 8)) 91 v91) 92 v92) 93 v93) 94 v94) 95 v95) 96 v96) 97 v97) 98 v98) 99 v99) 8 v99) 87 (e_3 9)) 88 v88) 9 v88) h_36
                ) (
                  optW (pUn .not (e_3 8)) fun v101 =>
                  condW v101 (
                    optW (bld [(.string (bs [])), (.slice none 0 0)] [(0, 1), (1, 1)] []) fun v102 =>
                    optW (pStore 2 (e_3 2) v102 h_28) fun h_38 =>
                    optW (resList Try.prog (pt (pt (pt (pt (pt (pt (pt (pt (pt (pt e_3 82 (e_3 9)) 83 v83) 84 v84) 85 v85) 86 v86) 100 (e_3 8)) 101 v101) 102 v102) 3 (.int .i64 0)) 4 (.int .i64 6)) h_38 Try.f18.results.toList) fun vs => K (resOf vs) h_38
                  ) (
                    optW (rdRow true 2 (e_3 6) h_28) fun v103 =>
                    optW (pStore 2 (e_3 2) v103 h_28) fun h_39 =>
                    optW (resList Try.prog (pt (pt (pt (pt (pt (pt (pt (pt (pt (pt e_3 82 (e_3 9)) 83 v83) 84 v84) 85 v85) 86 v86) 100 (e_3 8)) 101 v101) 103 v103) 3 (.int .i64 0)) 4 (.int .i64 0)) h_39 Try.f18.results.toList) fun vs => K (resOf vs) h_39)))
              (pt (pt (pt (pt (pt (pt (pt (pt (pt (pt (pt (pt (pt (pt (pt (pt (pt (pt (pt (pt (pt (pt (pt (pt (pt (pt e_2 36 (e_2 5)) 37 v37) 38 v38) 39 v39) 40 v40) 41 v40) 42 v42) 43 v43) 44 v44) 45 v45) 46 v46) 47 v47) 48 v48) 49 v49) 63 (e_2 5)) 64 v64) 65 v65) 66 v66) 67 v67) 77 v77) 78 v78) 79 v79) 80 v80) 81 v81) 8 v81) 9 (.int .i64 0)) h_27)))
        (pt (pt e_1 34 (e_1 5)) 35 v35) h_8)))
theorem e18 (X : CallT) (a0 : Value) (h : AH) (K : Value → AH → Prop) : cwp2 Try.prog X (Try.f18.body.getD .skip) (endW Try.prog Try.f18 K) (envOf [a0]) h = s18 X a0 h K := by kernel_rfl
theorem c18 {a0 : Value} {h : AH} {K : Value → AH → Prop} (hs : s18 (callW Try.prog) a0 h K) : callW Try.prog 18 [a0] h K := callW_of Try.func18 (by kernel_rfl) (Eq.mpr (e18 _ a0 _ _) hs)

/-- canopy/canopyref8.Same (I at e: live [2, 3, 5], writes [4, 5, 20, 21, 22, 23, 24, 25, 26, 27, 28, 29, 30, 31, 32, 33, 34, 35, 36, 37, 38, 39, 40, 41, 42, 43, 44, 45, 46, 47, 48, 49, 50, 51, 52, 53, 54, 55]) -/
def s19 (X : CallT) (a0 a1 : Value) (h : AH) (K : Value → AH → Prop) : Prop :=
  aBox a0 none h fun v2 h_1 =>
  aBox a1 none h_1 fun v3 h_2 =>
  optW (pOff 0 v2) fun v6 =>
  optW (rdRow false 1 v6 h_2) fun v7 =>
  optW (pOff 0 v3) fun v8 =>
  optW (rdRow false 1 v8 h_2) fun v9 =>
  optW (pBin Try.prog .neq 9 v7 v9) fun v10 =>
  gopW (gB v10 false) (fun k =>
    optW (pOff 1 v2) fun v12_1 =>
    k v12_1 h_2) h_2 fun v12 h_3 =>
  gopW (gB v10 false) (fun k_1 =>
    optW (rdRow false 1 v12 h_3) fun v13_1 =>
    k_1 v13_1 h_3) h_3 fun v13 h_4 =>
  gopW (gB v10 false) (fun k_2 =>
    optW (lenSl v13) fun v14_1 =>
    k_2 v14_1 h_4) h_4 fun v14 h_5 =>
  gopW (gB v10 false) (fun k_3 =>
    optW (pOff 1 v3) fun v15_1 =>
    k_3 v15_1 h_5) h_5 fun v15 h_6 =>
  gopW (gB v10 false) (fun k_4 =>
    optW (rdRow false 1 v15 h_6) fun v16_1 =>
    k_4 v16_1 h_6) h_6 fun v16 h_7 =>
  gopW (gB v10 false) (fun k_5 =>
    optW (lenSl v16) fun v17_1 =>
    k_5 v17_1 h_7) h_7 fun v17 h_8 =>
  gopW (gB v10 false) (fun k_6 =>
    optW (pBin Try.prog .neq 3 v14 v17) fun v18_1 =>
    k_6 v18_1 h_8) h_8 fun v18 h_9 =>
  optW (pPick v10 (.bool true) v18) fun v19 =>
  condW v19 (
    K (.bool false) h_9
  ) (
    loopE (fun I e h_10 =>
      optW (pOff 1 (e 2)) fun v21 =>
      optW (rdRow false 1 v21 h_10) fun v22 =>
      optW (lenSl v22) fun v23 =>
      optW (pBin Try.prog .lss 3 (e 5) v23) fun v24 =>
      condW v24 (
        optW (pOff 1 (e 2)) fun v27 =>
        optW (rdRow false 1 v27 h_10) fun v28 =>
        optW (pIdxS 4 v28 (e 5)) fun v30 =>
        optW (pOff 0 v30) fun v31 =>
        optW (rdRow false 1 v31 h_10) fun v32 =>
        optW (pOff 1 (e 3)) fun v33 =>
        optW (rdRow false 1 v33 h_10) fun v34 =>
        optW (pIdxS 4 v34 (e 5)) fun v36 =>
        optW (pOff 0 v36) fun v37 =>
        optW (rdRow false 1 v37 h_10) fun v38 =>
        optW (pBin Try.prog .neq 9 v32 v38) fun v39 =>
        gopD (gB v39 false) (fun k_7 =>
          optW (pOff 1 (e 2)) fun v41_1 =>
          k_7 v41_1 h_10 [] ((11, (ceOf 1 v37)) :: ((7, (ceOf 1 v33)) :: ((5, (ceOf 1 v31)) :: ((1, (ceOf 1 v27)) :: []))))) h_10 [] ((11, (ceOf 1 v37)) :: ((7, (ceOf 1 v33)) :: ((5, (ceOf 1 v31)) :: ((1, (ceOf 1 v27)) :: [])))) fun v41 h_11 H S =>
        gopD (gB v39 false) (fun k_8 =>
          histC #[0, 1, 0, 7, 15, 31, 0, 64, 0, 448, 960, 1984, 4095, 8191, 16383, 32767, 16383, 131071, 262143, 524287, 16383, 1064959, 16383, 7356415, 15745023, 32522239, 67108863, 134217727, 268435455] 15 (ceOf 1 v41) H (
            optW (rdRow false 1 v41 h_11) fun v42_1 =>
            k_8 v42_1 h_11 H ((15, (ceOf 1 v41)) :: S))) h_11 H S fun v42 h_12 H_1 S_1 =>
        gopD (gB v39 false) (fun k_9 =>
          k_9 (e 5) h_12 H_1 S_1) h_12 H_1 S_1 fun v43 h_13 H_2 S_2 =>
        gopD (gB v39 false) (fun k_10 =>
          optW (pIdxS 4 v42 v43) fun v44_1 =>
          k_10 v44_1 h_13 H_2 S_2) h_13 H_2 S_2 fun v44 h_14 H_3 S_3 =>
        gopD (gB v39 false) (fun k_11 =>
          optW (pOff 1 v44) fun v45_1 =>
          k_11 v45_1 h_14 H_3 S_3) h_14 H_3 S_3 fun v45 h_15 H_4 S_4 =>
        gopD (gB v39 false) (fun k_12 =>
          histC #[0, 1, 0, 7, 15, 31, 0, 64, 0, 448, 960, 1984, 4095, 8191, 16383, 32767, 16383, 131071, 262143, 524287, 16383, 1064959, 16383, 7356415, 15745023, 32522239, 67108863, 134217727, 268435455] 19 (ceOf 3 v45) H_4 (
            optW (rdRow true 3 v45 h_15) fun v46_1 =>
            k_12 v46_1 h_15 H_4 ((19, (ceOf 3 v45)) :: S_4))) h_15 H_4 S_4 fun v46 h_16 H_5 S_5 =>
        gopD (gB v39 false) (fun k_13 =>
          optW (pOff 1 (e 3)) fun v47_1 =>
          k_13 v47_1 h_16 H_5 S_5) h_16 H_5 S_5 fun v47 h_17 H_6 S_6 =>
        gopD (gB v39 false) (fun k_14 =>
          histC #[0, 1, 0, 7, 15, 31, 0, 64, 0, 448, 960, 1984, 4095, 8191, 16383, 32767, 16383, 131071, 262143, 524287, 16383, 1064959, 16383, 7356415, 15745023, 32522239, 67108863, 134217727, 268435455] 21 (ceOf 1 v47) H_6 (
            optW (rdRow false 1 v47 h_17) fun v48_1 =>
            k_14 v48_1 h_17 H_6 ((21, (ceOf 1 v47)) :: S_6))) h_17 H_6 S_6 fun v48 h_18 H_7 S_7 =>
        gopD (gB v39 false) (fun k_15 =>
          k_15 (e 5) h_18 H_7 S_7) h_18 H_7 S_7 fun v49 h_19 H_8 S_8 =>
        gopD (gB v39 false) (fun k_16 =>
          optW (pIdxS 4 v48 v49) fun v50_1 =>
          k_16 v50_1 h_19 H_8 S_8) h_19 H_8 S_8 fun v50 h_20 H_9 S_9 =>
        gopD (gB v39 false) (fun k_17 =>
          optW (pOff 1 v50) fun v51_1 =>
          k_17 v51_1 h_20 H_9 S_9) h_20 H_9 S_9 fun v51 h_21 H_10 S_10 =>
        gopD (gB v39 false) (fun k_18 =>
          histC #[0, 1, 0, 7, 15, 31, 0, 64, 0, 448, 960, 1984, 4095, 8191, 16383, 32767, 16383, 131071, 262143, 524287, 16383, 1064959, 16383, 7356415, 15745023, 32522239, 67108863, 134217727, 268435455] 25 (ceOf 3 v51) H_10 (
            optW (rdRow true 3 v51 h_21) fun v52_1 =>
            k_18 v52_1 h_21 H_10 ((25, (ceOf 3 v51)) :: S_10))) h_21 H_10 S_10 fun v52 h_22 H_11 S_11 =>
        gopD (gB v39 false) (fun k_19 =>
          X 46 [v46, v52] h_22 fun v53_1 h_24 =>
          readC #[0, 1, 0, 7, 15, 31, 0, 64, 0, 448, 960, 1984, 4095, 8191, 16383, 32767, 16383, 131071, 262143, 524287, 16383, 1064959, 16383, 7356415, 15745023, 32522239, 67108863, 134217727, 268435455] 26 h_22 h_24 S_11 (
            k_19 v53_1 h_24 ((26, h_22, h_24) :: H_11) S_11)) h_22 H_11 S_11 fun v53 h_23 H_12 S_12 =>
        gopD (gB v39 false) (fun k_20 =>
          optW (pUn .not v53) fun v54_1 =>
          k_20 v54_1 h_23 H_12 S_12) h_23 H_12 S_12 fun v54 h_25 H_13 S_13 =>
        optW (pPick v39 (.bool true) v54) fun v55 =>
        condW v55 (
          K (.bool false) h_25
        ) (
          optW (pBin Try.prog .add 3 (e 5) (.int .i64 1)) fun v26 =>
          I (pt (pt (pt (pt (pt (pt (pt (pt (pt (pt (pt (pt (pt (pt (pt (pt (pt (pt (pt (pt (pt (pt (pt (pt (pt (pt (pt (pt (pt (pt (pt (pt (pt (pt (pt (pt (pt e 20 (e 5)) 21 v21) 22 v22) 23 v23) 24 v24) 27 v27) 28 v28) 29 (e 5)) 30 v30) 31 v31) 32 v32) 33 v33) 34 v34) 35 (e 5)) 36 v36) 37 v37) 38 v38) 39 v39) 40 v39) 41 v41) 42 v42) 43 v43) 44 v44) 45 v45) 46 v46) 47 v47) 48 v48) 49 v49) 50 v50) 51 v51) 52 v52) 53 v53) 54 v54) 55 v55) 25 (e 5)) 26 v26) 5 v26) h_25)
      ) (
        K (.bool true) h_10))
    (pt (pt (pt (pt (pt (pt (pt (pt (pt (pt (pt (pt (pt (pt (pt (pt (pt (pt (envOf [a0, a1]) 2 v2) 3 v3) 4 (.bool false)) 6 v6) 7 v7) 8 v8) 9 v9) 10 v10) 11 v10) 12 v12) 13 v13) 14 v14) 15 v15) 16 v16) 17 v17) 18 v18) 19 v19) 5 (.int .i64 0)) h_9)
theorem e19 (X : CallT) (a0 a1 : Value) (h : AH) (K : Value → AH → Prop) : cwp2 Try.prog X (Try.f19.body.getD .skip) (endW Try.prog Try.f19 K) (envOf [a0, a1]) h = s19 X a0 a1 h K := by kernel_rfl
theorem c19 {a0 a1 : Value} {h : AH} {K : Value → AH → Prop} (hs : s19 (callW Try.prog) a0 a1 h K) : callW Try.prog 19 [a0, a1] h K := callW_of Try.func19 (by kernel_rfl) (Eq.mpr (e19 _ a0 a1 _ _) hs)

end Go.Proofs.Ytlenlhlipmkeeaa.W
end

section
/- Go functions, printed by a program as predicates on what may come behind; each is the function. Conditions: none. -/
namespace Go.Proofs.Ytlenlhlipmkeeaa.W
open Go Go.AM
set_option linter.unusedVariables false
set_option maxRecDepth 100000


/-- canopy/canopylaw8.SchemaReads (I at e: live [2, 18, 19], writes [18, 19, 54, 55, 56, 57, 58, 59, 60, 61, 62, 63, 64, 65, 66, 67, 68]; I_1 at e_1: live [2, 20, 21], writes [20, 21, 69, 70, 71, 72, 73, 74, 75, 76, 77]; I_2 at e_2: live [22, 23], writes [14, 23, 24, 25, 26, 27, 28, 29, 125, 126, 127, 128, 129, 130, 131, 132, 133, 134, 135, 136, 137, 138, 139, 140, 141, 142, 143, 144, 145, 146, 147, 148, 149, 150, 151, 152, 153, 154, 155, 156, 157, 158, 159, 160, 161, 162]) -/
def s3 (X : CallT) (a0 a1 a2 a3 a4 a5 a6 : Value) (h : AH) (K : Value → AH → Prop) : Prop :=
  X 12 [] h fun v30 h_1 =>
  optW (pUn .not v30) fun v31 =>
  condW v31 (
    K (.bool false) h_1
  ) (
    optW (lenStr a5) fun v33 =>
    optW (pBin Try.prog .gtr 3 v33 (.int .i64 40)) fun v34 =>
    gopW (gB v34 false) (fun k =>
      k a6 h_1) h_1 fun v36 h_2 =>
    gopW (gB v34 false) (fun k_1 =>
      optW (lenStr v36) fun v37_1 =>
      k_1 v37_1 h_2) h_2 fun v37 h_3 =>
    gopW (gB v34 false) (fun k_2 =>
      optW (pBin Try.prog .gtr 3 v37 (.int .i64 200)) fun v38_1 =>
      k_2 v38_1 h_3) h_3 fun v38 h_4 =>
    optW (pPick v34 (.bool true) v38) fun v39 =>
    condW v39 (
      K (.bool true) h_4
    ) (
      X 14 [a0, a1, (.int .i64 3)] h_4 fun v42 h_5 =>
      X 13 [v42] h_5 fun v43 h_6 =>
      optW (lenStr v43) fun v46 =>
      optW (pBin Try.prog .add 3 v46 (.int .i64 1)) fun v47 =>
      X 15 [a4, v47] h_6 fun v48 h_7 =>
      optW (bldSl 1 [(.string (bs []))] 18 [(0, (.string (bs [32]))), (1, (.string (bs [10]))), (2, (.string (bs [59]))), (3, (.string (bs [40]))), (4, (.string (bs [41]))), (5, (.string (bs [42]))), (6, (.string (bs [43]))), (7, (.string (bs [63]))), (8, (.string (bs [44]))), (9, (.string (bs [124]))), (10, (.string (bs [61]))), (11, (.string (bs [97]))), (12, (.string (bs [97, 110, 121]))), (13, (.string (bs [101, 108, 101, 109, 101, 110, 116, 32, 97, 32, 61, 32, 98, 59]))), (14, (.string (bs [114, 111, 111, 116]))), (15, (.string (bs [101, 109, 112, 116, 121]))), (16, (.string (bs [101, 108, 101, 109, 101, 110, 116]))), (17, (.string (bs [97, 98, 99, 100, 101, 102, 103, 104, 105])))]) fun c =>
      newW none (.row c true) h_7 fun i h_8 =>
      X 15 [a2, (.int .i64 18)] h_8 fun v51 h_9 =>
      optW (pIdxS 1 (.slice (some ⟨i, 0, none⟩) 18 18) v51) fun v52 =>
      optW (rdRow false 1 v52 h_9) fun v53 =>
      loopE (fun I e h_10 =>
        X 15 [(e 2), (.int .i64 4)] h_10 fun v56 h_11 =>
        optW (pBin Try.prog .add 3 (.int .i64 7) v56) fun v57 =>
        optW (pBin Try.prog .lss 3 (e 19) v57) fun v58 =>
        condW v58 (
          optW (pBin Try.prog .add 9 (e 18) (.string (bs [101, 108, 101, 109, 101, 110, 116, 32, 97]))) fun v62 =>
          optW (pBin Try.prog .add 3 (e 19) (.int .i64 1)) fun v65 =>
          optW (pSliceStr (.string (bs [97, 98, 99, 100, 101, 102, 103, 104, 105, 106, 107])) (some (e 19)) (some v65)) fun v66 =>
          optW (pBin Try.prog .add 9 v62 v66) fun v67 =>
          optW (pBin Try.prog .add 9 v67 (.string (bs [61, 101, 109, 112, 116, 121, 59]))) fun v68 =>
          optW (pBin Try.prog .add 3 (e 19) (.int .i64 1)) fun v60 =>
          I (pt (pt (pt (pt (pt (pt (pt (pt (pt (pt (pt (pt (pt (pt (pt (pt (pt e 54 (e 19)) 55 (e 2)) 56 v56) 57 v57) 58 v58) 61 (e 18)) 62 v62) 63 (e 19)) 64 (e 19)) 65 v65) 66 v66) 67 v67) 68 v68) 18 v68) 59 (e 19)) 60 v60) 19 v60) h_11
        ) (
          loopE (fun I_1 e_1 h_12 =>
            X 15 [(e_1 2), (.int .i64 5)] h_12 fun v71 h_13 =>
            optW (pBin Try.prog .add 3 (.int .i64 18) v71) fun v72 =>
            optW (pBin Try.prog .lss 3 (e_1 21) v72) fun v73 =>
            condW v73 (
              optW (pBin Try.prog .add 9 (e_1 20) (.string (bs [40]))) fun v77 =>
              optW (pBin Try.prog .add 3 (e_1 21) (.int .i64 1)) fun v75 =>
              I_1 (pt (pt (pt (pt (pt (pt (pt (pt (pt (pt (pt e_1 69 (e_1 21)) 70 (e_1 2)) 71 v71) 72 v72) 73 v73) 76 (e_1 20)) 77 v77) 20 v77) 74 (e_1 21)) 75 v75) 21 v75) h_13
            ) (
              X 16 [(e_1 15), (e_1 2), (e_1 3)] (reserve 1 h_13) fun v81 h_14 =>
              optW (pSliceStr (e_1 15) none (some (e_1 16))) fun v84 =>
              optW (pSliceStr (e_1 15) none (some (e_1 16))) fun v87 =>
              optW (pBin Try.prog .add 9 v87 (e_1 5)) fun v89 =>
              optW (pSliceStr (e_1 15) (some (e_1 16)) none) fun v92 =>
              optW (pBin Try.prog .add 9 v89 v92) fun v93 =>
              optW (pSliceStr (e_1 15) none (some (e_1 16))) fun v97 =>
              optW (pBin Try.prog .add 9 v97 (e_1 17)) fun v99 =>
              optW (pSliceStr (e_1 15) (some (e_1 16)) none) fun v102 =>
              optW (pBin Try.prog .add 9 v99 v102) fun v103 =>
              optW (pBin Try.prog .add 9 (e_1 15) (e_1 17)) fun v106 =>
              optW (pBin Try.prog .add 9 (e_1 17) (e_1 15)) fun v109 =>
              optW (lenStr (e_1 15)) fun v113 =>
              optW (pMax2 false v113 (.int .i64 7)) fun v114 =>
              optW (pSliceStr (e_1 15) (some v114) none) fun v115 =>
              optW (pBin Try.prog .add 9 (e_1 15) v115) fun v116 =>
              optW (pBin Try.prog .add 9 (.string (bs [114, 111, 111, 116, 32, 97, 59, 101, 108, 101, 109, 101, 110, 116, 32, 97, 61])) (e_1 6)) fun v118 =>
              optW (pBin Try.prog .add 9 (.string (bs [114, 111, 111, 116, 32, 97, 59, 101, 108, 101, 109, 101, 110, 116, 32, 97, 61])) (e_1 20)) fun v121 =>
              optW (pBin Try.prog .add 9 (e_1 18) (.string (bs [101, 108, 101, 109, 101, 110, 116, 32, 97, 61, 98, 59]))) fun v123 =>
              optW (bldSl 1 [(.string (bs []))] 12 [(0, v81), (1, v84), (2, v93), (3, (e_1 6)), (4, v103), (5, v106), (6, v109), (7, v116), (8, v118), (9, (e_1 18)), (10, v121), (11, v123)]) fun c_1 =>
              newW (some (h_13.length)) (.row c_1 true) h_14 fun i_1 h_15 =>
              loopE (fun I_2 e_2 h_16 =>
                optW (lenSl (e_2 22)) fun v127 =>
                optW (pBin Try.prog .lss 3 (e_2 23) v127) fun v128 =>
                condW v128 (
                  optW (pIdxS 1 (e_2 22) (e_2 23)) fun v134 =>
                  optW (rdRow false 1 v134 h_16) fun v135 =>
                  X 17 [v135] h_16 fun v136 h_17 =>
                  optW (pExtract v136 0) fun v137 =>
                  optW (pExtract v136 1) fun v138 =>
                  optW (pExtract v136 2) fun v139 =>
                  newR none [(.string (bs [])), (.slice none 0 0)] h_17 fun v24 h_18 =>
                  optW (pStore 2 v24 v137 h_18) fun h_19 =>
                  optW (pIdxS 1 (e_2 22) (e_2 23)) fun v143 =>
                  optW (rdRow false 1 v143 h_19) fun v144 =>
                  X 18 [v144] h_19 fun v145 h_20 =>
                  optW (pExtract v145 0) fun v146 =>
                  optW (pExtract v145 1) fun v147 =>
                  optW (pExtract v145 2) fun v148 =>
                  newR none [(.string (bs [])), (.slice none 0 0)] h_20 fun v27 h_21 =>
                  optW (pStore 2 v27 v146 h_21) fun h_22 =>
                  optW (pBin Try.prog .neq 3 v139 v148) fun v151 =>
                  gopW (gB v151 false) (fun k_3 =>
                    k_3 v138 h_22) h_22 fun v153 h_23 =>
                  gopW (gB v151 false) (fun k_4 =>
                    k_4 v147 h_23) h_23 fun v154 h_24 =>
                  gopW (gB v151 false) (fun k_5 =>
                    optW (pBin Try.prog .neq 3 v153 v154) fun v155_1 =>
                    k_5 v155_1 h_24) h_24 fun v155 h_25 =>
                  optW (pPick v151 (.bool true) v155) fun v156 =>
                  gopW (gB v156 false) (fun k_6 =>
                    optW (rdRow true 2 v24 h_25) fun v158_1 =>
                    k_6 v158_1 h_25) h_25 fun v158 h_26 =>
                  gopW (gB v156 false) (fun k_7 =>
                    optW (rdRow true 2 v27 h_26) fun v159_1 =>
                    k_7 v159_1 h_26) h_26 fun v159 h_27 =>
                  gopW (gB v156 false) (fun k_8 =>
                    X 19 [v158, v159] h_27 fun v160_1 h_29 =>
                    k_8 v160_1 h_29) h_27 fun v160 h_28 =>
                  gopW (gB v156 false) (fun k_9 =>
                    optW (pUn .not v160) fun v161_1 =>
                    k_9 v161_1 h_28) h_28 fun v161 h_30 =>
                  optW (pPick v156 (.bool true) v161) fun v162 =>
                  condW v162 (
                    K (.bool false) h_30
                  ) (
                    optW (pBin Try.prog .add 3 (e_2 23) (.int .i64 1)) fun v130 =>
                    I_2 (pt (pt (pt (pt (pt (pt (pt (pt (pt (pt (pt (pt (pt (pt (pt (pt (pt (pt (pt (pt (pt (pt (pt (pt (pt (pt (pt (pt (pt (pt (pt (pt (pt (pt (pt (pt (pt (pt (pt (pt (pt (pt (pt (pt (pt e_2 125 (e_2 23)) 126 (e_2 22)) 127 v127) 128 v128) 132 (e_2 22)) 133 (e_2 23)) 134 v134) 135 v135) 136 v136) 131 v136) 137 v137) 138 v138) 139 v139) 24 v24) 25 v138) 26 v139) 141 (e_2 22)) 142 (e_2 23)) 143 v143) 144 v144) 145 v145) 140 v145) 146 v146) 147 v147) 148 v148) 27 v27) 28 v147) 29 v148) 149 v139) 150 v148) 151 v151) 152 v151) 153 v153) 154 v154) 155 v155) 156 v156) 157 v156) 158 v158) 159 v159) 160 v160) 161 v161) 162 v162) 129 (e_2 23)) 130 v130) 23 v130) h_30)
                ) (
                  K (.bool true) h_16))
              (pt (pt (pt (pt (pt (pt (pt (pt (pt (pt (pt (pt (pt (pt (pt (pt (pt (pt (pt (pt (pt (pt (pt (pt (pt (pt (pt (pt (pt (pt (pt (pt (pt (pt (pt (pt (pt (pt (pt (pt (pt (pt (pt (pt (pt (pt (pt (pt (pt (pt (pt (pt (pt (pt e_1 69 (e_1 21)) 70 (e_1 2)) 71 v71) 72 v72) 73 v73) 78 (e_1 15)) 79 (e_1 2)) 80 (e_1 3)) 81 v81) 82 (e_1 15)) 83 (e_1 16)) 84 v84) 85 (e_1 15)) 86 (e_1 16)) 87 v87) 88 (e_1 5)) 89 v89) 90 (e_1 15)) 91 (e_1 16)) 92 v92) 93 v93) 94 (e_1 6)) 95 (e_1 15)) 96 (e_1 16)) 97 v97) 98 (e_1 17)) 99 v99) 100 (e_1 15)) 101 (e_1 16)) 102 v102) 103 v103) 104 (e_1 15)) 105 (e_1 17)) 106 v106) 107 (e_1 17)) 108 (e_1 15)) 109 v109) 110 (e_1 15)) 111 (e_1 15)) 112 (e_1 15)) 113 v113) 114 v114) 115 v115) 116 v116) 117 (e_1 6)) 118 v118) 119 (e_1 18)) 120 (e_1 20)) 121 v121) 122 (e_1 18)) 123 v123) 124 (.slice (some ⟨i_1, 0, none⟩) 12 12)) 22 (.slice (some ⟨i_1, 0, none⟩) 12 12)) 23 (.int .i64 0)) h_15))
          (pt (pt (pt (pt (pt (pt (pt e 54 (e 19)) 55 (e 2)) 56 v56) 57 v57) 58 v58) 20 (.string (bs []))) 21 (.int .i64 0)) h_11))
      (pt (pt (pt (pt (pt (pt (pt (pt (pt (pt (pt (pt (pt (pt (pt (pt (pt (pt (pt (pt (pt (pt (pt (pt (pt (pt (pt (pt (pt (pt (envOf [a0, a1, a2, a3, a4, a5, a6]) 14 (.bool false)) 30 v30) 31 v31) 32 a5) 33 v33) 34 v34) 35 v34) 36 v36) 37 v37) 38 v38) 39 v39) 40 a0) 41 a1) 42 v42) 43 v43) 15 v43) 44 a4) 45 v43) 46 v46) 47 v47) 48 v48) 16 v48) 49 (.slice (some ⟨i, 0, none⟩) 18 18)) 50 a2) 51 v51) 52 v52) 53 v53) 17 v53) 18 (.string (bs [114, 111, 111, 116, 32, 97, 59]))) 19 (.int .i64 0)) h_9))
theorem ee3 (X : CallT) (a0 a1 a2 a3 a4 a5 a6 : Value) (h : AH) (K : Value → AH → Prop) : cwp2 Try.prog X (Try.f3.body.getD .skip) (endW Try.prog Try.f3 K) (envOf [a0, a1, a2, a3, a4, a5, a6]) h = s3 X a0 a1 a2 a3 a4 a5 a6 h K := by kernel_rfl
theorem c3 {a0 a1 a2 a3 a4 a5 a6 : Value} {h : AH} {K : Value → AH → Prop} (hs : s3 (callW Try.prog) a0 a1 a2 a3 a4 a5 a6 h K) : callW Try.prog 3 [a0, a1, a2, a3, a4, a5, a6] h K := callW_of Try.func3 (by kernel_rfl) (Eq.mpr (ee3 _ a0 a1 a2 a3 a4 a5 a6 _ _) hs)

/-- canopy/canopylaw8.SchemaKnown () -/
def s5 (X : CallT) (a0 : Value) (h : AH) (K : Value → AH → Prop) : Prop :=
  X 12 [] h fun v10 h_1 =>
  optW (pUn .not v10) fun v11 =>
  condW v11 (
    K (.bool false) h_1
  ) (
    optW (bldSl 1 [(.string (bs []))] 20 [(0, (.string (bs []))), (1, (.string (bs [114, 111, 111, 116]))), (2, (.string (bs [114, 111, 111, 116, 32, 97]))), (3, (.string (bs [114, 111, 111, 116, 32, 97, 59]))), (4, (.string (bs [114, 111, 111, 116, 32, 97, 59, 32, 101, 108, 101, 109, 101, 110, 116]))), (5, (.string (bs [114, 111, 111, 116, 32, 97, 59, 32, 101, 108, 101, 109, 101, 110, 116, 32, 97]))), (6, (.string (bs [114, 111, 111, 116, 32, 97, 59, 32, 101, 108, 101, 109, 101, 110, 116, 32, 97, 32, 61]))), (7, (.string (bs [114, 111, 111, 116, 32, 97, 59, 32, 101, 108, 101, 109, 101, 110, 116, 32, 97, 32, 61, 32, 59]))), (8, (.string (bs [114, 111, 111, 116, 32, 97, 59, 32, 101, 108, 101, 109, 101, 110, 116, 32, 97, 32, 61, 32, 101, 109, 112, 116, 121]))), (9, (.string (bs [114, 111, 111, 116, 32, 97, 59, 32, 101, 108, 101, 109, 101, 110, 116, 32, 97, 32, 61, 32, 98, 59]))), (10, (.string (bs [114, 111, 111, 116, 32, 98, 59, 32, 101, 108, 101, 109, 101, 110, 116, 32, 97, 32, 61, 32, 97, 59]))), (11, (.string (bs [114, 111, 111, 116, 32, 97, 59, 32, 101, 108, 101, 109, 101, 110, 116, 32, 97, 32, 61, 32, 97, 59, 32, 101, 108, 101, 109, 101, 110, 116, 32, 97, 32, 61, 32, 97, 59]))), (12, (.string (bs [114, 111, 111, 116, 32, 97, 110, 121, 59, 32, 101, 108, 101, 109, 101, 110, 116, 32, 97, 32, 61, 32, 97, 59]))), (13, (.string (bs [114, 111, 111, 116, 32, 97, 59, 32, 101, 108, 101, 109, 101, 110, 116, 32, 97, 32, 61, 32, 97, 42, 42, 59]))), (14, (.string (bs [114, 111, 111, 116, 32, 97, 59, 32, 101, 108, 101, 109, 101, 110, 116, 32, 97, 32, 61, 32, 97, 44, 59]))), (15, (.string (bs [114, 111, 111, 116, 32, 97, 59, 32, 101, 108, 101, 109, 101, 110, 116, 32, 97, 32, 61, 32, 40, 97, 59]))), (16, (.string (bs [114, 111, 111, 116, 32, 97, 59, 32, 101, 108, 101, 109, 101, 110, 116, 32, 97, 32, 61, 32, 97, 41, 59]))), (17, (.string (bs [82, 111, 111, 116, 32, 97, 59]))), (18, (.string (bs [114, 111, 111, 116, 32, 97, 59, 32, 101, 108, 101, 109, 101, 110, 116, 115, 32, 97, 32, 61, 32, 97, 59]))), (19, (.string (bs [114, 111, 111, 116, 32, 97, 98, 99, 100, 101, 102, 103, 104, 105, 59])))]) fun c =>
    newW none (.row c true) h_1 fun i h_2 =>
    optW (bldSl 1 [(.int .i64 0)] 20 [(0, (.int .i64 0)), (1, (.int .i64 4)), (2, (.int .i64 6)), (3, (.int .i64 0)), (4, (.int .i64 15)), (5, (.int .i64 17)), (6, (.int .i64 19)), (7, (.int .i64 20)), (8, (.int .i64 25)), (9, (.int .i64 0)), (10, (.int .i64 0)), (11, (.int .i64 31)), (12, (.int .i64 5)), (13, (.int .i64 22)), (14, (.int .i64 22)), (15, (.int .i64 22)), (16, (.int .i64 21)), (17, (.int .i64 0)), (18, (.int .i64 8)), (19, (.int .i64 5))]) fun c_1 =>
    newW none (.row c_1 true) h_2 fun i_1 h_3 =>
    optW (bldSl 1 [(.int .i64 0)] 20 [(0, (.int .i64 1)), (1, (.int .i64 1)), (2, (.int .i64 1)), (3, (.int .i64 6)), (4, (.int .i64 1)), (5, (.int .i64 1)), (6, (.int .i64 1)), (7, (.int .i64 1)), (8, (.int .i64 1)), (9, (.int .i64 6)), (10, (.int .i64 6)), (11, (.int .i64 5)), (12, (.int .i64 1)), (13, (.int .i64 1)), (14, (.int .i64 1)), (15, (.int .i64 1)), (16, (.int .i64 1)), (17, (.int .i64 1)), (18, (.int .i64 1)), (19, (.int .i64 1))]) fun c_2 =>
    newW none (.row c_2 true) h_3 fun i_2 h_4 =>
    optW (lenSl (.slice (some ⟨i, 0, none⟩) 20 20)) fun v17 =>
    X 15 [a0, v17] h_4 fun v18 h_5 =>
    optW (pIdxS 1 (.slice (some ⟨i, 0, none⟩) 20 20) v18) fun v22 =>
    optW (rdRow false 1 v22 h_5) fun v23 =>
    X 17 [v23] h_5 fun v24 h_6 =>
    optW (pExtract v24 0) fun v25 =>
    optW (pExtract v24 1) fun v26 =>
    optW (pExtract v24 2) fun v27 =>
    newR none [(.string (bs [])), (.slice none 0 0)] h_6 fun v7 h_7 =>
    optW (pStore 2 v7 v25 h_7) fun h_8 =>
    optW (pIdxS 1 (.slice (some ⟨i_2, 0, none⟩) 20 20) v18) fun v31 =>
    optW (rdRow false 1 v31 h_8) fun v32 =>
    optW (pBin Try.prog .eql 32 v27 v32) fun v33 =>
    gopW (gB v33 true) (fun k =>
      k v26 h_8) h_8 fun v35 h_9 =>
    gopW (gB v33 true) (fun k_1 =>
      k_1 (.slice (some ⟨i_1, 0, none⟩) 20 20) h_9) h_9 fun v36 h_10 =>
    gopW (gB v33 true) (fun k_2 =>
      k_2 v18 h_10) h_10 fun v37 h_11 =>
    gopW (gB v33 true) (fun k_3 =>
      optW (pIdxS 1 v36 v37) fun v38_1 =>
      k_3 v38_1 h_11) h_11 fun v38 h_12 =>
    gopW (gB v33 true) (fun k_4 =>
      optW (rdRow false 1 v38 h_12) fun v39_1 =>
      k_4 v39_1 h_12) h_12 fun v39 h_13 =>
    gopW (gB v33 true) (fun k_5 =>
      optW (pBin Try.prog .eql 3 v35 v39) fun v40_1 =>
      k_5 v40_1 h_13) h_13 fun v40 h_14 =>
    optW (pPick v33 v40 (.bool false)) fun v41 =>
    gopW (gB v41 true) (fun k_6 =>
      optW (pOff 1 v7) fun v43_1 =>
      k_6 v43_1 h_14) h_14 fun v43 h_15 =>
    gopW (gB v41 true) (fun k_7 =>
      optW (rdRow false 1 v43 h_15) fun v44_1 =>
      k_7 v44_1 h_15) h_15 fun v44 h_16 =>
    gopW (gB v41 true) (fun k_8 =>
      optW (lenSl v44) fun v45_1 =>
      k_8 v45_1 h_16) h_16 fun v45 h_17 =>
    gopW (gB v41 true) (fun k_9 =>
      optW (pBin Try.prog .eql 3 v45 (.int .i64 0)) fun v46_1 =>
      k_9 v46_1 h_17) h_17 fun v46 h_18 =>
    optW (pPick v41 v46 (.bool false)) fun v47 =>
    K v47 h_18)
theorem e5 (X : CallT) (a0 : Value) (h : AH) (K : Value → AH → Prop) : cwp2 Try.prog X (Try.f5.body.getD .skip) (endW Try.prog Try.f5 K) (envOf [a0]) h = s5 X a0 h K := by kernel_rfl
theorem c5 {a0 : Value} {h : AH} {K : Value → AH → Prop} (hs : s5 (callW Try.prog) a0 h K) : callW Try.prog 5 [a0] h K := callW_of Try.func5 (by kernel_rfl) (Eq.mpr (e5 _ a0 _ _) hs)

end Go.Proofs.Ytlenlhlipmkeeaa.W
end
