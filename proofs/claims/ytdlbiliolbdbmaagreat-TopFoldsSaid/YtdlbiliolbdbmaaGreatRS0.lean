/- Parts of a proof, joined by a program. Conditions: none. -/
import Derived.Test.YtdlbiliolbdbmaaGreatRA2
import Derived.Test.YtdlbiliolbdbmaaGreatProg

section
/- Go functions, printed by a program as predicates on what may come behind; each is the function. Conditions: none. -/
namespace Go.Proofs.YtdlbiliolbdbmaaGreat.W
open Go Go.AM
set_option linter.unusedVariables false
set_option maxRecDepth 100000


/-- canopy/canopytop.TopFolds (I at e: live [8, 9], writes [4, 9, 26, 27, 28, 29, 30, 31, 32, 33, 34, 35, 36, 37]; I_1 at e_1: live [10, 11], writes [4, 11, 40, 41, 42, 43, 44, 45, 46, 47, 48, 49, 50]) -/
def s5 (X : CallT) (a0 a1 : Value) (h : AH) (K : Value → AH → Prop) : Prop :=
  X 6 [] h fun v12 h_1 =>
  optW (pUn .not v12) fun v13 =>
  condW v13 (
    K (.bool false) h_1
  ) (
    X 18 [a0, a1] h_1 fun v16 h_2 =>
    newR none [(.int .i64 0), (.int .i64 0), (.slice none 0 0), (.slice none 0 0), (.slice none 0 0), (.slice none 0 0), (.slice none 0 0), (.slice none 0 0)] h_2 fun v5 h_3 =>
    optW (pStore 8 v5 v16 h_3) fun h_4 =>
    optW (rdRow true 8 v5 h_4) fun v18 =>
    X 19 [v18] h_4 fun v19 h_5 =>
    optW (pExtract v19 0) fun v20 =>
    optW (pExtract v19 1) fun v21 =>
    newR none [(.int .i64 0), (.int .i64 0), (.slice none 0 0), (.slice none 0 0), (.slice none 0 0), (.slice none 0 0), (.slice none 0 0), (.slice none 0 0)] h_5 fun v6 h_6 =>
    optW (pStore 8 v6 v20 h_6) fun h_7 =>
    optW (pBin Tryz.prog .neq 35 v21 (.int .i64 0)) fun v23 =>
    condW v23 (
      K (.bool false) h_7
    ) (
      optW (rdRow true 8 v6 h_7) fun v24 =>
      X 20 [v24] h_7 fun v25 h_8 =>
      loopE (fun I e h_9 =>
        optW (lenSl (e 8)) fun v28 =>
        optW (pBin Tryz.prog .lss 3 (e 9) v28) fun v29 =>
        condW v29 (
          optW (pIdxS 1 (e 8) (e 9)) fun v34 =>
          optW (rdRow false 1 v34 h_9) fun v35 =>
          optW (pBin Tryz.prog .neq 3 v35 (e 9)) fun v37 =>
          condW v37 (
            K (.bool false) h_9
          ) (
            optW (pBin Tryz.prog .add 3 (e 9) (.int .i64 1)) fun v31 =>
            I (pt (pt (pt (pt (pt (pt (pt (pt (pt (pt (pt (pt (pt e 26 (e 9)) 27 (e 8)) 28 v28) 29 v29) 32 (e 8)) 33 (e 9)) 34 v34) 35 v35) 36 (e 9)) 37 v37) 30 (e 9)) 31 v31) 9 v31) h_9)
        ) (
          optW (rdRow true 8 (e 6) h_9) fun v38 =>
          X 21 [v38] h_9 fun v39 h_10 =>
          loopE (fun I_1 e_1 h_11 =>
            optW (lenSl (e_1 10)) fun v42 =>
            optW (pBin Tryz.prog .lss 3 (e_1 11) v42) fun v43 =>
            condW v43 (
              optW (pIdxS 1 (e_1 10) (e_1 11)) fun v48 =>
              optW (rdRow false 1 v48 h_11) fun v49 =>
              optW (pUn .not v49) fun v50 =>
              condW v50 (
                K (.bool false) h_11
              ) (
                optW (pBin Tryz.prog .add 3 (e_1 11) (.int .i64 1)) fun v45 =>
                I_1 (pt (pt (pt (pt (pt (pt (pt (pt (pt (pt (pt (pt e_1 40 (e_1 11)) 41 (e_1 10)) 42 v42) 43 v43) 46 (e_1 10)) 47 (e_1 11)) 48 v48) 49 v49) 50 v50) 44 (e_1 11)) 45 v45) 11 v45) h_11)
            ) (
              optW (lenSl (e_1 8)) fun v52 =>
              optW (pOff 2 (e_1 6)) fun v53 =>
              optW (rdRow false 1 v53 h_11) fun v54 =>
              optW (lenSl v54) fun v55 =>
              optW (pBin Tryz.prog .eql 3 v52 v55) fun v56 =>
              gopW (gB v56 true) (fun k =>
                k (e_1 10) h_11) h_11 fun v58 h_12 =>
              gopW (gB v56 true) (fun k_1 =>
                optW (lenSl v58) fun v59_1 =>
                k_1 v59_1 h_12) h_12 fun v59 h_13 =>
              gopW (gB v56 true) (fun k_2 =>
                k_2 (e_1 8) h_13) h_13 fun v60 h_14 =>
              gopW (gB v56 true) (fun k_3 =>
                optW (lenSl v60) fun v61_1 =>
                k_3 v61_1 h_14) h_14 fun v61 h_15 =>
              gopW (gB v56 true) (fun k_4 =>
                optW (pBin Tryz.prog .eql 3 v59 v61) fun v62_1 =>
                k_4 v62_1 h_15) h_15 fun v62 h_16 =>
              optW (pPick v56 v62 (.bool false)) fun v63 =>
              K v63 h_16))
          (pt (pt (pt (pt (pt (pt (pt (pt e 26 (e 9)) 27 (e 8)) 28 v28) 29 v29) 38 v38) 39 v39) 10 v39) 11 (.int .i64 0)) h_10))
      (pt (pt (pt (pt (pt (pt (pt (pt (pt (pt (pt (pt (pt (pt (pt (pt (pt (pt (pt (pt (envOf [a0, a1]) 4 (.bool false)) 12 v12) 13 v13) 14 a0) 15 a1) 16 v16) 5 v5) 18 v18) 19 v19) 17 v19) 20 v20) 21 v21) 6 v6) 7 v21) 22 v21) 23 v23) 24 v24) 25 v25) 8 v25) 9 (.int .i64 0)) h_8))
theorem e5 (X : CallT) (a0 a1 : Value) (h : AH) (K : Value → AH → Prop) : cwp2 Tryz.prog X (Tryz.f5.body.getD .skip) (endW Tryz.prog Tryz.f5 K) (envOf [a0, a1]) h = s5 X a0 a1 h K := by kernel_rfl
theorem c5 {a0 a1 : Value} {h : AH} {K : Value → AH → Prop} (hs : s5 (callW Tryz.prog) a0 a1 h K) : callW Tryz.prog 5 [a0, a1] h K := callW_of Tryz.func5 (by kernel_rfl) (Eq.mpr (e5 _ a0 a1 _ _) hs)

/-- canopy/mix.And () -/
def s12 (X : CallT) (a0 a1 a2 a3 : Value) (h : AH) (K : Value → AH → Prop) : Prop :=
  aBox a1 none h fun v5 h_1 =>
  aBox a2 none h_1 fun v6 h_2 =>
  newR none [(.int .i64 0), (.int .i64 0), (.slice none 0 0), (.slice none 0 0), (.slice none 0 0), (.slice none 0 0), (.slice none 0 0)] h_2 fun v8 h_3 =>
  optW (rdRow true 7 v5 h_3) fun v12 =>
  optW (rdRow true 7 v6 h_3) fun v13 =>
  optW (bldSl 7 [(.int .i64 0), (.int .i64 0), (.slice none 0 0), (.slice none 0 0), (.slice none 0 0), (.slice none 0 0), (.slice none 0 0)] 2 [(0, v12), (1, v13)]) fun c =>
  newW none (.row c true) h_3 fun i h_4 =>
  X 37 [a0, (.slice (some ⟨i, 0, none⟩) 2 2)] h_4 fun v15 h_5 =>
  condW v15 (
    optW (bld [(.int .i64 0), (.int .i64 0), (.slice none 0 0), (.slice none 0 0), (.slice none 0 0), (.slice none 0 0), (.slice none 0 0)] [(0, 1), (1, 1), (2, 1), (3, 1), (4, 1), (5, 1), (6, 1)] []) fun v16 =>
    optW (pStore 7 v8 v16 h_5) fun h_6 =>
    optW (resList Tryz.prog (pt (pt (pt (pt (pt (pt (pt (pt (pt (pt (pt (envOf [a0, a1, a2, a3]) 5 v5) 6 v6) 8 v8) 9 (.int .i64 0)) 11 a0) 12 v12) 13 v13) 14 (.slice (some ⟨i, 0, none⟩) 2 2)) 15 v15) 16 v16) 9 (.int .i64 9)) h_6 Tryz.f12.results.toList) fun vs => K (resOf vs) h_6
  ) (
    optW (rdRow true 7 v5 (reserve 1 h_5)) fun v17 =>
    X 33 [v17] (reserve 1 h_5) fun v18 h_7 =>
    (∀ x ∈ (ceOf 7 v6), vw x (reserve 1 h_5) = vw x h_7) ∧
    optW (rdRow true 7 v6 h_7) fun v19 =>
    X 33 [v19] h_7 fun v20 h_8 =>
    optW (bld [(.int .i64 0), (.int .i64 0), (.slice none 0 0), (.slice none 0 0), (.slice none 0 0), (.slice none 0 0), (.slice none 0 0), (.int .i64 0), (.int .i64 0), (.slice none 0 0), (.slice none 0 0), (.slice none 0 0), (.slice none 0 0), (.slice none 0 0), (.int .i64 0), (.int .i64 0), (.slice none 0 0), (.slice none 0 0), (.slice none 0 0), (.slice none 0 0), (.slice none 0 0)] [(0, 7), (7, 7), (14, 7)] [(0, v18), (1, v20)]) fun v21 =>
    aBox v21 (some (h_5.length)) h_8 fun v22 h_9 =>
    optW (pOff 0 v5) fun v24 =>
    optW (rdRow false 1 v24 h_9) fun v25 =>
    optW (pOff 0 v6) fun v26 =>
    optW (rdRow false 1 v26 h_9) fun v27 =>
    optW (pBin Tryz.prog .mul 3 v25 v27) fun v28 =>
    optW (pOff 1 v5) fun v29 =>
    optW (rdRow false 1 v29 h_9) fun v30 =>
    optW (pOff 1 v6) fun v31 =>
    optW (rdRow false 1 v31 h_9) fun v32 =>
    optW (pBin Tryz.prog .mul 3 v30 v32) fun v33 =>
    optW (pNilCheck v22) fun v36 =>
    optW (pOff 0 v36) fun v37 =>
    optW (pOff 2 v37) fun v38 =>
    optW (rdRow false 1 v38 h_9) fun v39 =>
    optW (pNilCheck v22) fun v41 =>
    optW (pOff 7 v41) fun v42 =>
    optW (pOff 2 v42) fun v43 =>
    optW (rdRow false 1 v43 h_9) fun v44 =>
    X 38 [v22, v39, v44] h_9 fun v45 h_10 =>
    (∀ x ∈ (ceOf 1 v31), vw x h_9 = vw x h_10) ∧
    (∀ x ∈ (ceOf 1 v29), vw x h_9 = vw x h_10) ∧
    (∀ x ∈ (ceOf 1 v26), vw x h_9 = vw x h_10) ∧
    (∀ x ∈ (ceOf 1 v24), vw x h_9 = vw x h_10) ∧
    optW (pNilCheck v22) fun v48 =>
    optW (pOff 0 v48) fun v49 =>
    optW (pOff 3 v49) fun v50 =>
    (∀ x ∈ (ceOf 1 v50), vw x h_9 = vw x h_10) ∧
    optW (rdRow false 1 v50 h_10) fun v51 =>
    optW (pNilCheck v22) fun v53 =>
    optW (pOff 7 v53) fun v54 =>
    optW (pOff 3 v54) fun v55 =>
    (∀ x ∈ (ceOf 1 v55), vw x h_9 = vw x h_10) ∧
    optW (rdRow false 1 v55 h_10) fun v56 =>
    X 38 [v22, v51, v56] h_10 fun v57 h_11 =>
    (∀ x ∈ (ceOf 1 v31), vw x h_10 = vw x h_11) ∧
    (∀ x ∈ (ceOf 1 v29), vw x h_10 = vw x h_11) ∧
    (∀ x ∈ (ceOf 1 v26), vw x h_10 = vw x h_11) ∧
    (∀ x ∈ (ceOf 1 v24), vw x h_10 = vw x h_11) ∧
    optW (bld [(.int .i64 0), (.int .i64 0), (.slice none 0 0), (.slice none 0 0), (.slice none 0 0), (.slice none 0 0), (.slice none 0 0)] [(0, 1), (1, 1), (2, 1), (3, 1), (4, 1), (5, 1), (6, 1)] [(0, v28), (1, v33), (2, v45), (3, v57)]) fun v58 =>
    optW (pNilCheck v22) fun v59 =>
    optW (pOff 14 v59) fun v60 =>
    optW (pStore 7 v60 v58 h_11) fun h_12 =>
    optW (pNilCheck v22) fun v62 =>
    optW (pOff 14 v62) fun v63 =>
    optW (rdRow true 7 v63 h_12) fun v64 =>
    X 39 [v64] h_12 fun v65 h_13 =>
    X 40 [v65, a3] h_13 fun v67 h_14 =>
    condW v67 (
      optW (bld [(.int .i64 0), (.int .i64 0), (.slice none 0 0), (.slice none 0 0), (.slice none 0 0), (.slice none 0 0), (.slice none 0 0)] [(0, 1), (1, 1), (2, 1), (3, 1), (4, 1), (5, 1), (6, 1)] []) fun v68 =>
      optW (pStore 7 v8 v68 h_14) fun h_15 =>
      optW (resList Tryz.prog (pt (pt (pt (pt (pt (pt (pt (pt (pt (pt (pt (pt (pt (pt (pt (pt (pt (pt (pt (pt (pt (pt (pt (pt (pt (pt (pt (pt (pt (pt (pt (pt (pt (pt (pt (pt (pt (pt (pt (pt (pt (pt (pt (pt (pt (pt (pt (pt (pt (pt (pt (pt (pt (pt (pt (pt (pt (pt (pt (pt (pt (pt (pt (envOf [a0, a1, a2, a3]) 5 v5) 6 v6) 8 v8) 9 (.int .i64 0)) 11 a0) 12 v12) 13 v13) 14 (.slice (some ⟨i, 0, none⟩) 2 2)) 15 v15) 17 v17) 18 v18) 19 v19) 20 v20) 21 v21) 22 v22) 10 v22) 23 v22) 24 v24) 25 v25) 26 v26) 27 v27) 28 v28) 29 v29) 30 v30) 31 v31) 32 v32) 33 v33) 34 v22) 35 v22) 36 v36) 37 v37) 38 v38) 39 v39) 40 v22) 41 v41) 42 v42) 43 v43) 44 v44) 45 v45) 46 v22) 47 v22) 48 v48) 49 v49) 50 v50) 51 v51) 52 v22) 53 v53) 54 v54) 55 v55) 56 v56) 57 v57) 58 v58) 59 v59) 60 v60) 61 v22) 62 v62) 63 v63) 64 v64) 65 v65) 66 a3) 67 v67) 68 v68) 9 (.int .i64 10)) h_15 Tryz.f12.results.toList) fun vs => K (resOf vs) h_15
    ) (
      X 41 [v22] h_14 fun v70 h_16 =>
      optW (pNilCheck v22) fun v72 =>
      optW (pOff 14 v72) fun v73 =>
      optW (rdRow true 7 v73 h_16) fun v74 =>
      X 39 [v74] h_16 fun v75 h_17 =>
      X 40 [v75, a3] h_17 fun v77 h_18 =>
      condW v77 (
        optW (bld [(.int .i64 0), (.int .i64 0), (.slice none 0 0), (.slice none 0 0), (.slice none 0 0), (.slice none 0 0), (.slice none 0 0)] [(0, 1), (1, 1), (2, 1), (3, 1), (4, 1), (5, 1), (6, 1)] []) fun v78 =>
        optW (pStore 7 v8 v78 h_18) fun h_19 =>
        optW (resList Tryz.prog (pt (pt (pt (pt (pt (pt (pt (pt (pt (pt (pt (pt (pt (pt (pt (pt (pt (pt (pt (pt (pt (pt (pt (pt (pt (pt (pt (pt (pt (pt (pt (pt (pt (pt (pt (pt (pt (pt (pt (pt (pt (pt (pt (pt (pt (pt (pt (pt (pt (pt (pt (pt (pt (pt (pt (pt (pt (pt (pt (pt (pt (pt (pt (pt (pt (pt (pt (pt (pt (pt (pt (pt (envOf [a0, a1, a2, a3]) 5 v5) 6 v6) 8 v8) 9 (.int .i64 0)) 11 a0) 12 v12) 13 v13) 14 (.slice (some ⟨i, 0, none⟩) 2 2)) 15 v15) 17 v17) 18 v18) 19 v19) 20 v20) 21 v21) 22 v22) 10 v22) 23 v22) 24 v24) 25 v25) 26 v26) 27 v27) 28 v28) 29 v29) 30 v30) 31 v31) 32 v32) 33 v33) 34 v22) 35 v22) 36 v36) 37 v37) 38 v38) 39 v39) 40 v22) 41 v41) 42 v42) 43 v43) 44 v44) 45 v45) 46 v22) 47 v22) 48 v48) 49 v49) 50 v50) 51 v51) 52 v22) 53 v53) 54 v54) 55 v55) 56 v56) 57 v57) 58 v58) 59 v59) 60 v60) 61 v22) 62 v62) 63 v63) 64 v64) 65 v65) 66 a3) 67 v67) 69 v22) 70 v70) 71 v22) 72 v72) 73 v73) 74 v74) 75 v75) 76 a3) 77 v77) 78 v78) 9 (.int .i64 10)) h_19 Tryz.f12.results.toList) fun vs => K (resOf vs) h_19
      ) (
        optW (pNilCheck v22) fun v80 =>
        optW (pOff 14 v80) fun v81 =>
        optW (rdRow true 7 v81 h_18) fun v82 =>
        X 33 [v82] h_18 fun v83 h_20 =>
        optW (pStore 7 v8 v83 h_20) fun h_21 =>
        optW (resList Tryz.prog (pt (pt (pt (pt (pt (pt (pt (pt (pt (pt (pt (pt (pt (pt (pt (pt (pt (pt (pt (pt (pt (pt (pt (pt (pt (pt (pt (pt (pt (pt (pt (pt (pt (pt (pt (pt (pt (pt (pt (pt (pt (pt (pt (pt (pt (pt (pt (pt (pt (pt (pt (pt (pt (pt (pt (pt (pt (pt (pt (pt (pt (pt (pt (pt (pt (pt (pt (pt (pt (pt (pt (pt (pt (pt (pt (pt (envOf [a0, a1, a2, a3]) 5 v5) 6 v6) 8 v8) 9 (.int .i64 0)) 11 a0) 12 v12) 13 v13) 14 (.slice (some ⟨i, 0, none⟩) 2 2)) 15 v15) 17 v17) 18 v18) 19 v19) 20 v20) 21 v21) 22 v22) 10 v22) 23 v22) 24 v24) 25 v25) 26 v26) 27 v27) 28 v28) 29 v29) 30 v30) 31 v31) 32 v32) 33 v33) 34 v22) 35 v22) 36 v36) 37 v37) 38 v38) 39 v39) 40 v22) 41 v41) 42 v42) 43 v43) 44 v44) 45 v45) 46 v22) 47 v22) 48 v48) 49 v49) 50 v50) 51 v51) 52 v22) 53 v53) 54 v54) 55 v55) 56 v56) 57 v57) 58 v58) 59 v59) 60 v60) 61 v22) 62 v62) 63 v63) 64 v64) 65 v65) 66 a3) 67 v67) 69 v22) 70 v70) 71 v22) 72 v72) 73 v73) 74 v74) 75 v75) 76 a3) 77 v77) 79 v22) 80 v80) 81 v81) 82 v82) 83 v83) 9 (.int .i64 0)) h_21 Tryz.f12.results.toList) fun vs => K (resOf vs) h_21)))
theorem e12 (X : CallT) (a0 a1 a2 a3 : Value) (h : AH) (K : Value → AH → Prop) : cwp2 Tryz.prog X (Tryz.f12.body.getD .skip) (endW Tryz.prog Tryz.f12 K) (envOf [a0, a1, a2, a3]) h = s12 X a0 a1 a2 a3 h K := by kernel_rfl
theorem c12 {a0 a1 a2 a3 : Value} {h : AH} {K : Value → AH → Prop} (hs : s12 (callW Tryz.prog) a0 a1 a2 a3 h K) : callW Tryz.prog 12 [a0, a1, a2, a3] h K := callW_of Tryz.func12 (by kernel_rfl) (Eq.mpr (e12 _ a0 a1 a2 a3 _ _) hs)

end Go.Proofs.YtdlbiliolbdbmaaGreat.W
end

section
/- Go functions, printed by a program as predicates on what may come behind; each is the function. Conditions: none. -/
namespace Go.Proofs.YtdlbiliolbdbmaaGreat.W
open Go Go.AM
set_option linter.unusedVariables false
set_option maxRecDepth 100000

end Go.Proofs.YtdlbiliolbdbmaaGreat.W
end

section
/- Go functions, printed by a program as predicates on what may come behind; each is the function. Conditions: none. -/
namespace Go.Proofs.YtdlbiliolbdbmaaGreat.W
open Go Go.AM
set_option linter.unusedVariables false
set_option maxRecDepth 100000


/-- canopy/fold.closings$1 () -/
def s144 (X : CallT) (a0 a1 : Value) (h : AH) (K : Value → AH → Prop) : Prop :=
  aBox a0 none h fun v2 h_1 =>
  K (.func (.func 145) #[] #[a1, v2]) h_1
theorem e144 (X : CallT) (a0 a1 : Value) (h : AH) (K : Value → AH → Prop) : cwp2 Tryz.prog X (Tryz.f144.body.getD .skip) (endW Tryz.prog Tryz.f144 K) (envOf [a0, a1]) h = s144 X a0 a1 h K := by kernel_rfl
theorem c144 {a0 a1 : Value} {h : AH} {K : Value → AH → Prop} (hs : s144 (callW Tryz.prog) a0 a1 h K) : callW Tryz.prog 144 [a0, a1] h K := callW_of Tryz.func144 (by kernel_rfl) (Eq.mpr (e144 _ a0 a1 _ _) hs)

/-- canopy/fold.closings$1$1 () -/
def s145 (X : CallT) (a0 a1 a2 a3 : Value) (h : AH) (K : Value → AH → Prop) : Prop :=
  optW (pOff 2 a2) fun v8 =>
  optW (rdRow false 1 v8 h) fun v9 =>
  optW (lenSl v9) fun v10 =>
  X 93 [a1, v10] h fun v11 h_1 =>
  gopD (gB v11 true) (fun k =>
    optW (pOff 2 a2) fun v13_1 =>
    k v13_1 h_1 ((4, h, h_1) :: []) ((2, (ceOf 1 v8)) :: [])) h_1 ((4, h, h_1) :: []) ((2, (ceOf 1 v8)) :: []) fun v13 h_2 H S =>
  gopD (gB v11 true) (fun k_1 =>
    histC #[0, 0, 2, 6, 15, 31, 63, 127, 63, 511, 1023, 63, 4095, 8191, 16383] 7 (ceOf 1 v13) H (
      optW (rdRow false 1 v13 h_2) fun v14_1 =>
      k_1 v14_1 h_2 H ((7, (ceOf 1 v13)) :: S))) h_2 H S fun v14 h_3 H_1 S_1 =>
  gopD (gB v11 true) (fun k_2 =>
    k_2 a1 h_3 H_1 S_1) h_3 H_1 S_1 fun v15 h_4 H_2 S_2 =>
  gopD (gB v11 true) (fun k_3 =>
    optW (pIdxS 1 v14 v15) fun v16_1 =>
    k_3 v16_1 h_4 H_2 S_2) h_4 H_2 S_2 fun v16 h_5 H_3 S_3 =>
  gopD (gB v11 true) (fun k_4 =>
    histC #[0, 0, 2, 6, 15, 31, 63, 127, 63, 511, 1023, 63, 4095, 8191, 16383] 10 (ceOf 1 v16) H_3 (
      optW (rdRow false 1 v16 h_5) fun v17_1 =>
      k_4 v17_1 h_5 H_3 ((10, (ceOf 1 v16)) :: S_3))) h_5 H_3 S_3 fun v17 h_6 H_4 S_4 =>
  gopD (gB v11 true) (fun k_5 =>
    histC #[0, 0, 2, 6, 15, 31, 63, 127, 63, 511, 1023, 63, 4095, 8191, 16383] 11 (ceOf 1 a3) H_4 (
      optW (rdRow false 1 a3 h_6) fun v18_1 =>
      k_5 v18_1 h_6 H_4 ((11, (ceOf 1 a3)) :: S_4))) h_6 H_4 S_4 fun v18 h_7 H_5 S_5 =>
  gopD (gB v11 true) (fun k_6 =>
    optW (pBin Tryz.prog .eql 3 v17 v18) fun v19_1 =>
    k_6 v19_1 h_7 H_5 S_5) h_7 H_5 S_5 fun v19 h_8 H_6 S_6 =>
  optW (pPick v11 v19 (.bool false)) fun v20 =>
  K v20 h_8
theorem e145 (X : CallT) (a0 a1 a2 a3 : Value) (h : AH) (K : Value → AH → Prop) : cwp2 Tryz.prog X (Tryz.f145.body.getD .skip) (endW Tryz.prog Tryz.f145 K) (envOf [a0, a1, a2, a3]) h = s145 X a0 a1 a2 a3 h K := by kernel_rfl
theorem c145 {a0 a1 a2 a3 : Value} {h : AH} {K : Value → AH → Prop} (hs : s145 (callW Tryz.prog) a0 a1 a2 a3 h K) : callW Tryz.prog 145 [a0, a1, a2, a3] h K := callW_of Tryz.func145 (by kernel_rfl) (Eq.mpr (e145 _ a0 a1 a2 a3 _ _) hs)

/-- canopy/fold.closings$2 () -/
def s146 (X : CallT) (a0 a1 a2 a3 : Value) (h : AH) (K : Value → AH → Prop) : Prop :=
  optW (pOff 2 a2) fun v8 =>
  optW (rdRow false 1 v8 h) fun v9 =>
  optW (lenSl v9) fun v10 =>
  optW (pBin Tryz.prog .lss 3 a0 v10) fun v11 =>
  gopD (gB v11 true) (fun k =>
    optW (rdRow false 1 a3 h) fun v13_1 =>
    k v13_1 h [] ((6, (ceOf 1 a3)) :: ((2, (ceOf 1 v8)) :: []))) h [] ((2, (ceOf 1 v8)) :: []) fun v13 h_1 H S =>
  gopD (gB v11 true) (fun k_1 =>
    optW (pOff 2 a2) fun v14_1 =>
    k_1 v14_1 h_1 H S) h_1 H S fun v14 h_2 H_1 S_1 =>
  gopD (gB v11 true) (fun k_2 =>
    histC #[0, 0, 2, 6, 15, 31, 63, 63, 191, 63, 959, 1983, 4095, 63, 63, 32767, 65535, 131071] 8 (ceOf 1 v14) H_1 (
      optW (rdRow false 1 v14 h_2) fun v15_1 =>
      k_2 v15_1 h_2 H_1 ((8, (ceOf 1 v14)) :: S_1))) h_2 H_1 S_1 fun v15 h_3 H_2 S_2 =>
  gopD (gB v11 true) (fun k_3 =>
    k_3 a0 h_3 H_2 S_2) h_3 H_2 S_2 fun v16 h_4 H_3 S_3 =>
  gopD (gB v11 true) (fun k_4 =>
    optW (pIdxS 1 v15 v16) fun v17_1 =>
    k_4 v17_1 h_4 H_3 S_3) h_4 H_3 S_3 fun v17 h_5 H_4 S_4 =>
  gopD (gB v11 true) (fun k_5 =>
    histC #[0, 0, 2, 6, 15, 31, 63, 63, 191, 63, 959, 1983, 4095, 63, 63, 32767, 65535, 131071] 11 (ceOf 1 v17) H_4 (
      optW (rdRow false 1 v17 h_5) fun v18_1 =>
      k_5 v18_1 h_5 H_4 ((11, (ceOf 1 v17)) :: S_4))) h_5 H_4 S_4 fun v18 h_6 H_5 S_5 =>
  gopD (gB v11 true) (fun k_6 =>
    callV X v13 [v18] h_6 fun v19_1 h_8 =>
    readC #[0, 0, 2, 6, 15, 31, 63, 63, 191, 63, 959, 1983, 4095, 63, 63, 32767, 65535, 131071] 12 h_6 h_8 S_5 (
      k_6 v19_1 h_8 ((12, h_6, h_8) :: H_5) S_5)) h_6 H_5 S_5 fun v19 h_7 H_6 S_6 =>
  gopD (gB v11 true) (fun k_7 =>
    k_7 a0 h_7 H_6 S_6) h_7 H_6 S_6 fun v20 h_9 H_7 S_7 =>
  gopD (gB v11 true) (fun k_8 =>
    k_8 a1 h_9 H_7 S_7) h_9 H_7 S_7 fun v21 h_10 H_8 S_8 =>
  gopD (gB v11 true) (fun k_9 =>
    callV X v19 [v20, v21] h_10 fun v22_1 h_12 =>
    readC #[0, 0, 2, 6, 15, 31, 63, 63, 191, 63, 959, 1983, 4095, 63, 63, 32767, 65535, 131071] 15 h_10 h_12 S_8 (
      k_9 v22_1 h_12 ((15, h_10, h_12) :: H_8) S_8)) h_10 H_8 S_8 fun v22 h_11 H_9 S_9 =>
  optW (pPick v11 v22 (.bool false)) fun v23 =>
  K v23 h_11
theorem e146 (X : CallT) (a0 a1 a2 a3 : Value) (h : AH) (K : Value → AH → Prop) : cwp2 Tryz.prog X (Tryz.f146.body.getD .skip) (endW Tryz.prog Tryz.f146 K) (envOf [a0, a1, a2, a3]) h = s146 X a0 a1 a2 a3 h K := by kernel_rfl
theorem c146 {a0 a1 a2 a3 : Value} {h : AH} {K : Value → AH → Prop} (hs : s146 (callW Tryz.prog) a0 a1 a2 a3 h K) : callW Tryz.prog 146 [a0, a1, a2, a3] h K := callW_of Tryz.func146 (by kernel_rfl) (Eq.mpr (e146 _ a0 a1 a2 a3 _ _) hs)

/-- (*canopy/fold.parting).round$1 () -/
def s147 (X : CallT) (a0 a1 a2 a3 : Value) (h : AH) (K : Value → AH → Prop) : Prop :=
  optW (rdRow false 1 a1 h) fun v6 =>
  optW (pOff 5 a2) fun v7 =>
  optW (rdRow false 1 v7 h) fun v8 =>
  optW (pIdxS 1 v8 a0) fun v10 =>
  optW (rdRow false 1 v10 h) fun v11 =>
  optW (rdRow false 1 a3 h) fun v12 =>
  optW (pIdxS 1 v11 v12) fun v13 =>
  optW (rdRow false 1 v13 h) fun v14 =>
  optW (pIdxS 1 v6 v14) fun v15 =>
  optW (rdRow false 1 v15 h) fun v16 =>
  K v16 h
theorem e147 (X : CallT) (a0 a1 a2 a3 : Value) (h : AH) (K : Value → AH → Prop) : cwp2 Tryz.prog X (Tryz.f147.body.getD .skip) (endW Tryz.prog Tryz.f147 K) (envOf [a0, a1, a2, a3]) h = s147 X a0 a1 a2 a3 h K := by kernel_rfl
theorem c147 {a0 a1 a2 a3 : Value} {h : AH} {K : Value → AH → Prop} (hs : s147 (callW Tryz.prog) a0 a1 a2 a3 h K) : callW Tryz.prog 147 [a0, a1, a2, a3] h K := callW_of Tryz.func147 (by kernel_rfl) (Eq.mpr (e147 _ a0 a1 a2 a3 _ _) hs)

/-- (*canopy/fold.parting).round$2 () -/
def s148 (X : CallT) (a0 a1 a2 a3 : Value) (h : AH) (K : Value → AH → Prop) : Prop :=
  optW (pOff 2 a1) fun v6 =>
  optW (rdRow false 1 v6 h) fun v7 =>
  optW (pIdxS 1 v7 a0) fun v9 =>
  optW (rdRow false 1 v9 h) fun v10 =>
  optW (pBin Tryz.prog .eql 3 v10 (.int .i64 0)) fun v11 =>
  condW v11 (
    optW (rdRow false 1 a2 h) fun v12 =>
    optW (pOff 6 a1) fun v13 =>
    optW (rdRow false 1 v13 h) fun v14 =>
    optW (pIdxS 1 v14 a0) fun v16 =>
    optW (rdRow false 1 v16 h) fun v17 =>
    optW (rdRow false 1 a3 h) fun v18 =>
    optW (pIdxS 1 v17 v18) fun v19 =>
    optW (rdRow false 1 v19 h) fun v20 =>
    optW (pIdxS 1 v12 v20) fun v21 =>
    optW (rdRow false 1 v21 h) fun v22 =>
    K v22 h
  ) (
    K (.int .i64 0) h)
theorem e148 (X : CallT) (a0 a1 a2 a3 : Value) (h : AH) (K : Value → AH → Prop) : cwp2 Tryz.prog X (Tryz.f148.body.getD .skip) (endW Tryz.prog Tryz.f148 K) (envOf [a0, a1, a2, a3]) h = s148 X a0 a1 a2 a3 h K := by kernel_rfl
theorem c148 {a0 a1 a2 a3 : Value} {h : AH} {K : Value → AH → Prop} (hs : s148 (callW Tryz.prog) a0 a1 a2 a3 h K) : callW Tryz.prog 148 [a0, a1, a2, a3] h K := callW_of Tryz.func148 (by kernel_rfl) (Eq.mpr (e148 _ a0 a1 a2 a3 _ _) hs)

/-- (*canopy/fold.parting).round$3 () -/
def s149 (X : CallT) (a0 a1 a2 a3 a4 : Value) (h : AH) (K : Value → AH → Prop) : Prop :=
  optW (pOff 2 a1) fun v7 =>
  optW (rdRow false 1 v7 h) fun v8 =>
  optW (pIdxS 1 v8 a0) fun v10 =>
  optW (rdRow false 1 v10 h) fun v11 =>
  optW (pBin Tryz.prog .eql 3 v11 (.int .i64 0)) fun v12 =>
  condW v12 (
    K (.int .i64 0) h
  ) (
    optW (rdRow false 1 a2 h) fun v13 =>
    optW (pOff 7 a1) fun v14 =>
    optW (rdRow false 1 v14 h) fun v15 =>
    optW (pIdxS 1 v15 a0) fun v17 =>
    optW (rdRow false 1 v17 h) fun v18 =>
    optW (rdRow false 1 a3 h) fun v19 =>
    optW (pIdxS 1 v18 v19) fun v20 =>
    optW (rdRow false 1 v20 h) fun v21 =>
    optW (rdRow false 1 a4 h) fun v22 =>
    optW (pIdxS 1 v21 v22) fun v23 =>
    optW (rdRow false 1 v23 h) fun v24 =>
    optW (pIdxS 1 v13 v24) fun v25 =>
    optW (rdRow false 1 v25 h) fun v26 =>
    K v26 h)
theorem e149 (X : CallT) (a0 a1 a2 a3 a4 : Value) (h : AH) (K : Value → AH → Prop) : cwp2 Tryz.prog X (Tryz.f149.body.getD .skip) (endW Tryz.prog Tryz.f149 K) (envOf [a0, a1, a2, a3, a4]) h = s149 X a0 a1 a2 a3 a4 h K := by kernel_rfl
theorem c149 {a0 a1 a2 a3 a4 : Value} {h : AH} {K : Value → AH → Prop} (hs : s149 (callW Tryz.prog) a0 a1 a2 a3 a4 h K) : callW Tryz.prog 149 [a0, a1, a2, a3, a4] h K := callW_of Tryz.func149 (by kernel_rfl) (Eq.mpr (e149 _ a0 a1 a2 a3 a4 _ _) hs)

/-- (*canopy/fold.parting).round$4 () -/
def s150 (X : CallT) (a0 a1 a2 a3 a4 : Value) (h : AH) (K : Value → AH → Prop) : Prop :=
  optW (rdRow false 1 a1 h) fun v7 =>
  optW (pOff 7 a2) fun v8 =>
  optW (rdRow false 1 v8 h) fun v9 =>
  optW (rdRow false 1 a3 h) fun v10 =>
  optW (pIdxS 1 v9 v10) fun v11 =>
  optW (rdRow false 1 v11 h) fun v12 =>
  optW (rdRow false 1 a4 h) fun v13 =>
  optW (pIdxS 1 v12 v13) fun v14 =>
  optW (rdRow false 1 v14 h) fun v15 =>
  optW (pIdxS 1 v15 a0) fun v17 =>
  optW (rdRow false 1 v17 h) fun v18 =>
  optW (pIdxS 1 v7 v18) fun v19 =>
  optW (rdRow false 1 v19 h) fun v20 =>
  K v20 h
theorem e150 (X : CallT) (a0 a1 a2 a3 a4 : Value) (h : AH) (K : Value → AH → Prop) : cwp2 Tryz.prog X (Tryz.f150.body.getD .skip) (endW Tryz.prog Tryz.f150 K) (envOf [a0, a1, a2, a3, a4]) h = s150 X a0 a1 a2 a3 a4 h K := by kernel_rfl
theorem c150 {a0 a1 a2 a3 a4 : Value} {h : AH} {K : Value → AH → Prop} (hs : s150 (callW Tryz.prog) a0 a1 a2 a3 a4 h K) : callW Tryz.prog 150 [a0, a1, a2, a3, a4] h K := callW_of Tryz.func150 (by kernel_rfl) (Eq.mpr (e150 _ a0 a1 a2 a3 a4 _ _) hs)

/-- slices.Concat[[]int,int] (I at e: live [3, 9, 10, 11], writes [3, 5, 11, 12, 13, 14, 15, 16, 17, 18, 19, 20, 21, 22]; I_1 at e_1: live [6, 25, 26, 27], writes [6, 8, 27, 28, 29, 30, 31, 32, 33, 34]) -/
def s64 (X : CallT) (a0 : Value) (h : AH) (K : Value → AH → Prop) : Prop :=
  optW (lenSl a0) fun v10 =>
  loopE (fun I e h_1 =>
    optW (pBin Tryz.prog .lss 3 (e 11) (e 10)) fun v12 =>
    condW v12 (
      optW (pIdxS 1 (e 9) (e 11)) fun v13 =>
      optW (rdRow false 1 v13 h_1) fun v14 =>
      optW (lenSl v14) fun v17 =>
      optW (pBin Tryz.prog .add 3 (e 3) v17) fun v18 =>
      optW (pBin Tryz.prog .lss 3 v18 (.int .i64 0)) fun v20 =>
      condW v20 (
        False
      ) (
        optW (pBin Tryz.prog .add 3 (e 11) (.int .i64 1)) fun v22 =>
        I (pt (pt (pt (pt (pt (pt (pt (pt (pt (pt (pt (pt (pt e 12 v12) 13 v13) 14 v14) 5 v14) 15 (e 3)) 16 v14) 17 v17) 18 v18) 3 v18) 19 v18) 20 v20) 22 v22) 11 v22) h_1)
    ) (
      X 116 [(.slice none 0 0), (e 3)] h_1 fun v24 h_2 =>
      optW (lenSl (e 0)) fun v26 =>
      loopE (fun I_1 e_1 h_3 =>
        optW (pBin Tryz.prog .lss 3 (e_1 27) (e_1 26)) fun v28 =>
        condW v28 (
          optW (pIdxS 1 (e_1 25) (e_1 27)) fun v29 =>
          optW (rdRow false 1 v29 h_3) fun v30 =>
          appSl 1 (e_1 6) v30 h_3 fun v33 h_4 =>
          optW (pBin Tryz.prog .add 3 (e_1 27) (.int .i64 1)) fun v34 =>
          I_1 (pt (pt (pt (pt (pt (pt (pt (pt (pt (pt e_1 28 v28) 29 v29) 30 v30) 8 v30) 31 (e_1 6)) 32 v30) 33 v33) 6 v33) 34 v34) 27 v34) h_4
        ) (
          K (e_1 6) h_3))
      (pt (pt (pt (pt (pt (pt (pt e 12 v12) 23 (e 3)) 24 v24) 6 v24) 25 (e 0)) 26 v26) 27 (.int .i64 0)) h_2))
  (pt (pt (pt (pt (pt (envOf [a0]) 2 (.slice none 0 0)) 3 (.int .i64 0)) 9 a0) 10 v10) 11 (.int .i64 0)) h
theorem e64 (X : CallT) (a0 : Value) (h : AH) (K : Value → AH → Prop) : cwp2 Tryz.prog X (Tryz.f64.body.getD .skip) (endW Tryz.prog Tryz.f64 K) (envOf [a0]) h = s64 X a0 h K := by kernel_rfl
theorem c64 {a0 : Value} {h : AH} {K : Value → AH → Prop} (hs : s64 (callW Tryz.prog) a0 h K) : callW Tryz.prog 64 [a0] h K := callW_of Tryz.func64 (by kernel_rfl) (Eq.mpr (e64 _ a0 _ _) hs)

end Go.Proofs.YtdlbiliolbdbmaaGreat.W
end

section
/- Go functions, printed by a program as predicates on what may come behind; each is the function. Conditions: none. -/
namespace Go.Proofs.YtdlbiliolbdbmaaGreat.W
open Go Go.AM
set_option linter.unusedVariables false
set_option maxRecDepth 100000


/-- canopy/canopylaw13.Make (I at e: live [5, 6, 7, 8, 9, 10], writes [10, 11, 50, 51, 52, 53, 54, 55, 56, 57, 58, 59, 60, 61, 62, 63, 64, 65, 66, 67, 68, 69, 70, 71, 72, 73, 74, 75, 76, 77, 78, 79, 80, 81, 82, 83, 84]; I_1 at e_1: live [5, 6, 8, 9, 12], writes [12, 85, 86, 87, 88, 89, 90, 91, 92, 93, 94, 95, 96, 97, 98, 99, 100, 101, 102, 103, 104, 105, 106]; I_2 at e_2: live [5, 7, 8, 9, 13], writes [13, 14, 15, 16, 17, 18, 19, 20, 21, 22, 23, 107, 108, 109, 110, 111, 112, 113, 114, 115, 116, 117, 118, 119, 120, 121, 122, 123, 124, 125, 126, 127, 128, 129, 130, 131, 132, 133, 134, 135, 136, 137, 138, 139, 140, 141, 142, 143, 144, 145, 146, 147, 148, 149, 150, 151, 152, 153, 154, 155, 156, 157, 158, 159, 160, 161, 162, 163, 164, 165, 166, 167, 168, 169, 170, 171, 172, 173, 174, 175, 176, 177, 178, 179, 180, 181, 182, 183, 184, 185, 186, 187, 188, 189, 190, 191, 192, 193, 194, 195, 196, 197, 198, 199, 200, 201, 202, 203, 204, 205, 206, 207, 208, 209, 210, 211, 212, 213, 214, 215, 216, 217, 218]; I_3 at e_3: live [5, 8, 14, 15, 18], writes [15, 18, 120, 121, 122, 123, 124, 125, 126, 127, 128, 129, 130, 131, 132, 133, 134, 135]; I_4 at e_4: live [5, 8, 13, 14, 16, 19], writes [16, 19, 136, 137, 138, 139, 140, 141, 142, 143, 144, 145, 146, 147, 148, 149, 150, 151, 152, 153, 154, 155, 156, 157, 158, 159]; I_5 at e_5: live [5, 7, 8, 9, 13, 17, 20], writes [17, 20, 21, 22, 23, 160, 161, 162, 163, 164, 165, 166, 167, 168, 169, 170, 171, 172, 173, 174, 175, 176, 177, 178, 179, 180, 181, 182, 183, 184, 185, 186, 187, 188, 189, 190, 191, 192, 193, 194, 195, 196, 197, 198, 199, 200]; I_6 at e_6: live [5, 7, 8, 9, 21, 22], writes [21, 22, 23, 174, 175, 176, 177, 178, 179, 180, 181, 182, 183, 184, 185, 186, 187, 188, 189, 190, 191, 192, 193, 194, 195, 196]) -/
def s18 (X : CallT) (a0 a1 : Value) (h : AH) (K : Value → AH → Prop) : Prop :=
  newR none [(.int .i64 0), (.int .i64 0), (.slice none 0 0), (.slice none 0 0), (.slice none 0 0), (.slice none 0 0), (.slice none 0 0), (.slice none 0 0)] h fun v4 h_1 =>
  X 46 [a0, (.int .i64 3)] h_1 fun v25 h_2 =>
  optW (pBin Tryz.prog .quo 3 a0 (.int .i64 3)) fun v27 =>
  X 46 [v27, (.int .i64 3)] h_2 fun v28 h_3 =>
  optW (bld [(.int .i64 0), (.int .i64 0), (.slice none 0 0), (.slice none 0 0), (.slice none 0 0), (.slice none 0 0), (.slice none 0 0), (.slice none 0 0)] [(0, 1), (1, 1), (2, 1), (3, 1), (4, 1), (5, 1), (6, 1), (7, 1)] [(0, v25), (1, v28)]) fun v29 =>
  newR none [(.int .i64 0), (.int .i64 0), (.slice none 0 0), (.slice none 0 0), (.slice none 0 0), (.slice none 0 0), (.slice none 0 0), (.slice none 0 0)] h_3 fun v5 h_4 =>
  optW (pStore 8 v5 v29 h_4) fun h_5 =>
  optW (pBin Tryz.prog .quo 3 a0 (.int .i64 9)) fun v31 =>
  X 46 [v31, (.int .i64 3)] h_5 fun v32 h_6 =>
  optW (pBin Tryz.prog .add 3 (.int .i64 1) v32) fun v33 =>
  optW (pBin Tryz.prog .quo 3 a0 (.int .i64 27)) fun v36 =>
  X 46 [v36, (.int .i64 6)] h_6 fun v37 h_7 =>
  optW (pBin Tryz.prog .add 3 v33 v37) fun v38 =>
  optW (bld [(.slice none 0 0), (.int .i64 0)] [(0, 1), (1, 1)] [(0, a1)]) fun v40 =>
  aBox v40 none h_7 fun v41 h_8 =>
  optW (mkSl 1 8 [(.int .i64 0)] v38 v38) fun c =>
  newW (some (h_8.length)) (.row c.2.2 true) (reserve 2 h_8) fun i h_9 =>
  optW (mkSl 1 8 [(.int .i64 0)] v33 v33) fun c_1 =>
  newW (some (h_8.length + 1)) (.row c_1.2.2 true) h_9 fun i_1 h_10 =>
  optW (pOff 2 v5) fun v46 =>
  (∀ x ∈ (obOf v46), vw x h_9 = vw x h_10) ∧
  optW (pStore 1 v46 (.slice (some ⟨i, 0, none⟩) c.1 c.2.1) h_10) fun h_11 =>
  optW (pOff 3 v5) fun v47 =>
  optW (pStore 1 v47 (.slice (some ⟨i_1, 0, none⟩) c_1.1 c_1.2.1) h_11) fun h_12 =>
  optW (mkSl 1 24 [(.slice none 0 0)] v33 v33) fun c_2 =>
  newW none (.row c_2.2.2 true) h_12 fun i_2 h_13 =>
  loopE (fun I e h_14 =>
    optW (pBin Tryz.prog .lss 3 (e 10) (e 7)) fun v52 =>
    condW v52 (
      optW (pBin Tryz.prog .geq 3 (e 10) (e 6)) fun v58 =>
      condW v58 (
        X 47 [(e 8), (e 6)] h_14 fun v61 h_15 =>
        optW (pOff 2 (e 5)) fun v62 =>
        optW (rdRow false 1 v62 h_15) fun v63 =>
        optW (pIdxS 1 v63 (e 10)) fun v66 =>
        optW (pStore 1 v66 v61 h_15) fun h_16 =>
        optW (pIdxS 1 (e 9) v61) fun v71 =>
        optW (rdRow false 1 v71 h_16) fun v72 =>
        optW (bldSl 1 [(.int .i64 0)] 1 [(0, (e 10))]) fun c_3 =>
        newW none (.row c_3 true) h_16 fun i_3 h_17 =>
        appSl 1 v72 (.slice (some ⟨i_3, 0, none⟩) 1 1) h_17 fun v75 h_18 =>
        optW (pIdxS 1 (e 9) v61) fun v76 =>
        optW (pStore 1 v76 v75 h_18) fun h_19 =>
        optW (pOff 4 (e 5)) fun v77 =>
        optW (rdRow false 1 v77 (reserve 1 h_19)) fun v78 =>
        X 47 [(e 8), (.int .i64 3)] (reserve 1 h_19) fun v80 h_20 =>
        (∀ x ∈ (ceOf 1 v77), vw x (reserve 1 h_19) = vw x h_20) ∧
        optW (pBin Tryz.prog .eql 3 v80 (.int .i64 0)) fun v81 =>
        optW (bldSl 1 [(.bool false)] 1 [(0, v81)]) fun c_4 =>
        newW (some (h_19.length)) (.row c_4 true) h_20 fun i_4 h_21 =>
        appSl 1 v78 (.slice (some ⟨i_4, 0, none⟩) 1 1) h_21 fun v83 h_22 =>
        optW (pOff 4 (e 5)) fun v84 =>
        optW (pStore 1 v84 v83 h_22) fun h_23 =>
        optW (pBin Tryz.prog .add 3 (e 10) (.int .i64 1)) fun v54 =>
        I (pt (pt (pt (pt (pt (pt (pt (pt (pt (pt (pt (pt (pt (pt (pt (pt (pt (pt (pt (pt (pt (pt (pt (pt (pt (pt (pt (pt (pt (pt (pt (pt (pt (pt (pt (pt (pt (pt e 50 (e 10)) 51 (e 7)) 52 v52) 55 (e 10)) 11 (e 10)) 56 (e 10)) 57 (e 6)) 58 v58) 59 (e 8)) 60 (e 6)) 61 v61) 11 v61) 62 v62) 63 v63) 64 (e 10)) 65 v61) 66 v66) 67 (e 9)) 68 v61) 69 (e 9)) 70 v61) 71 v71) 72 v72) 73 (e 10)) 74 (.slice (some ⟨i_3, 0, none⟩) 1 1)) 75 v75) 76 v76) 77 v77) 78 v78) 79 (e 8)) 80 v80) 81 v81) 82 (.slice (some ⟨i_4, 0, none⟩) 1 1)) 83 v83) 84 v84) 53 (e 10)) 54 v54) 10 v54) h_23
      ) (
        optW (pOff 2 (e 5)) fun v62_1 =>
        optW (rdRow false 1 v62_1 h_14) fun v63_1 =>
        optW (pIdxS 1 v63_1 (e 10)) fun v66_1 =>
        optW (pStore 1 v66_1 (e 10) h_14) fun h_24 =>
        optW (pIdxS 1 (e 9) (e 10)) fun v71_1 =>
        optW (rdRow false 1 v71_1 h_24) fun v72_1 =>
        optW (bldSl 1 [(.int .i64 0)] 1 [(0, (e 10))]) fun c_5 =>
        newW none (.row c_5 true) h_24 fun i_5 h_25 =>
        appSl 1 v72_1 (.slice (some ⟨i_5, 0, none⟩) 1 1) h_25 fun v75_1 h_26 =>
        optW (pIdxS 1 (e 9) (e 10)) fun v76_1 =>
        optW (pStore 1 v76_1 v75_1 h_26) fun h_27 =>
        optW (pOff 4 (e 5)) fun v77_1 =>
        optW (rdRow false 1 v77_1 (reserve 1 h_27)) fun v78_1 =>
        X 47 [(e 8), (.int .i64 3)] (reserve 1 h_27) fun v80_1 h_28 =>
        (∀ x ∈ (ceOf 1 v77_1), vw x (reserve 1 h_27) = vw x h_28) ∧
        optW (pBin Tryz.prog .eql 3 v80_1 (.int .i64 0)) fun v81_1 =>
        optW (bldSl 1 [(.bool false)] 1 [(0, v81_1)]) fun c_6 =>
        newW (some (h_27.length)) (.row c_6 true) h_28 fun i_6 h_29 =>
        appSl 1 v78_1 (.slice (some ⟨i_6, 0, none⟩) 1 1) h_29 fun v83_1 h_30 =>
        optW (pOff 4 (e 5)) fun v84_1 =>
        optW (pStore 1 v84_1 v83_1 h_30) fun h_31 =>
        optW (pBin Tryz.prog .add 3 (e 10) (.int .i64 1)) fun v54_1 =>
        I (pt (pt (pt (pt (pt (pt (pt (pt (pt (pt (pt (pt (pt (pt (pt (pt (pt (pt (pt (pt (pt (pt (pt (pt (pt (pt (pt (pt (pt (pt (pt (pt (pt (pt e 50 (e 10)) 51 (e 7)) 52 v52) 55 (e 10)) 11 (e 10)) 56 (e 10)) 57 (e 6)) 58 v58) 62 v62_1) 63 v63_1) 64 (e 10)) 65 (e 10)) 66 v66_1) 67 (e 9)) 68 (e 10)) 69 (e 9)) 70 (e 10)) 71 v71_1) 72 v72_1) 73 (e 10)) 74 (.slice (some ⟨i_5, 0, none⟩) 1 1)) 75 v75_1) 76 v76_1) 77 v77_1) 78 v78_1) 79 (e 8)) 80 v80_1) 81 v81_1) 82 (.slice (some ⟨i_6, 0, none⟩) 1 1)) 83 v83_1) 84 v84_1) 53 (e 10)) 54 v54_1) 10 v54_1) h_31)
    ) (
      loopE (fun I_1 e_1 h_32 =>
        optW (pBin Tryz.prog .lss 3 (e_1 12) (e_1 6)) fun v87 =>
        condW v87 (
          optW (pOff 3 (e_1 5)) fun v90 =>
          optW (rdRow false 1 v90 h_32) fun v91 =>
          optW (pIdxS 1 (e_1 9) (e_1 12)) fun v95 =>
          optW (rdRow false 1 v95 h_32) fun v96 =>
          optW (pIdxS 1 (e_1 9) (e_1 12)) fun v100 =>
          optW (rdRow false 1 v100 h_32) fun v101 =>
          optW (lenSl v101) fun v102 =>
          X 47 [(e_1 8), v102] h_32 fun v103 h_33 =>
          (∀ x ∈ (ceOf 1 v95), vw x h_32 = vw x h_33) ∧
          (∀ x ∈ (ceOf 1 v90), vw x h_32 = vw x h_33) ∧
          optW (pIdxS 1 v96 v103) fun v104 =>
          optW (rdRow false 1 v104 h_33) fun v105 =>
          optW (pIdxS 1 v91 (e_1 12)) fun v106 =>
          optW (pStore 1 v106 v105 h_33) fun h_34 =>
          optW (pBin Tryz.prog .add 3 (e_1 12) (.int .i64 1)) fun v89 =>
          I_1 (pt (pt (pt (pt (pt (pt (pt (pt (pt (pt (pt (pt (pt (pt (pt (pt (pt (pt (pt (pt (pt (pt (pt e_1 85 (e_1 12)) 86 (e_1 6)) 87 v87) 90 v90) 91 v91) 92 (e_1 12)) 93 (e_1 9)) 94 (e_1 12)) 95 v95) 96 v96) 97 (e_1 8)) 98 (e_1 9)) 99 (e_1 12)) 100 v100) 101 v101) 102 v102) 103 v103) 104 v104) 105 v105) 106 v106) 88 (e_1 12)) 89 v89) 12 v89) h_34
        ) (
          loopE (fun I_2 e_2 h_35 =>
            optW (pBin Tryz.prog .lss 3 (e_2 13) (e_2 7)) fun v109 =>
            condW v109 (
              optW (pOff 2 (e_2 5)) fun v113 =>
              optW (rdRow false 1 v113 h_35) fun v114 =>
              optW (pIdxS 1 v114 (e_2 13)) fun v116 =>
              optW (rdRow false 1 v116 h_35) fun v117 =>
              optW (pIdxS 1 (e_2 9) v117) fun v118 =>
              optW (rdRow false 1 v118 h_35) fun v119 =>
              loopE (fun I_3 e_3 h_36 =>
                optW (pOff 0 (e_3 5)) fun v121 =>
                optW (rdRow false 1 v121 h_36) fun v122 =>
                optW (pBin Tryz.prog .lss 3 (e_3 18) v122) fun v123 =>
                condW v123 (
                  optW (lenSl (e_3 14)) fun v130 =>
                  X 47 [(e_3 8), v130] h_36 fun v131 h_37 =>
                  optW (pIdxS 1 (e_3 14) v131) fun v132 =>
                  optW (rdRow false 1 v132 h_37) fun v133 =>
                  optW (bldSl 1 [(.int .i64 0)] 1 [(0, v133)]) fun c_7 =>
                  newW none (.row c_7 true) h_37 fun i_7 h_38 =>
                  appSl 1 (e_3 15) (.slice (some ⟨i_7, 0, none⟩) 1 1) h_38 fun v135 h_39 =>
                  optW (pBin Tryz.prog .add 3 (e_3 18) (.int .i64 1)) fun v125 =>
                  I_3 (pt (pt (pt (pt (pt (pt (pt (pt (pt (pt (pt (pt (pt (pt (pt (pt (pt (pt e_3 120 (e_3 18)) 121 v121) 122 v122) 123 v123) 126 (e_3 15)) 127 (e_3 14)) 128 (e_3 8)) 129 (e_3 14)) 130 v130) 131 v131) 132 v132) 133 v133) 134 (.slice (some ⟨i_7, 0, none⟩) 1 1)) 135 v135) 15 v135) 124 (e_3 18)) 125 v125) 18 v125) h_39
                ) (
                  loopE (fun I_4 e_4 h_40 =>
                    optW (pOff 1 (e_4 5)) fun v137 =>
                    optW (rdRow false 1 v137 h_40) fun v138 =>
                    optW (pBin Tryz.prog .lss 3 (e_4 19) v138) fun v139 =>
                    gopW (gB v139 true) (fun k =>
                      optW (pOff 2 (e_4 5)) fun v141_1 =>
                      k v141_1 h_40) h_40 fun v141 h_41 =>
                    gopW (gB v139 true) (fun k_1 =>
                      optW (rdRow false 1 v141 h_41) fun v142_1 =>
                      k_1 v142_1 h_41) h_41 fun v142 h_42 =>
                    gopW (gB v139 true) (fun k_2 =>
                      k_2 (e_4 13) h_42) h_42 fun v143 h_43 =>
                    gopW (gB v139 true) (fun k_3 =>
                      optW (pIdxS 1 v142 v143) fun v144_1 =>
                      k_3 v144_1 h_43) h_43 fun v144 h_44 =>
                    gopW (gB v139 true) (fun k_4 =>
                      optW (rdRow false 1 v144 h_44) fun v145_1 =>
                      k_4 v145_1 h_44) h_44 fun v145 h_45 =>
                    gopW (gB v139 true) (fun k_5 =>
                      optW (pBin Tryz.prog .eql 3 v145 (.int .i64 0)) fun v146_1 =>
                      k_5 v146_1 h_45) h_45 fun v146 h_46 =>
                    optW (pPick v139 v146 (.bool false)) fun v147 =>
                    condW v147 (
                      optW (lenSl (e_4 14)) fun v154 =>
                      X 47 [(e_4 8), v154] h_46 fun v155 h_47 =>
                      optW (pIdxS 1 (e_4 14) v155) fun v156 =>
                      optW (rdRow false 1 v156 h_47) fun v157 =>
                      optW (bldSl 1 [(.int .i64 0)] 1 [(0, v157)]) fun c_8 =>
                      newW none (.row c_8 true) h_47 fun i_8 h_48 =>
                      appSl 1 (e_4 16) (.slice (some ⟨i_8, 0, none⟩) 1 1) h_48 fun v159 h_49 =>
                      optW (pBin Tryz.prog .add 3 (e_4 19) (.int .i64 1)) fun v149 =>
                      I_4 (pt (pt (pt (pt (pt (pt (pt (pt (pt (pt (pt (pt (pt (pt (pt (pt (pt (pt (pt (pt (pt (pt (pt (pt (pt (pt e_4 136 (e_4 19)) 137 v137) 138 v138) 139 v139) 140 v139) 141 v141) 142 v142) 143 v143) 144 v144) 145 v145) 146 v146) 147 v147) 150 (e_4 16)) 151 (e_4 14)) 152 (e_4 8)) 153 (e_4 14)) 154 v154) 155 v155) 156 v156) 157 v157) 158 (.slice (some ⟨i_8, 0, none⟩) 1 1)) 159 v159) 16 v159) 148 (e_4 19)) 149 v149) 19 v149) h_49
                    ) (
                      loopE (fun I_5 e_5 h_50 =>
                        optW (pOff 1 (e_5 5)) fun v161 =>
                        optW (rdRow false 1 v161 h_50) fun v162 =>
                        optW (pBin Tryz.prog .lss 3 (e_5 20) v162) fun v163 =>
                        gopW (gB v163 true) (fun k_6 =>
                          optW (pOff 2 (e_5 5)) fun v165_1 =>
                          k_6 v165_1 h_50) h_50 fun v165 h_51 =>
                        gopW (gB v163 true) (fun k_7 =>
                          optW (rdRow false 1 v165 h_51) fun v166_1 =>
                          k_7 v166_1 h_51) h_51 fun v166 h_52 =>
                        gopW (gB v163 true) (fun k_8 =>
                          k_8 (e_5 13) h_52) h_52 fun v167 h_53 =>
                        gopW (gB v163 true) (fun k_9 =>
                          optW (pIdxS 1 v166 v167) fun v168_1 =>
                          k_9 v168_1 h_53) h_53 fun v168 h_54 =>
                        gopW (gB v163 true) (fun k_10 =>
                          optW (rdRow false 1 v168 h_54) fun v169_1 =>
                          k_10 v169_1 h_54) h_54 fun v169 h_55 =>
                        gopW (gB v163 true) (fun k_11 =>
                          optW (pBin Tryz.prog .gtr 3 v169 (.int .i64 0)) fun v170_1 =>
                          k_11 v170_1 h_55) h_55 fun v170 h_56 =>
                        optW (pPick v163 v170 (.bool false)) fun v171 =>
                        condW v171 (
                          loopE (fun I_6 e_6 h_57 =>
                            optW (pBin Tryz.prog .lss 3 (e_6 22) (e_6 7)) fun v176 =>
                            condW v176 (
                              optW (pOff 2 (e_6 5)) fun v180 =>
                              optW (rdRow false 1 v180 h_57) fun v181 =>
                              optW (pIdxS 1 v181 (e_6 22)) fun v183 =>
                              optW (rdRow false 1 v183 h_57) fun v184 =>
                              optW (pIdxS 1 (e_6 9) v184) fun v185 =>
                              optW (rdRow false 1 v185 h_57) fun v186 =>
                              optW (lenSl v186) fun v191 =>
                              X 47 [(e_6 8), v191] h_57 fun v192 h_58 =>
                              optW (pIdxS 1 v186 v192) fun v193 =>
                              optW (rdRow false 1 v193 h_58) fun v194 =>
                              optW (bldSl 1 [(.int .i64 0)] 1 [(0, v194)]) fun c_9 =>
                              newW none (.row c_9 true) h_58 fun i_9 h_59 =>
                              appSl 1 (e_6 21) (.slice (some ⟨i_9, 0, none⟩) 1 1) h_59 fun v196 h_60 =>
                              optW (pBin Tryz.prog .add 3 (e_6 22) (.int .i64 1)) fun v178 =>
                              I_6 (pt (pt (pt (pt (pt (pt (pt (pt (pt (pt (pt (pt (pt (pt (pt (pt (pt (pt (pt (pt (pt (pt (pt (pt (pt (pt e_6 174 (e_6 22)) 175 (e_6 7)) 176 v176) 179 (e_6 9)) 180 v180) 181 v181) 182 (e_6 22)) 183 v183) 184 v184) 185 v185) 186 v186) 23 v186) 187 (e_6 21)) 188 v186) 189 (e_6 8)) 190 v186) 191 v191) 192 v192) 193 v193) 194 v194) 195 (.slice (some ⟨i_9, 0, none⟩) 1 1)) 196 v196) 21 v196) 177 (e_6 22)) 178 v178) 22 v178) h_60
                            ) (
                              optW (bldSl 1 [(.slice none 0 0)] 1 [(0, (e_6 21))]) fun c_10 =>
                              newW none (.row c_10 true) h_57 fun i_10 h_61 =>
                              appSl 1 (e_6 17) (.slice (some ⟨i_10, 0, none⟩) 1 1) h_61 fun v200 h_62 =>
                              optW (pBin Tryz.prog .add 3 (e_6 20) (.int .i64 1)) fun v173 =>
                              I_5 (pt (pt (pt (pt (pt (pt (pt (pt (pt (pt (pt e_6 174 (e_6 22)) 175 (e_6 7)) 176 v176) 197 (e_6 17)) 198 (e_6 21)) 199 (.slice (some ⟨i_10, 0, none⟩) 1 1)) 200 v200) 17 v200) 172 (e_6 20)) 173 v173) 20 v173) h_62))
                          (pt (pt (pt (pt (pt (pt (pt (pt (pt (pt (pt (pt (pt (pt e_5 160 (e_5 20)) 161 v161) 162 v162) 163 v163) 164 v163) 165 v165) 166 v166) 167 v167) 168 v168) 169 v169) 170 v170) 171 v171) 21 (.slice none 0 0)) 22 (.int .i64 0)) h_56
                        ) (
                          optW (pOff 5 (e_5 5)) fun v201 =>
                          optW (rdRow false 1 v201 (reserve 3 h_56)) fun v202 =>
                          optW (bldSl 1 [(.slice none 0 0)] 1 [(0, (e_5 15))]) fun c_11 =>
                          newW (some (h_56.length)) (.row c_11 true) (reserve 3 h_56) fun i_11 h_63 =>
                          appSl 1 v202 (.slice (some ⟨i_11, 0, none⟩) 1 1) h_63 fun v205 h_64 =>
                          optW (pOff 6 (e_5 5)) fun v206 =>
                          (∀ x ∈ (ceOf 1 v206), vw x h_63 = vw x h_64) ∧
                          (∀ x ∈ (ceOf 1 v206), vw x (reserve 3 h_56) = vw x h_63) ∧
                          optW (rdRow false 1 v206 h_64) fun v207 =>
                          optW (bldSl 1 [(.slice none 0 0)] 1 [(0, (e_5 16))]) fun c_12 =>
                          newW (some (h_56.length + 1)) (.row c_12 true) h_64 fun i_12 h_65 =>
                          appSl 1 v207 (.slice (some ⟨i_12, 0, none⟩) 1 1) h_65 fun v210 h_66 =>
                          optW (pOff 7 (e_5 5)) fun v211 =>
                          (∀ x ∈ (ceOf 1 v211), vw x h_65 = vw x h_66) ∧
                          (∀ x ∈ (ceOf 1 v211), vw x h_64 = vw x h_65) ∧
                          (∀ x ∈ (ceOf 1 v211), vw x h_63 = vw x h_64) ∧
                          (∀ x ∈ (ceOf 1 v211), vw x (reserve 3 h_56) = vw x h_63) ∧
                          optW (rdRow false 1 v211 h_66) fun v212 =>
                          optW (bldSl 1 [(.slice none 0 0)] 1 [(0, (e_5 17))]) fun c_13 =>
                          newW (some (h_56.length + 2)) (.row c_13 true) h_66 fun i_13 h_67 =>
                          appSl 1 v212 (.slice (some ⟨i_13, 0, none⟩) 1 1) h_67 fun v215 h_68 =>
                          optW (pOff 5 (e_5 5)) fun v216 =>
                          optW (pStore 1 v216 v205 h_68) fun h_69 =>
                          optW (pOff 6 (e_5 5)) fun v217 =>
                          optW (pStore 1 v217 v210 h_69) fun h_70 =>
                          optW (pOff 7 (e_5 5)) fun v218 =>
                          optW (pStore 1 v218 v215 h_70) fun h_71 =>
                          optW (pBin Tryz.prog .add 3 (e_5 13) (.int .i64 1)) fun v111 =>
                          I_2 (pt (pt (pt (pt (pt (pt (pt (pt (pt (pt (pt (pt (pt (pt (pt (pt (pt (pt (pt (pt (pt (pt (pt (pt (pt (pt (pt (pt (pt (pt (pt (pt (pt e_5 160 (e_5 20)) 161 v161) 162 v162) 163 v163) 164 v163) 165 v165) 166 v166) 167 v167) 168 v168) 169 v169) 170 v170) 171 v171) 201 v201) 202 v202) 203 (e_5 15)) 204 (.slice (some ⟨i_11, 0, none⟩) 1 1)) 205 v205) 206 v206) 207 v207) 208 (e_5 16)) 209 (.slice (some ⟨i_12, 0, none⟩) 1 1)) 210 v210) 211 v211) 212 v212) 213 (e_5 17)) 214 (.slice (some ⟨i_13, 0, none⟩) 1 1)) 215 v215) 216 v216) 217 v217) 218 v218) 110 (e_5 13)) 111 v111) 13 v111) h_71))
                      (pt (pt (pt (pt (pt (pt (pt (pt (pt (pt (pt (pt (pt e_4 136 (e_4 19)) 137 v137) 138 v138) 139 v139) 140 v139) 141 v141) 142 v142) 143 v143) 144 v144) 145 v145) 146 v146) 147 v147) 20 (.int .i64 0)) h_46))
                  (pt (pt (pt (pt (pt e_3 120 (e_3 18)) 121 v121) 122 v122) 123 v123) 19 (.int .i64 0)) h_36))
              (pt (pt (pt (pt (pt (pt (pt (pt (pt (pt (pt (pt (pt (pt (pt (pt e_2 107 (e_2 13)) 108 (e_2 7)) 109 v109) 112 (e_2 9)) 113 v113) 114 v114) 115 (e_2 13)) 116 v116) 117 v117) 118 v118) 119 v119) 14 v119) 15 (.slice none 0 0)) 16 (.slice none 0 0)) 17 (.slice none 0 0)) 18 (.int .i64 0)) h_35
            ) (
              optW (rdRow true 8 (e_2 5) h_35) fun v219 =>
              optW (pStore 8 (e_2 4) v219 h_35) fun h_72 =>
              optW (resList Tryz.prog (pt (pt (pt (pt e_2 107 (e_2 13)) 108 (e_2 7)) 109 v109) 219 v219) h_72 Tryz.f18.results.toList) fun vs => K (resOf vs) h_72))
          (pt (pt (pt (pt e_1 85 (e_1 12)) 86 (e_1 6)) 87 v87) 13 (.int .i64 0)) h_32))
      (pt (pt (pt (pt e 50 (e 10)) 51 (e 7)) 52 v52) 12 (.int .i64 0)) h_14))
  (pt (pt (pt (pt (pt (pt (pt (pt (pt (pt (pt (pt (pt (pt (pt (pt (pt (pt (pt (pt (pt (pt (pt (pt (pt (pt (pt (pt (pt (pt (pt (pt (pt (envOf [a0, a1]) 4 v4) 24 a0) 25 v25) 26 a0) 27 v27) 28 v28) 29 v29) 5 v5) 30 a0) 31 v31) 32 v32) 33 v33) 6 v33) 34 v33) 35 a0) 36 v36) 37 v37) 38 v38) 7 v38) 39 a1) 40 v40) 41 v41) 8 v41) 42 v38) 43 (.slice (some ⟨i, 0, none⟩) c.1 c.2.1)) 44 v33) 45 (.slice (some ⟨i_1, 0, none⟩) c_1.1 c_1.2.1)) 46 v46) 47 v47) 48 v33) 49 (.slice (some ⟨i_2, 0, none⟩) c_2.1 c_2.2.1)) 9 (.slice (some ⟨i_2, 0, none⟩) c_2.1 c_2.2.1)) 10 (.int .i64 0)) h_13
theorem e18 (X : CallT) (a0 a1 : Value) (h : AH) (K : Value → AH → Prop) : cwp2 Tryz.prog X (Tryz.f18.body.getD .skip) (endW Tryz.prog Tryz.f18 K) (envOf [a0, a1]) h = s18 X a0 a1 h K := by kernel_rfl
theorem c18 {a0 a1 : Value} {h : AH} {K : Value → AH → Prop} (hs : s18 (callW Tryz.prog) a0 a1 h K) : callW Tryz.prog 18 [a0, a1] h K := callW_of Tryz.func18 (by kernel_rfl) (Eq.mpr (e18 _ a0 a1 _ _) hs)

/-- canopy/fold.Small (I at e: live [5, 6, 7], writes [7, 8, 36, 37, 38, 39, 40, 41, 42, 43, 44, 45, 46, 47, 48, 49, 50, 51, 52]; I_1 at e_1: live [1, 5, 6, 9, 10, 63, 64, 65], writes [12, 13, 15, 16, 18, 65, 66, 67, 68, 69, 70, 71, 72, 73, 74, 75, 76, 77, 78, 79, 80, 81, 82, 83, 84, 85, 86, 87, 88, 89, 90, 91, 92, 93, 94, 95, 96, 97, 98, 99, 100, 101, 102, 103, 104, 105, 106, 107, 108, 109, 110, 111, 112, 113, 114, 115, 116, 117, 118, 119, 120, 121, 122, 123, 124, 125, 126, 127, 128, 129, 130, 131, 132, 133, 134, 135, 136, 137, 138, 139, 140, 141, 142, 143, 144, 145, 146, 147, 148, 149, 150, 151, 152, 153, 154, 155, 156]; I_2 at e_2: live [5, 6, 13, 117, 118, 119], writes [13, 15, 16, 18, 119, 120, 121, 122, 123, 124, 125, 126, 127, 128, 129, 130, 131, 132, 133, 134, 135, 136, 137, 138, 139, 140, 141, 142, 143, 144, 145, 146, 147, 148]; I_3 at e_3: live [5, 15, 16, 123, 124, 125], writes [16, 18, 125, 126, 127, 128, 129, 130, 131, 132, 133, 134, 135, 136, 137, 138, 139, 140, 141, 142]) -/
def s19 (X : CallT) (a0 : Value) (h : AH) (K : Value → AH → Prop) : Prop :=
  aBox a0 none h fun v1 h_1 =>
  newR none [(.int .i64 0), (.int .i64 0), (.slice none 0 0), (.slice none 0 0), (.slice none 0 0), (.slice none 0 0), (.slice none 0 0), (.slice none 0 0)] h_1 fun v2 h_2 =>
  optW (rdRow true 8 v1 h_2) fun v19 =>
  X 48 [v19] h_2 fun v20 h_3 =>
  optW (pBin Tryz.prog .neq 35 v20 (.int .i64 0)) fun v22 =>
  condW v22 (
    optW (bld [(.int .i64 0), (.int .i64 0), (.slice none 0 0), (.slice none 0 0), (.slice none 0 0), (.slice none 0 0), (.slice none 0 0), (.slice none 0 0)] [(0, 1), (1, 1), (2, 1), (3, 1), (4, 1), (5, 1), (6, 1), (7, 1)] []) fun v23 =>
    optW (pStore 8 v2 v23 h_3) fun h_4 =>
    optW (resList Tryz.prog (pt (pt (pt (pt (pt (pt (pt (pt (pt (pt (pt (envOf [a0]) 1 v1) 2 v2) 3 (.int .i64 0)) 19 v19) 20 v20) 4 v20) 21 v20) 22 v22) 23 v23) 24 v20) 3 v20) h_4 Tryz.f19.results.toList) fun vs => K (resOf vs) h_4
  ) (
    optW (rdRow true 8 v1 h_3) fun v25 =>
    X 49 [v25] h_3 fun v26 h_5 =>
    newR none [(.pointer none)] h_5 fun v5 h_6 =>
    optW (pStore 1 v5 v26 h_6) fun h_7 =>
    optW (rdRow false 1 v5 h_7) fun v27 =>
    optW (pNilCheck v27) fun v28 =>
    optW (pOff 10 v28) fun v29 =>
    optW (rdRow false 1 v29 h_7) fun v30 =>
    optW (mkSl 1 8 [(.int .i64 0)] v30 v30) fun c =>
    newW none (.row c.2.2 true) h_7 fun i h_8 =>
    optW (pOff 2 v1) fun v32 =>
    optW (rdRow false 1 v32 h_8) fun v33 =>
    optW (lenSl v33) fun v34 =>
    optW (pBin Tryz.prog .sub 3 v34 (.int .i64 1)) fun v35 =>
    loopE (fun I e h_9 =>
      optW (pBin Tryz.prog .geq 3 (e 7) (.int .i64 0)) fun v37 =>
      condW v37 (
        optW (rdRow false 1 (e 5) h_9) fun v40 =>
        optW (pNilCheck v40) fun v41 =>
        optW (pOff 9 v41) fun v42 =>
        optW (rdRow false 1 v42 h_9) fun v43 =>
        optW (pIdxS 1 v43 (e 7)) fun v45 =>
        optW (rdRow false 1 v45 h_9) fun v46 =>
        optW (pBin Tryz.prog .geq 3 v46 (.int .i64 0)) fun v48 =>
        condW v48 (
          optW (pIdxS 1 (e 6) v46) fun v52 =>
          optW (pStore 1 v52 (e 7) h_9) fun h_10 =>
          optW (pBin Tryz.prog .sub 3 (e 7) (.int .i64 1)) fun v39 =>
          I (pt (pt (pt (pt (pt (pt (pt (pt (pt (pt (pt (pt (pt (pt (pt (pt (pt (pt (pt e 36 (e 7)) 37 v37) 40 v40) 41 v41) 42 v42) 43 v43) 44 (e 7)) 45 v45) 46 v46) 8 v46) 47 v46) 48 v48) 49 (e 6)) 50 v46) 51 (e 7)) 52 v52) 38 (e 7)) 39 v39) 7 v39) h_10
        ) (
          optW (pBin Tryz.prog .sub 3 (e 7) (.int .i64 1)) fun v39_1 =>
          I (pt (pt (pt (pt (pt (pt (pt (pt (pt (pt (pt (pt (pt (pt (pt e 36 (e 7)) 37 v37) 40 v40) 41 v41) 42 v42) 43 v43) 44 (e 7)) 45 v45) 46 v46) 8 v46) 47 v46) 48 v48) 38 (e 7)) 39 v39_1) 7 v39_1) h_9)
      ) (
        optW (pOff 0 (e 1)) fun v54 =>
        optW (rdRow false 1 v54 (reserve 1 h_9)) fun v55 =>
        optW (pOff 1 (e 1)) fun v56 =>
        optW (rdRow false 1 v56 (reserve 1 h_9)) fun v57 =>
        optW (pOff 3 (e 1)) fun v59 =>
        optW (rdRow false 1 v59 (reserve 1 h_9)) fun v60 =>
        X 50 [v60, (e 5)] (reserve 1 h_9) fun v61 h_11 =>
        (∀ x ∈ (ceOf 1 v56), vw x (reserve 1 h_9) = vw x h_11) ∧
        (∀ x ∈ (ceOf 1 v54), vw x (reserve 1 h_9) = vw x h_11) ∧
        optW (bld [(.int .i64 0), (.int .i64 0), (.slice none 0 0), (.slice none 0 0), (.slice none 0 0), (.slice none 0 0), (.slice none 0 0), (.slice none 0 0)] [(0, 1), (1, 1), (2, 1), (3, 1), (4, 1), (5, 1), (6, 1), (7, 1)] [(0, v55), (1, v57), (3, v61)]) fun v62 =>
        newR (some (h_9.length)) [(.int .i64 0), (.int .i64 0), (.slice none 0 0), (.slice none 0 0), (.slice none 0 0), (.slice none 0 0), (.slice none 0 0), (.slice none 0 0)] h_11 fun v10 h_12 =>
        optW (pStore 8 v10 v62 h_12) fun h_13 =>
        optW (lenSl (e 6)) fun v64 =>
        loopE (fun I_1 e_1 h_14 =>
          optW (pBin Tryz.prog .lss 3 (e_1 65) (e_1 64)) fun v66 =>
          condW v66 (
            optW (pIdxS 1 (e_1 63) (e_1 65)) fun v67 =>
            optW (rdRow false 1 v67 h_14) fun v68 =>
            optW (pOff 2 (e_1 10)) fun v69 =>
            optW (rdRow false 1 v69 (reserve 1 h_14)) fun v70 =>
            optW (pOff 2 (e_1 1)) fun v71 =>
            optW (rdRow false 1 v71 (reserve 1 h_14)) fun v72 =>
            optW (pIdxS 1 v72 v68) fun v74 =>
            optW (rdRow false 1 v74 (reserve 1 h_14)) fun v75 =>
            optW (bldSl 1 [(.int .i64 0)] 1 [(0, v75)]) fun c_1 =>
            newW (some (h_14.length)) (.row c_1 true) (reserve 1 h_14) fun i_1 h_15 =>
            appSl 1 v70 (.slice (some ⟨i_1, 0, none⟩) 1 1) h_15 fun v77 h_16 =>
            optW (pOff 2 (e_1 10)) fun v78 =>
            optW (pStore 1 v78 v77 h_16) fun h_17 =>
            optW (pOff 4 (e_1 10)) fun v79 =>
            optW (rdRow false 1 v79 (reserve 1 h_17)) fun v80 =>
            optW (pOff 4 (e_1 1)) fun v81 =>
            optW (rdRow false 1 v81 (reserve 1 h_17)) fun v82 =>
            optW (pIdxS 1 v82 v68) fun v84 =>
            optW (rdRow false 1 v84 (reserve 1 h_17)) fun v85 =>
            optW (bldSl 1 [(.bool false)] 1 [(0, v85)]) fun c_2 =>
            newW (some (h_17.length)) (.row c_2 true) (reserve 1 h_17) fun i_2 h_18 =>
            appSl 1 v80 (.slice (some ⟨i_2, 0, none⟩) 1 1) h_18 fun v87 h_19 =>
            optW (pOff 4 (e_1 10)) fun v88 =>
            optW (pStore 1 v88 v87 h_19) fun h_20 =>
            optW (pOff 5 (e_1 10)) fun v89 =>
            optW (rdRow false 1 v89 (reserve 1 h_20)) fun v90 =>
            optW (pOff 5 (e_1 1)) fun v92 =>
            optW (rdRow false 1 v92 (reserve 1 h_20)) fun v93 =>
            optW (pIdxS 1 v93 v68) fun v95 =>
            optW (rdRow false 1 v95 (reserve 1 h_20)) fun v96 =>
            callV X (e_1 9) [v96] (reserve 1 h_20) fun v97 h_21 =>
            (∀ x ∈ (ceOf 1 v89), vw x (reserve 1 h_20) = vw x h_21) ∧
            optW (bldSl 1 [(.slice none 0 0)] 1 [(0, v97)]) fun c_3 =>
            newW (some (h_20.length)) (.row c_3 true) h_21 fun i_3 h_22 =>
            appSl 1 v90 (.slice (some ⟨i_3, 0, none⟩) 1 1) h_22 fun v99 h_23 =>
            optW (pOff 5 (e_1 10)) fun v100 =>
            optW (pStore 1 v100 v99 h_23) fun h_24 =>
            optW (pOff 6 (e_1 10)) fun v101 =>
            optW (rdRow false 1 v101 (reserve 1 h_24)) fun v102 =>
            optW (pOff 6 (e_1 1)) fun v104 =>
            optW (rdRow false 1 v104 (reserve 1 h_24)) fun v105 =>
            optW (pIdxS 1 v105 v68) fun v107 =>
            optW (rdRow false 1 v107 (reserve 1 h_24)) fun v108 =>
            callV X (e_1 9) [v108] (reserve 1 h_24) fun v109 h_25 =>
            (∀ x ∈ (ceOf 1 v101), vw x (reserve 1 h_24) = vw x h_25) ∧
            optW (bldSl 1 [(.slice none 0 0)] 1 [(0, v109)]) fun c_4 =>
            newW (some (h_24.length)) (.row c_4 true) h_25 fun i_4 h_26 =>
            appSl 1 v102 (.slice (some ⟨i_4, 0, none⟩) 1 1) h_26 fun v111 h_27 =>
            optW (pOff 6 (e_1 10)) fun v112 =>
            optW (pStore 1 v112 v111 h_27) fun h_28 =>
            optW (pOff 7 (e_1 1)) fun v113 =>
            optW (rdRow false 1 v113 h_28) fun v114 =>
            optW (pIdxS 1 v114 v68) fun v116 =>
            optW (rdRow false 1 v116 h_28) fun v117 =>
            optW (lenSl v117) fun v118 =>
            loopE (fun I_2 e_2 h_29 =>
              optW (pBin Tryz.prog .lss 3 (e_2 119) (e_2 118)) fun v120 =>
              condW v120 (
                optW (pIdxS 1 (e_2 117) (e_2 119)) fun v121 =>
                optW (rdRow false 1 v121 h_29) fun v122 =>
                optW (lenSl (e_2 6)) fun v124 =>
                loopE (fun I_3 e_3 h_30 =>
                  optW (pBin Tryz.prog .lss 3 (e_3 125) (e_3 124)) fun v126 =>
                  condW v126 (
                    optW (pIdxS 1 (e_3 123) (e_3 125)) fun v127 =>
                    optW (rdRow false 1 v127 h_30) fun v128 =>
                    optW (rdRow false 1 (e_3 5) (reserve 1 h_30)) fun v130 =>
                    optW (pNilCheck v130) fun v131 =>
                    optW (pOff 9 v131) fun v132 =>
                    optW (rdRow false 1 v132 (reserve 1 h_30)) fun v133 =>
                    optW (pIdxS 1 (e_3 15) v128) fun v136 =>
                    optW (rdRow false 1 v136 (reserve 1 h_30)) fun v137 =>
                    optW (pIdxS 1 v133 v137) fun v138 =>
                    optW (rdRow false 1 v138 (reserve 1 h_30)) fun v139 =>
                    optW (bldSl 1 [(.int .i64 0)] 1 [(0, v139)]) fun c_5 =>
                    newW (some (h_30.length)) (.row c_5 true) (reserve 1 h_30) fun i_5 h_31 =>
                    appSl 1 (e_3 16) (.slice (some ⟨i_5, 0, none⟩) 1 1) h_31 fun v141 h_32 =>
                    optW (pBin Tryz.prog .add 3 (e_3 125) (.int .i64 1)) fun v142 =>
                    I_3 (pt (pt (pt (pt (pt (pt (pt (pt (pt (pt (pt (pt (pt (pt (pt (pt (pt (pt (pt (pt e_3 126 v126) 127 v127) 128 v128) 18 v128) 129 (e_3 16)) 130 v130) 131 v131) 132 v132) 133 v133) 134 (e_3 15)) 135 v128) 136 v136) 137 v137) 138 v138) 139 v139) 140 (.slice (some ⟨i_5, 0, none⟩) 1 1)) 141 v141) 16 v141) 142 v142) 125 v142) h_32
                  ) (
                    X 51 [(e_3 16)] h_30 fun v145 h_33 =>
                    optW (bldSl 1 [(.slice none 0 0)] 1 [(0, v145)]) fun c_6 =>
                    newW none (.row c_6 true) h_33 fun i_6 h_34 =>
                    appSl 1 (e_3 13) (.slice (some ⟨i_6, 0, none⟩) 1 1) h_34 fun v147 h_35 =>
                    optW (pBin Tryz.prog .add 3 (e_3 119) (.int .i64 1)) fun v148 =>
                    I_2 (pt (pt (pt (pt (pt (pt (pt (pt (pt e_3 126 v126) 143 (e_3 13)) 144 (e_3 16)) 145 v145) 146 (.slice (some ⟨i_6, 0, none⟩) 1 1)) 147 v147) 13 v147) 148 v148) 119 v148) h_35))
                (pt (pt (pt (pt (pt (pt (pt (pt e_2 120 v120) 121 v121) 122 v122) 15 v122) 16 (.slice none 0 0)) 123 (e_2 6)) 124 v124) 125 (.int .i64 0)) h_29
              ) (
                optW (pOff 7 (e_2 10)) fun v149 =>
                optW (rdRow false 1 v149 (reserve 1 h_29)) fun v150 =>
                X 52 [(e_2 13)] (reserve 1 h_29) fun v152 h_36 =>
                (∀ x ∈ (ceOf 1 v149), vw x (reserve 1 h_29) = vw x h_36) ∧
                optW (bldSl 1 [(.slice none 0 0)] 1 [(0, v152)]) fun c_7 =>
                newW (some (h_29.length)) (.row c_7 true) h_36 fun i_7 h_37 =>
                appSl 1 v150 (.slice (some ⟨i_7, 0, none⟩) 1 1) h_37 fun v154 h_38 =>
                optW (pOff 7 (e_2 10)) fun v155 =>
                optW (pStore 1 v155 v154 h_38) fun h_39 =>
                optW (pBin Tryz.prog .add 3 (e_2 65) (.int .i64 1)) fun v156 =>
                I_1 (pt (pt (pt (pt (pt (pt (pt (pt (pt (pt e_2 120 v120) 149 v149) 150 v150) 151 (e_2 13)) 152 v152) 153 (.slice (some ⟨i_7, 0, none⟩) 1 1)) 154 v154) 155 v155) 156 v156) 65 v156) h_39))
            (pt (pt (pt (pt (pt (pt (pt (pt (pt (pt (pt (pt (pt (pt (pt (pt (pt (pt (pt (pt (pt (pt (pt (pt (pt (pt (pt (pt (pt (pt (pt (pt (pt (pt (pt (pt (pt (pt (pt (pt (pt (pt (pt (pt (pt (pt (pt (pt (pt (pt (pt (pt (pt (pt (pt (pt e_1 66 v66) 67 v67) 68 v68) 12 v68) 69 v69) 70 v70) 71 v71) 72 v72) 73 v68) 74 v74) 75 v75) 76 (.slice (some ⟨i_1, 0, none⟩) 1 1)) 77 v77) 78 v78) 79 v79) 80 v80) 81 v81) 82 v82) 83 v68) 84 v84) 85 v85) 86 (.slice (some ⟨i_2, 0, none⟩) 1 1)) 87 v87) 88 v88) 89 v89) 90 v90) 91 (e_1 9)) 92 v92) 93 v93) 94 v68) 95 v95) 96 v96) 97 v97) 98 (.slice (some ⟨i_3, 0, none⟩) 1 1)) 99 v99) 100 v100) 101 v101) 102 v102) 103 (e_1 9)) 104 v104) 105 v105) 106 v68) 107 v107) 108 v108) 109 v109) 110 (.slice (some ⟨i_4, 0, none⟩) 1 1)) 111 v111) 112 v112) 13 (.slice none 0 0)) 113 v113) 114 v114) 115 v68) 116 v116) 117 v117) 118 v118) 119 (.int .i64 0)) h_28
          ) (
            optW (pOff 2 (e_1 10)) fun v157 =>
            optW (rdRow false 1 v157 h_14) fun v158 =>
            X 51 [v158] h_14 fun v159 h_40 =>
            optW (pOff 4 (e_1 10)) fun v160 =>
            (∀ x ∈ (ceOf 1 v160), vw x h_14 = vw x h_40) ∧
            optW (rdRow false 1 v160 h_40) fun v161 =>
            X 53 [v161] h_40 fun v162 h_41 =>
            optW (pOff 2 (e_1 10)) fun v163 =>
            optW (pStore 1 v163 v159 h_41) fun h_42 =>
            optW (pOff 4 (e_1 10)) fun v164 =>
            optW (pStore 1 v164 v162 h_42) fun h_43 =>
            optW (pOff 5 (e_1 10)) fun v165 =>
            optW (rdRow false 1 v165 h_43) fun v166 =>
            X 52 [v166] h_43 fun v167 h_44 =>
            optW (pOff 6 (e_1 10)) fun v168 =>
            (∀ x ∈ (ceOf 1 v168), vw x h_43 = vw x h_44) ∧
            optW (rdRow false 1 v168 h_44) fun v169 =>
            X 52 [v169] h_44 fun v170 h_45 =>
            optW (pOff 7 (e_1 10)) fun v171 =>
            (∀ x ∈ (ceOf 1 v171), vw x h_44 = vw x h_45) ∧
            (∀ x ∈ (ceOf 1 v171), vw x h_43 = vw x h_44) ∧
            optW (rdRow false 1 v171 h_45) fun v172 =>
            X 54 [v172] h_45 fun v173 h_46 =>
            optW (pOff 5 (e_1 10)) fun v174 =>
            optW (pStore 1 v174 v167 h_46) fun h_47 =>
            optW (pOff 6 (e_1 10)) fun v175 =>
            optW (pStore 1 v175 v170 h_47) fun h_48 =>
            optW (pOff 7 (e_1 10)) fun v176 =>
            optW (pStore 1 v176 v173 h_48) fun h_49 =>
            optW (rdRow true 8 (e_1 10) h_49) fun v177 =>
            optW (pStore 8 (e_1 2) v177 h_49) fun h_50 =>
            optW (resList Tryz.prog (pt (pt (pt (pt (pt (pt (pt (pt (pt (pt (pt (pt (pt (pt (pt (pt (pt (pt (pt (pt (pt (pt (pt e_1 66 v66) 157 v157) 158 v158) 159 v159) 160 v160) 161 v161) 162 v162) 163 v163) 164 v164) 165 v165) 166 v166) 167 v167) 168 v168) 169 v169) 170 v170) 171 v171) 172 v172) 173 v173) 174 v174) 175 v175) 176 v176) 177 v177) 3 (.int .i64 0)) h_50 Tryz.f19.results.toList) fun vs => K (resOf vs) h_50))
        (pt (pt (pt (pt (pt (pt (pt (pt (pt (pt (pt (pt (pt (pt (pt (pt (pt e 36 (e 7)) 37 v37) 53 (.func (.func 50) #[] #[(e 5)])) 9 (.func (.func 50) #[] #[(e 5)])) 54 v54) 55 v55) 56 v56) 57 v57) 58 (.func (.func 50) #[] #[(e 5)])) 59 v59) 60 v60) 61 v61) 62 v62) 10 v10) 63 (e 6)) 64 v64) 65 (.int .i64 0)) h_13))
    (pt (pt (pt (pt (pt (pt (pt (pt (pt (pt (pt (pt (pt (pt (pt (pt (pt (pt (pt (pt (pt (pt (envOf [a0]) 1 v1) 2 v2) 3 (.int .i64 0)) 19 v19) 20 v20) 4 v20) 21 v20) 22 v22) 25 v25) 26 v26) 5 v5) 27 v27) 28 v28) 29 v29) 30 v30) 31 (.slice (some ⟨i, 0, none⟩) c.1 c.2.1)) 6 (.slice (some ⟨i, 0, none⟩) c.1 c.2.1)) 32 v32) 33 v33) 34 v34) 35 v35) 7 v35) h_8)
theorem e19 (X : CallT) (a0 : Value) (h : AH) (K : Value → AH → Prop) : cwp2 Tryz.prog X (Tryz.f19.body.getD .skip) (endW Tryz.prog Tryz.f19 K) (envOf [a0]) h = s19 X a0 h K := by kernel_rfl
theorem c19 {a0 : Value} {h : AH} {K : Value → AH → Prop} (hs : s19 (callW Tryz.prog) a0 h K) : callW Tryz.prog 19 [a0] h K := callW_of Tryz.func19 (by kernel_rfl) (Eq.mpr (e19 _ a0 _ _) hs)

/-- canopy/fold.Classes () -/
def s20 (X : CallT) (a0 : Value) (h : AH) (K : Value → AH → Prop) : Prop :=
  aBox a0 none h fun v1 h_1 =>
  optW (rdRow true 8 v1 h_1) fun v3 =>
  X 48 [v3] h_1 fun v4 h_2 =>
  optW (pBin Tryz.prog .neq 35 v4 (.int .i64 0)) fun v5 =>
  condW v5 (
    K (.slice none 0 0) h_2
  ) (
    optW (rdRow true 8 v1 h_2) fun v6 =>
    X 49 [v6] h_2 fun v7 h_3 =>
    optW (pNilCheck v7) fun v8 =>
    optW (pOff 9 v8) fun v9 =>
    optW (rdRow false 1 v9 h_3) fun v10 =>
    K v10 h_3)
theorem e20 (X : CallT) (a0 : Value) (h : AH) (K : Value → AH → Prop) : cwp2 Tryz.prog X (Tryz.f20.body.getD .skip) (endW Tryz.prog Tryz.f20 K) (envOf [a0]) h = s20 X a0 h K := by kernel_rfl
theorem c20 {a0 : Value} {h : AH} {K : Value → AH → Prop} (hs : s20 (callW Tryz.prog) a0 h K) : callW Tryz.prog 20 [a0] h K := callW_of Tryz.func20 (by kernel_rfl) (Eq.mpr (e20 _ a0 _ _) hs)

/-- canopy/fold.Reached (I at e: live [3, 15, 16, 17], writes [5, 17, 18, 19, 20, 21, 22, 23, 24]; I_1 at e_1: live [1, 3, 26, 27], writes [6, 27, 28, 29, 30, 31, 32, 33, 34, 35, 36, 37, 38, 39, 40, 41, 42, 43]; I_2 at e_2: live [1, 3, 30, 31], writes [6, 31, 32, 33, 34, 35, 36, 37, 38, 39, 40, 41, 42]) -/
def s21 (X : CallT) (a0 : Value) (h : AH) (K : Value → AH → Prop) : Prop :=
  aBox a0 none h fun v1 h_1 =>
  optW (rdRow true 8 v1 h_1) fun v7 =>
  X 48 [v7] h_1 fun v8 h_2 =>
  optW (pBin Tryz.prog .neq 35 v8 (.int .i64 0)) fun v9 =>
  condW v9 (
    K (.slice none 0 0) h_2
  ) (
    optW (pOff 2 v1) fun v10 =>
    optW (rdRow false 1 v10 h_2) fun v11 =>
    optW (lenSl v11) fun v12 =>
    optW (mkSl 1 1 [(.bool false)] v12 v12) fun c =>
    newW none (.row c.2.2 true) h_2 fun i h_3 =>
    optW (pOff 3 v1) fun v14 =>
    optW (rdRow false 1 v14 h_3) fun v15 =>
    optW (lenSl v15) fun v16 =>
    loopE (fun I e h_4 =>
      optW (pBin Tryz.prog .lss 3 (e 17) (e 16)) fun v18 =>
      condW v18 (
        optW (pIdxS 1 (e 15) (e 17)) fun v19 =>
        optW (rdRow false 1 v19 h_4) fun v20 =>
        optW (pIdxS 1 (e 3) v20) fun v23 =>
        optW (pStore 1 v23 (.bool true) h_4) fun h_5 =>
        optW (pBin Tryz.prog .add 3 (e 17) (.int .i64 1)) fun v24 =>
        I (pt (pt (pt (pt (pt (pt (pt (pt (pt e 18 v18) 19 v19) 20 v20) 5 v20) 21 (e 3)) 22 v20) 23 v23) 24 v24) 17 v24) h_5
      ) (
        optW (lenSl (e 3)) fun v26 =>
        loopE (fun I_1 e_1 h_6 =>
          optW (pBin Tryz.prog .lss 3 (e_1 27) (e_1 26)) fun v28 =>
          condW v28 (
            optW (lenSl (e_1 3)) fun v30 =>
            loopE (fun I_2 e_2 h_7 =>
              optW (pBin Tryz.prog .lss 3 (e_2 31) (e_2 30)) fun v32 =>
              condW v32 (
                optW (pIdxS 1 (e_2 3) (e_2 31)) fun v36 =>
                optW (rdRow false 1 v36 h_7) fun v37 =>
                condW v37 (
                  optW (rdRow true 8 (e_2 1) h_7) fun v38 =>
                  X 55 [v38, (e_2 3), (e_2 31)] h_7 fun v41 h_8 =>
                  optW (pBin Tryz.prog .add 3 (e_2 31) (.int .i64 1)) fun v42 =>
                  I_2 (pt (pt (pt (pt (pt (pt (pt (pt (pt (pt (pt (pt (pt e_2 32 v32) 33 (e_2 31)) 6 (e_2 31)) 34 (e_2 3)) 35 (e_2 31)) 36 v36) 37 v37) 38 v38) 39 (e_2 3)) 40 (e_2 31)) 41 v41) 42 v42) 31 v42) h_8
                ) (
                  optW (pBin Tryz.prog .add 3 (e_2 31) (.int .i64 1)) fun v42_1 =>
                  I_2 (pt (pt (pt (pt (pt (pt (pt (pt (pt e_2 32 v32) 33 (e_2 31)) 6 (e_2 31)) 34 (e_2 3)) 35 (e_2 31)) 36 v36) 37 v37) 42 v42_1) 31 v42_1) h_7)
              ) (
                optW (pBin Tryz.prog .add 3 (e_2 27) (.int .i64 1)) fun v43 =>
                I_1 (pt (pt (pt e_2 32 v32) 43 v43) 27 v43) h_7))
            (pt (pt (pt (pt e_1 28 v28) 29 (e_1 3)) 30 v30) 31 (.int .i64 0)) h_6
          ) (
            K (e_1 3) h_6))
        (pt (pt (pt (pt e 18 v18) 25 (e 3)) 26 v26) 27 (.int .i64 0)) h_4))
    (pt (pt (pt (pt (pt (pt (pt (pt (pt (pt (pt (pt (pt (pt (envOf [a0]) 1 v1) 2 (.slice none 0 0)) 7 v7) 8 v8) 9 v9) 10 v10) 11 v11) 12 v12) 13 (.slice (some ⟨i, 0, none⟩) c.1 c.2.1)) 3 (.slice (some ⟨i, 0, none⟩) c.1 c.2.1)) 14 v14) 15 v15) 16 v16) 17 (.int .i64 0)) h_3)
theorem e21 (X : CallT) (a0 : Value) (h : AH) (K : Value → AH → Prop) : cwp2 Tryz.prog X (Tryz.f21.body.getD .skip) (endW Tryz.prog Tryz.f21 K) (envOf [a0]) h = s21 X a0 h K := by kernel_rfl
theorem c21 {a0 : Value} {h : AH} {K : Value → AH → Prop} (hs : s21 (callW Tryz.prog) a0 h K) : callW Tryz.prog 21 [a0] h K := callW_of Tryz.func21 (by kernel_rfl) (Eq.mpr (e21 _ a0 _ _) hs)

end Go.Proofs.YtdlbiliolbdbmaaGreat.W
end

section
/- Go functions, printed by a program as predicates on what may come behind; each is the function. Conditions: none. -/
namespace Go.Proofs.YtdlbiliolbdbmaaGreat.W
open Go Go.AM
set_option linter.unusedVariables false
set_option maxRecDepth 100000

end Go.Proofs.YtdlbiliolbdbmaaGreat.W
end

section
/- Go functions, printed by a program as predicates on what may come behind; each is the function. Conditions: none. -/
namespace Go.Proofs.YtdlbiliolbdbmaaGreat.W
open Go Go.AM
set_option linter.unusedVariables false
set_option maxRecDepth 100000

end Go.Proofs.YtdlbiliolbdbmaaGreat.W
end

section
/- Go functions, printed by a program as predicates on what may come behind; each is the function. Conditions: none. -/
namespace Go.Proofs.YtdlbiliolbdbmaaGreat.W
open Go Go.AM
set_option linter.unusedVariables false
set_option maxRecDepth 100000


/-- canopy/canopylaw13.within () -/
def s46 (X : CallT) (a0 a1 : Value) (h : AH) (K : Value → AH → Prop) : Prop :=
  optW (pBin Tryz.prog .rem 3 a0 a1) fun v8 =>
  optW (pBin Tryz.prog .lss 3 v8 (.int .i64 0)) fun v10 =>
  condW v10 (
    optW (pBin Tryz.prog .add 3 v8 a1) fun v13 =>
    K v13 h
  ) (
    K v8 h)
theorem e46 (X : CallT) (a0 a1 : Value) (h : AH) (K : Value → AH → Prop) : cwp2 Tryz.prog X (Tryz.f46.body.getD .skip) (endW Tryz.prog Tryz.f46 K) (envOf [a0, a1]) h = s46 X a0 a1 h K := by kernel_rfl
theorem c46 {a0 a1 : Value} {h : AH} {K : Value → AH → Prop} (hs : s46 (callW Tryz.prog) a0 a1 h K) : callW Tryz.prog 46 [a0, a1] h K := callW_of Tryz.func46 (by kernel_rfl) (Eq.mpr (e46 _ a0 a1 _ _) hs)

/-- (*canopy/canopylaw13.numbers).get () -/
def s47 (X : CallT) (a0 a1 : Value) (h : AH) (K : Value → AH → Prop) : Prop :=
  optW (pNilCheck a0) fun v6 =>
  optW (pOff 1 v6) fun v7 =>
  optW (rdRow false 1 v7 h) fun v8 =>
  optW (pBin Tryz.prog .add 3 v8 (.int .i64 1)) fun v9 =>
  optW (pNilCheck a0) fun v10 =>
  optW (pOff 1 v10) fun v11 =>
  optW (pStore 1 v11 v9 h) fun h_1 =>
  optW (pNilCheck a0) fun v13 =>
  optW (pOff 1 v13) fun v14 =>
  optW (rdRow false 1 v14 h_1) fun v15 =>
  optW (pNilCheck a0) fun v17 =>
  optW (pOff 0 v17) fun v18 =>
  optW (rdRow false 1 v18 h_1) fun v19 =>
  optW (lenSl v19) fun v20 =>
  optW (pBin Tryz.prog .gtr 3 v15 v20) fun v21 =>
  condW v21 (
    optW (pNilCheck a0) fun v23 =>
    optW (pOff 1 v23) fun v24 =>
    optW (rdRow false 1 v24 h_1) fun v25 =>
    optW (pBin Tryz.prog .rem 3 v25 a1) fun v27 =>
    K v27 h_1
  ) (
    optW (pNilCheck a0) fun v29 =>
    optW (pOff 0 v29) fun v30 =>
    optW (rdRow false 1 v30 h_1) fun v31 =>
    optW (pNilCheck a0) fun v33 =>
    optW (pOff 1 v33) fun v34 =>
    optW (rdRow false 1 v34 h_1) fun v35 =>
    optW (pBin Tryz.prog .sub 3 v35 (.int .i64 1)) fun v36 =>
    optW (pIdxS 1 v31 v36) fun v37 =>
    optW (rdRow false 1 v37 h_1) fun v38 =>
    X 46 [v38, a1] h_1 fun v40 h_2 =>
    K v40 h_2)
theorem e47 (X : CallT) (a0 a1 : Value) (h : AH) (K : Value → AH → Prop) : cwp2 Tryz.prog X (Tryz.f47.body.getD .skip) (endW Tryz.prog Tryz.f47 K) (envOf [a0, a1]) h = s47 X a0 a1 h K := by kernel_rfl
theorem c47 {a0 a1 : Value} {h : AH} {K : Value → AH → Prop} (hs : s47 (callW Tryz.prog) a0 a1 h K) : callW Tryz.prog 47 [a0, a1] h K := callW_of Tryz.func47 (by kernel_rfl) (Eq.mpr (e47 _ a0 a1 _ _) hs)

/-- canopy/fold.Check (I at e: live [1, 3, 85, 86], writes [2, 5, 86, 87, 88, 89, 90, 91, 92, 93, 94, 95, 96, 97, 98, 99, 100, 101, 102, 103, 104, 105]) -/
def s48 (X : CallT) (a0 : Value) (h : AH) (K : Value → AH → Prop) : Prop :=
  aBox a0 none h fun v1 h_1 =>
  optW (pOff 2 v1) fun v6 =>
  optW (rdRow false 1 v6 h_1) fun v7 =>
  optW (lenSl v7) fun v8 =>
  newR none [(.int .i64 0)] h_1 fun v3 h_2 =>
  optW (pStore 1 v3 v8 h_2) fun h_3 =>
  optW (pOff 0 v1) fun v9 =>
  optW (rdRow false 1 v9 h_3) fun v10 =>
  X 93 [v10, (.int .i64 21)] h_3 fun v11 h_4 =>
  gopW (gB v11 true) (fun k =>
    optW (pOff 1 v1) fun v13_1 =>
    k v13_1 h_4) h_4 fun v13 h_5 =>
  gopW (gB v11 true) (fun k_1 =>
    optW (rdRow false 1 v13 h_5) fun v14_1 =>
    k_1 v14_1 h_5) h_5 fun v14 h_6 =>
  gopW (gB v11 true) (fun k_2 =>
    X 93 [v14, (.int .i64 21)] h_6 fun v15_1 h_8 =>
    k_2 v15_1 h_8) h_6 fun v15 h_7 =>
  optW (pPick v11 v15 (.bool false)) fun v16 =>
  gopW (gB v16 true) (fun k_3 =>
    optW (rdRow false 1 v3 h_7) fun v18_1 =>
    k_3 v18_1 h_7) h_7 fun v18 h_9 =>
  gopW (gB v16 true) (fun k_4 =>
    optW (pBin Tryz.prog .geq 3 v18 (.int .i64 1)) fun v19_1 =>
    k_4 v19_1 h_9) h_9 fun v19 h_10 =>
  optW (pPick v16 v19 (.bool false)) fun v20 =>
  gopW (gB v20 true) (fun k_5 =>
    optW (rdRow false 1 v3 h_10) fun v22_1 =>
    k_5 v22_1 h_10) h_10 fun v22 h_11 =>
  gopW (gB v20 true) (fun k_6 =>
    optW (pBin Tryz.prog .leq 3 v22 (.int .i64 60)) fun v23_1 =>
    k_6 v23_1 h_11) h_11 fun v23 h_12 =>
  optW (pPick v20 v23 (.bool false)) fun v24 =>
  gopW (gB v24 true) (fun k_7 =>
    optW (pOff 3 v1) fun v26_1 =>
    k_7 v26_1 h_12) h_12 fun v26 h_13 =>
  gopW (gB v24 true) (fun k_8 =>
    optW (rdRow false 1 v26 h_13) fun v27_1 =>
    k_8 v27_1 h_13) h_13 fun v27 h_14 =>
  gopW (gB v24 true) (fun k_9 =>
    optW (lenSl v27) fun v28_1 =>
    k_9 v28_1 h_14) h_14 fun v28 h_15 =>
  gopW (gB v24 true) (fun k_10 =>
    optW (pBin Tryz.prog .geq 3 v28 (.int .i64 1)) fun v29_1 =>
    k_10 v29_1 h_15) h_15 fun v29 h_16 =>
  optW (pPick v24 v29 (.bool false)) fun v30 =>
  gopW (gB v30 true) (fun k_11 =>
    optW (pOff 3 v1) fun v32_1 =>
    k_11 v32_1 h_16) h_16 fun v32 h_17 =>
  gopW (gB v30 true) (fun k_12 =>
    optW (rdRow false 1 v32 h_17) fun v33_1 =>
    k_12 v33_1 h_17) h_17 fun v33 h_18 =>
  gopW (gB v30 true) (fun k_13 =>
    optW (lenSl v33) fun v34_1 =>
    k_13 v34_1 h_18) h_18 fun v34 h_19 =>
  gopW (gB v30 true) (fun k_14 =>
    optW (pBin Tryz.prog .leq 3 v34 (.int .i64 21)) fun v35_1 =>
    k_14 v35_1 h_19) h_19 fun v35 h_20 =>
  optW (pPick v30 v35 (.bool false)) fun v36 =>
  gopW (gB v36 true) (fun k_15 =>
    optW (pOff 2 v1) fun v39_1 =>
    k_15 v39_1 h_20) h_20 fun v39 h_21 =>
  gopW (gB v36 true) (fun k_16 =>
    optW (rdRow false 1 v39 h_21) fun v40_1 =>
    k_16 v40_1 h_21) h_21 fun v40 h_22 =>
  gopW (gB v36 true) (fun k_17 =>
    optW (rdRow false 1 v3 h_22) fun v41_1 =>
    k_17 v41_1 h_22) h_22 fun v41 h_23 =>
  gopW (gB v36 true) (fun k_18 =>
    k_18 (.func (.func 95) #[] #[v1]) h_23) h_23 fun v42 h_24 =>
  gopW (gB v36 true) (fun k_19 =>
    X 94 [v40, v41, v42] h_24 fun v43_1 h_26 =>
    k_19 v43_1 h_26) h_24 fun v43 h_25 =>
  optW (pPick v36 v43 (.bool false)) fun v44 =>
  gopW (gB v44 true) (fun k_20 =>
    optW (pOff 3 v1) fun v47_1 =>
    k_20 v47_1 h_25) h_25 fun v47 h_27 =>
  gopW (gB v44 true) (fun k_21 =>
    optW (rdRow false 1 v47 h_27) fun v48_1 =>
    k_21 v48_1 h_27) h_27 fun v48 h_28 =>
  gopW (gB v44 true) (fun k_22 =>
    optW (pOff 3 v1) fun v49_1 =>
    k_22 v49_1 h_28) h_28 fun v49 h_29 =>
  gopW (gB v44 true) (fun k_23 =>
    optW (rdRow false 1 v49 h_29) fun v50_1 =>
    k_23 v50_1 h_29) h_29 fun v50 h_30 =>
  gopW (gB v44 true) (fun k_24 =>
    optW (lenSl v50) fun v51_1 =>
    k_24 v51_1 h_30) h_30 fun v51 h_31 =>
  gopW (gB v44 true) (fun k_25 =>
    k_25 (.func (.func 96) #[] #[v3, v1]) h_31) h_31 fun v52 h_32 =>
  gopW (gB v44 true) (fun k_26 =>
    X 94 [v48, v51, v52] h_32 fun v53_1 h_34 =>
    k_26 v53_1 h_34) h_32 fun v53 h_33 =>
  optW (pPick v44 v53 (.bool false)) fun v54 =>
  optW (pUn .not v54) fun v56 =>
  gopW (gB v56 false) (fun k_27 =>
    optW (pOff 4 v1) fun v58_1 =>
    k_27 v58_1 h_33) h_33 fun v58 h_35 =>
  gopW (gB v56 false) (fun k_28 =>
    optW (rdRow false 1 v58 h_35) fun v59_1 =>
    k_28 v59_1 h_35) h_35 fun v59 h_36 =>
  gopW (gB v56 false) (fun k_29 =>
    optW (lenSl v59) fun v60_1 =>
    k_29 v60_1 h_36) h_36 fun v60 h_37 =>
  gopW (gB v56 false) (fun k_30 =>
    optW (rdRow false 1 v3 h_37) fun v61_1 =>
    k_30 v61_1 h_37) h_37 fun v61 h_38 =>
  gopW (gB v56 false) (fun k_31 =>
    optW (pBin Tryz.prog .neq 3 v60 v61) fun v62_1 =>
    k_31 v62_1 h_38) h_38 fun v62 h_39 =>
  optW (pPick v56 (.bool true) v62) fun v63 =>
  gopW (gB v63 false) (fun k_32 =>
    optW (pOff 5 v1) fun v65_1 =>
    k_32 v65_1 h_39) h_39 fun v65 h_40 =>
  gopW (gB v63 false) (fun k_33 =>
    optW (rdRow false 1 v65 h_40) fun v66_1 =>
    k_33 v66_1 h_40) h_40 fun v66 h_41 =>
  gopW (gB v63 false) (fun k_34 =>
    optW (lenSl v66) fun v67_1 =>
    k_34 v67_1 h_41) h_41 fun v67 h_42 =>
  gopW (gB v63 false) (fun k_35 =>
    optW (rdRow false 1 v3 h_42) fun v68_1 =>
    k_35 v68_1 h_42) h_42 fun v68 h_43 =>
  gopW (gB v63 false) (fun k_36 =>
    optW (pBin Tryz.prog .neq 3 v67 v68) fun v69_1 =>
    k_36 v69_1 h_43) h_43 fun v69 h_44 =>
  optW (pPick v63 (.bool true) v69) fun v70 =>
  gopW (gB v70 false) (fun k_37 =>
    optW (pOff 6 v1) fun v72_1 =>
    k_37 v72_1 h_44) h_44 fun v72 h_45 =>
  gopW (gB v70 false) (fun k_38 =>
    optW (rdRow false 1 v72 h_45) fun v73_1 =>
    k_38 v73_1 h_45) h_45 fun v73 h_46 =>
  gopW (gB v70 false) (fun k_39 =>
    optW (lenSl v73) fun v74_1 =>
    k_39 v74_1 h_46) h_46 fun v74 h_47 =>
  gopW (gB v70 false) (fun k_40 =>
    optW (rdRow false 1 v3 h_47) fun v75_1 =>
    k_40 v75_1 h_47) h_47 fun v75 h_48 =>
  gopW (gB v70 false) (fun k_41 =>
    optW (pBin Tryz.prog .neq 3 v74 v75) fun v76_1 =>
    k_41 v76_1 h_48) h_48 fun v76 h_49 =>
  optW (pPick v70 (.bool true) v76) fun v77 =>
  gopW (gB v77 false) (fun k_42 =>
    optW (pOff 7 v1) fun v79_1 =>
    k_42 v79_1 h_49) h_49 fun v79 h_50 =>
  gopW (gB v77 false) (fun k_43 =>
    optW (rdRow false 1 v79 h_50) fun v80_1 =>
    k_43 v80_1 h_50) h_50 fun v80 h_51 =>
  gopW (gB v77 false) (fun k_44 =>
    optW (lenSl v80) fun v81_1 =>
    k_44 v81_1 h_51) h_51 fun v81 h_52 =>
  gopW (gB v77 false) (fun k_45 =>
    optW (rdRow false 1 v3 h_52) fun v82_1 =>
    k_45 v82_1 h_52) h_52 fun v82 h_53 =>
  gopW (gB v77 false) (fun k_46 =>
    optW (pBin Tryz.prog .neq 3 v81 v82) fun v83_1 =>
    k_46 v83_1 h_53) h_53 fun v83 h_54 =>
  optW (pPick v77 (.bool true) v83) fun v84 =>
  condW v84 (
    K (.int .i64 11) h_54
  ) (
    optW (rdRow false 1 v3 h_54) fun v85 =>
    loopE (fun I e h_55 =>
      optW (pBin Tryz.prog .lss 3 (e 86) (e 85)) fun v87 =>
      condW v87 (
        newR none [(.int .i64 0)] h_55 fun v5 h_56 =>
        optW (pStore 1 v5 (e 86) h_56) fun h_57 =>
        optW (pOff 5 (e 1)) fun v89 =>
        optW (rdRow false 1 v89 h_57) fun v90 =>
        optW (rdRow false 1 v5 h_57) fun v91 =>
        optW (pIdxS 1 v90 v91) fun v92 =>
        optW (rdRow false 1 v92 h_57) fun v93 =>
        optW (pOff 0 (e 1)) fun v94 =>
        optW (rdRow false 1 v94 h_57) fun v95 =>
        X 94 [v93, v95, (.func (.func 97) #[] #[(e 3), (e 1), v5])] h_57 fun v97 h_58 =>
        optW (pUn .not v97) fun v98 =>
        gopD (gB v98 false) (fun k_47 =>
          optW (rdRow true 8 (e 1) h_58) fun v100_1 =>
          k_47 v100_1 h_58 ((8, h_57, h_58) :: []) ((11, (ceOf 8 (e 1))) :: ((6, (ceOf 1 v94)) :: ((4, (ceOf 1 v92)) :: ((2, (ceOf 1 v5)) :: ((1, (ceOf 1 v89)) :: [])))))) h_58 ((8, h_57, h_58) :: []) ((6, (ceOf 1 v94)) :: ((4, (ceOf 1 v92)) :: ((2, (ceOf 1 v5)) :: ((1, (ceOf 1 v89)) :: [])))) fun v100 h_59 H S =>
        gopD (gB v98 false) (fun k_48 =>
          histC #[0, 1, 0, 7, 15, 0, 32, 0, 255, 511, 1023, 2047, 2047, 8191, 16383, 32767] 12 (ceOf 1 v5) H (
            optW (rdRow false 1 v5 h_59) fun v101_1 =>
            k_48 v101_1 h_59 H ((12, (ceOf 1 v5)) :: S))) h_59 H S fun v101 h_60 H_1 S_1 =>
        gopD (gB v98 false) (fun k_49 =>
          X 98 [v100, v101] h_60 fun v102_1 h_62 =>
          readC #[0, 1, 0, 7, 15, 0, 32, 0, 255, 511, 1023, 2047, 2047, 8191, 16383, 32767] 13 h_60 h_62 S_1 (
            k_49 v102_1 h_62 ((13, h_60, h_62) :: H_1) S_1)) h_60 H_1 S_1 fun v102 h_61 H_2 S_2 =>
        gopD (gB v98 false) (fun k_50 =>
          optW (pUn .not v102) fun v103_1 =>
          k_50 v103_1 h_61 H_2 S_2) h_61 H_2 S_2 fun v103 h_63 H_3 S_3 =>
        optW (pPick v98 (.bool true) v103) fun v104 =>
        condW v104 (
          K (.int .i64 11) h_63
        ) (
          optW (pBin Tryz.prog .add 3 (e 86) (.int .i64 1)) fun v105 =>
          I (pt (pt (pt (pt (pt (pt (pt (pt (pt (pt (pt (pt (pt (pt (pt (pt (pt (pt (pt (pt (pt e 87 v87) 88 (e 86)) 5 v5) 89 v89) 90 v90) 91 v91) 92 v92) 93 v93) 94 v94) 95 v95) 96 (.func (.func 97) #[] #[(e 3), (e 1), v5])) 97 v97) 98 v98) 99 v98) 100 v100) 101 v101) 102 v102) 103 v103) 104 v104) 105 v105) 86 v105) h_63)
      ) (
        K (.int .i64 0) h_55))
    (pt (pt (pt (pt (pt (pt (pt (pt (pt (pt (pt (pt (pt (pt (pt (pt (pt (pt (pt (pt (pt (pt (pt (pt (pt (pt (pt (pt (pt (pt (pt (pt (pt (pt (pt (pt (pt (pt (pt (pt (pt (pt (pt (pt (pt (pt (pt (pt (pt (pt (pt (pt (pt (pt (pt (pt (pt (pt (pt (pt (pt (pt (pt (pt (pt (pt (pt (pt (pt (pt (pt (pt (pt (pt (pt (pt (pt (pt (pt (pt (pt (pt (pt (pt (pt (pt (pt (envOf [a0]) 1 v1) 2 (.int .i64 0)) 6 v6) 7 v7) 8 v8) 3 v3) 9 v9) 10 v10) 11 v11) 12 v11) 13 v13) 14 v14) 15 v15) 16 v16) 17 v16) 18 v18) 19 v19) 20 v20) 21 v20) 22 v22) 23 v23) 24 v24) 25 v24) 26 v26) 27 v27) 28 v28) 29 v29) 30 v30) 31 v30) 32 v32) 33 v33) 34 v34) 35 v35) 36 v36) 4 v36) 37 v36) 38 v36) 39 v39) 40 v40) 41 v41) 42 v42) 43 v43) 44 v44) 4 v44) 45 v44) 46 v44) 47 v47) 48 v48) 49 v49) 50 v50) 51 v51) 52 v52) 53 v53) 54 v54) 4 v54) 55 v54) 56 v56) 57 v56) 58 v58) 59 v59) 60 v60) 61 v61) 62 v62) 63 v63) 64 v63) 65 v65) 66 v66) 67 v67) 68 v68) 69 v69) 70 v70) 71 v70) 72 v72) 73 v73) 74 v74) 75 v75) 76 v76) 77 v77) 78 v77) 79 v79) 80 v80) 81 v81) 82 v82) 83 v83) 84 v84) 85 v85) 86 (.int .i64 0)) h_54)
theorem e48 (X : CallT) (a0 : Value) (h : AH) (K : Value → AH → Prop) : cwp2 Tryz.prog X (Tryz.f48.body.getD .skip) (endW Tryz.prog Tryz.f48 K) (envOf [a0]) h = s48 X a0 h K := by kernel_rfl
theorem c48 {a0 : Value} {h : AH} {K : Value → AH → Prop} (hs : s48 (callW Tryz.prog) a0 h K) : callW Tryz.prog 48 [a0] h K := callW_of Tryz.func48 (by kernel_rfl) (Eq.mpr (e48 _ a0 _ _) hs)

/-- canopy/fold.classes (I at e: live [3, 15, 16, 17], writes [5, 17, 18, 19, 20, 21, 22, 23, 24, 25, 26, 27, 28, 29, 30, 31, 32, 33, 34, 35, 36, 37, 38, 39, 40, 41, 42]; I_1 at e_1: live [3, 6], writes [6, 50, 51, 52, 53, 54, 55, 56, 57, 58]) -/
def s49 (X : CallT) (a0 : Value) (h : AH) (K : Value → AH → Prop) : Prop :=
  aBox a0 none h fun v1 h_1 =>
  optW (rdRow true 8 v1 (reserve 1 h_1)) fun v7 =>
  optW (rdRow true 8 v1 (reserve 1 h_1)) fun v8 =>
  X 21 [v8] (reserve 1 h_1) fun v9 h_2 =>
  (∀ x ∈ (ceOf 8 v1), vw x (reserve 1 h_1) = vw x h_2) ∧
  optW (bld [(.int .i64 0), (.int .i64 0), (.slice none 0 0), (.slice none 0 0), (.slice none 0 0), (.slice none 0 0), (.slice none 0 0), (.slice none 0 0), (.slice none 0 0), (.slice none 0 0), (.int .i64 0)] [(0, 8), (8, 1), (9, 1), (10, 1)] [(0, v7), (1, v9)]) fun v10 =>
  aBox v10 (some (h_1.length)) h_2 fun v11 h_3 =>
  optW (pNilCheck v11) fun v13 =>
  optW (pOff 8 v13) fun v14 =>
  optW (rdRow false 1 v14 h_3) fun v15 =>
  optW (lenSl v15) fun v16 =>
  loopE (fun I e h_4 =>
    optW (pBin Tryz.prog .lss 3 (e 17) (e 16)) fun v18 =>
    condW v18 (
      optW (pIdxS 1 (e 15) (e 17)) fun v19 =>
      optW (rdRow false 1 v19 h_4) fun v20 =>
      optW (pNilCheck (e 3)) fun v23 =>
      optW (pOff 9 v23) fun v24 =>
      optW (rdRow false 1 v24 h_4) fun v25 =>
      optW (bldSl 1 [(.int .i64 0)] 1 [(0, (.int .i64 (-1)))]) fun c =>
      newW none (.row c true) h_4 fun i h_5 =>
      appSl 1 v25 (.slice (some ⟨i, 0, none⟩) 1 1) h_5 fun v27 h_6 =>
      optW (pNilCheck (e 3)) fun v28 =>
      optW (pOff 9 v28) fun v29 =>
      optW (pStore 1 v29 v27 h_6) fun h_7 =>
      condW v20 (
        optW (pNilCheck (e 3)) fun v32 =>
        optW (pOff 9 v32) fun v33 =>
        optW (rdRow false 1 v33 h_7) fun v34 =>
        optW (pNilCheck (e 3)) fun v36 =>
        optW (pOff 9 v36) fun v37 =>
        optW (rdRow false 1 v37 h_7) fun v38 =>
        optW (lenSl v38) fun v39 =>
        optW (pBin Tryz.prog .sub 3 v39 (.int .i64 1)) fun v40 =>
        optW (pIdxS 1 v34 v40) fun v41 =>
        optW (pStore 1 v41 (.int .i64 0) h_7) fun h_8 =>
        optW (pBin Tryz.prog .add 3 (e 17) (.int .i64 1)) fun v42 =>
        I (pt (pt (pt (pt (pt (pt (pt (pt (pt (pt (pt (pt (pt (pt (pt (pt (pt (pt (pt (pt (pt (pt (pt (pt (pt (pt (pt e 18 v18) 19 v19) 20 v20) 5 v20) 21 (e 3)) 22 (e 3)) 23 v23) 24 v24) 25 v25) 26 (.slice (some ⟨i, 0, none⟩) 1 1)) 27 v27) 28 v28) 29 v29) 30 v20) 31 (e 3)) 32 v32) 33 v33) 34 v34) 35 (e 3)) 36 v36) 37 v37) 38 v38) 39 v39) 40 v40) 41 v41) 42 v42) 17 v42) h_8
      ) (
        optW (pBin Tryz.prog .add 3 (e 17) (.int .i64 1)) fun v42_1 =>
        I (pt (pt (pt (pt (pt (pt (pt (pt (pt (pt (pt (pt (pt (pt (pt (pt e 18 v18) 19 v19) 20 v20) 5 v20) 21 (e 3)) 22 (e 3)) 23 v23) 24 v24) 25 v25) 26 (.slice (some ⟨i, 0, none⟩) 1 1)) 27 v27) 28 v28) 29 v29) 30 v20) 42 v42_1) 17 v42_1) h_7)
    ) (
      X 99 [(e 3), (.func (.func 100) #[] #[(e 1)])] h_4 fun v45 h_9 =>
      X 99 [(e 3), (.func (.func 101) #[] #[(e 1)])] h_9 fun v48 h_10 =>
      optW (bldArr [(.int .i64 0), (.int .i64 0)] 1 []) fun v49 =>
      newR none [(.int .i64 0), (.int .i64 0)] h_10 fun v6 h_11 =>
      optW (pStore 2 v6 v49 h_11) fun h_12 =>
      loopE (fun I_1 e_1 h_13 =>
        optW (rdRow true 2 (e_1 6) h_13) fun v50 =>
        X 102 [(e_1 3)] h_13 fun v52 h_14 =>
        (∀ x ∈ (ceOf 2 (e_1 6)), vw x h_13 = vw x h_14) ∧
        optW (pBin Tryz.prog .neq 198 v50 v52) fun v53 =>
        condW v53 (
          X 102 [(e_1 3)] h_14 fun v55 h_15 =>
          optW (pStore 2 (e_1 6) v55 h_15) fun h_16 =>
          X 103 [(e_1 3)] h_16 fun v57 h_17 =>
          optW (rdRow true 2 (e_1 6) h_17) fun v58 =>
          newR none [(.int .i64 0), (.int .i64 0)] h_17 fun v6_1 h_18 =>
          optW (pStore 2 v6_1 v58 h_18) fun h_19 =>
          I_1 (pt (pt (pt (pt (pt (pt (pt (pt (pt (pt e_1 50 v50) 51 (e_1 3)) 52 v52) 53 v53) 54 (e_1 3)) 55 v55) 56 (e_1 3)) 57 v57) 58 v58) 6 v6_1) h_19
        ) (
          K (e_1 3) h_14))
      (pt (pt (pt (pt (pt (pt (pt (pt (pt e 18 v18) 43 (e 3)) 44 (.func (.func 100) #[] #[(e 1)])) 45 v45) 46 (e 3)) 47 (.func (.func 101) #[] #[(e 1)])) 48 v48) 49 v49) 6 v6) h_12))
  (pt (pt (pt (pt (pt (pt (pt (pt (pt (pt (pt (pt (pt (pt (envOf [a0]) 1 v1) 2 (.pointer none)) 7 v7) 8 v8) 9 v9) 10 v10) 11 v11) 3 v11) 12 v11) 13 v13) 14 v14) 15 v15) 16 v16) 17 (.int .i64 0)) h_3
theorem e49 (X : CallT) (a0 : Value) (h : AH) (K : Value → AH → Prop) : cwp2 Tryz.prog X (Tryz.f49.body.getD .skip) (endW Tryz.prog Tryz.f49 K) (envOf [a0]) h = s49 X a0 h K := by kernel_rfl
theorem c49 {a0 : Value} {h : AH} {K : Value → AH → Prop} (hs : s49 (callW Tryz.prog) a0 h K) : callW Tryz.prog 49 [a0] h K := callW_of Tryz.func49 (by kernel_rfl) (Eq.mpr (e49 _ a0 _ _) hs)

/-- canopy/fold.Small$1 (I at e: live [1, 4, 7, 8, 9], writes [4, 6, 9, 10, 11, 12, 13, 14, 15, 16, 17, 18, 19, 20, 21, 22, 23]) -/
def s50 (X : CallT) (a0 a1 : Value) (h : AH) (K : Value → AH → Prop) : Prop :=
  optW (lenSl a0) fun v8 =>
  loopE (fun I e h_1 =>
    optW (pBin Tryz.prog .lss 3 (e 9) (e 8)) fun v10 =>
    condW v10 (
      optW (pIdxS 1 (e 7) (e 9)) fun v11 =>
      optW (rdRow false 1 v11 h_1) fun v12 =>
      optW (rdRow false 1 (e 1) h_1) fun v14 =>
      optW (pNilCheck v14) fun v15 =>
      optW (pOff 9 v15) fun v16 =>
      optW (rdRow false 1 v16 h_1) fun v17 =>
      optW (pIdxS 1 v17 v12) fun v19 =>
      optW (rdRow false 1 v19 h_1) fun v20 =>
      optW (bldSl 1 [(.int .i64 0)] 1 [(0, v20)]) fun c =>
      newW none (.row c true) h_1 fun i h_2 =>
      appSl 1 (e 4) (.slice (some ⟨i, 0, none⟩) 1 1) h_2 fun v22 h_3 =>
      optW (pBin Tryz.prog .add 3 (e 9) (.int .i64 1)) fun v23 =>
      I (pt (pt (pt (pt (pt (pt (pt (pt (pt (pt (pt (pt (pt (pt (pt (pt (pt e 10 v10) 11 v11) 12 v12) 6 v12) 13 (e 4)) 14 v14) 15 v15) 16 v16) 17 v17) 18 v12) 19 v19) 20 v20) 21 (.slice (some ⟨i, 0, none⟩) 1 1)) 22 v22) 4 v22) 23 v23) 9 v23) h_3
    ) (
      X 51 [(e 4)] h_1 fun v25 h_4 =>
      K v25 h_4))
  (pt (pt (pt (pt (pt (envOf [a0, a1]) 3 (.slice none 0 0)) 4 (.slice none 0 0)) 7 a0) 8 v8) 9 (.int .i64 0)) h
theorem e50 (X : CallT) (a0 a1 : Value) (h : AH) (K : Value → AH → Prop) : cwp2 Tryz.prog X (Tryz.f50.body.getD .skip) (endW Tryz.prog Tryz.f50 K) (envOf [a0, a1]) h = s50 X a0 a1 h K := by kernel_rfl
theorem c50 {a0 a1 : Value} {h : AH} {K : Value → AH → Prop} (hs : s50 (callW Tryz.prog) a0 a1 h K) : callW Tryz.prog 50 [a0, a1] h K := callW_of Tryz.func50 (by kernel_rfl) (Eq.mpr (e50 _ a0 a1 _ _) hs)

/-- slices.Clone[[]int,int] () -/
def s51 (X : CallT) (a0 : Value) (h : AH) (K : Value → AH → Prop) : Prop :=
  optW (pBin Tryz.prog .eql 22 a0 (.slice none 0 0)) fun v4 =>
  condW v4 (
    K (.slice none 0 0) h
  ) (
    optW (bldSl 1 [(.int .i64 0)] 0 []) fun c =>
    newW none (.row c true) h fun i h_1 =>
    appSl 1 (.slice (some ⟨i, 0, none⟩) 0 0) a0 h_1 fun v7 h_2 =>
    K v7 h_2)
theorem e51 (X : CallT) (a0 : Value) (h : AH) (K : Value → AH → Prop) : cwp2 Tryz.prog X (Tryz.f51.body.getD .skip) (endW Tryz.prog Tryz.f51 K) (envOf [a0]) h = s51 X a0 h K := by kernel_rfl
theorem c51 {a0 : Value} {h : AH} {K : Value → AH → Prop} (hs : s51 (callW Tryz.prog) a0 h K) : callW Tryz.prog 51 [a0] h K := callW_of Tryz.func51 (by kernel_rfl) (Eq.mpr (e51 _ a0 _ _) hs)

/-- slices.Clone[[][]int,[]int] () -/
def s52 (X : CallT) (a0 : Value) (h : AH) (K : Value → AH → Prop) : Prop :=
  optW (pBin Tryz.prog .eql 52 a0 (.slice none 0 0)) fun v4 =>
  condW v4 (
    K (.slice none 0 0) h
  ) (
    optW (bldSl 1 [(.slice none 0 0)] 0 []) fun c =>
    newW none (.row c true) h fun i h_1 =>
    appSl 1 (.slice (some ⟨i, 0, none⟩) 0 0) a0 h_1 fun v7 h_2 =>
    K v7 h_2)
theorem e52 (X : CallT) (a0 : Value) (h : AH) (K : Value → AH → Prop) : cwp2 Tryz.prog X (Tryz.f52.body.getD .skip) (endW Tryz.prog Tryz.f52 K) (envOf [a0]) h = s52 X a0 h K := by kernel_rfl
theorem c52 {a0 : Value} {h : AH} {K : Value → AH → Prop} (hs : s52 (callW Tryz.prog) a0 h K) : callW Tryz.prog 52 [a0] h K := callW_of Tryz.func52 (by kernel_rfl) (Eq.mpr (e52 _ a0 _ _) hs)

/-- slices.Clone[[]bool,bool] () -/
def s53 (X : CallT) (a0 : Value) (h : AH) (K : Value → AH → Prop) : Prop :=
  optW (pBin Tryz.prog .eql 51 a0 (.slice none 0 0)) fun v4 =>
  condW v4 (
    K (.slice none 0 0) h
  ) (
    optW (bldSl 1 [(.bool false)] 0 []) fun c =>
    newW none (.row c true) h fun i h_1 =>
    appSl 1 (.slice (some ⟨i, 0, none⟩) 0 0) a0 h_1 fun v7 h_2 =>
    K v7 h_2)
theorem e53 (X : CallT) (a0 : Value) (h : AH) (K : Value → AH → Prop) : cwp2 Tryz.prog X (Tryz.f53.body.getD .skip) (endW Tryz.prog Tryz.f53 K) (envOf [a0]) h = s53 X a0 h K := by kernel_rfl
theorem c53 {a0 : Value} {h : AH} {K : Value → AH → Prop} (hs : s53 (callW Tryz.prog) a0 h K) : callW Tryz.prog 53 [a0] h K := callW_of Tryz.func53 (by kernel_rfl) (Eq.mpr (e53 _ a0 _ _) hs)

/-- slices.Clone[[][][]int,[][]int] () -/
def s54 (X : CallT) (a0 : Value) (h : AH) (K : Value → AH → Prop) : Prop :=
  optW (pBin Tryz.prog .eql 53 a0 (.slice none 0 0)) fun v4 =>
  condW v4 (
    K (.slice none 0 0) h
  ) (
    optW (bldSl 1 [(.slice none 0 0)] 0 []) fun c =>
    newW none (.row c true) h fun i h_1 =>
    appSl 1 (.slice (some ⟨i, 0, none⟩) 0 0) a0 h_1 fun v7 h_2 =>
    K v7 h_2)
theorem e54 (X : CallT) (a0 : Value) (h : AH) (K : Value → AH → Prop) : cwp2 Tryz.prog X (Tryz.f54.body.getD .skip) (endW Tryz.prog Tryz.f54 K) (envOf [a0]) h = s54 X a0 h K := by kernel_rfl
theorem c54 {a0 : Value} {h : AH} {K : Value → AH → Prop} (hs : s54 (callW Tryz.prog) a0 h K) : callW Tryz.prog 54 [a0] h K := callW_of Tryz.func54 (by kernel_rfl) (Eq.mpr (e54 _ a0 _ _) hs)

/-- canopy/fold.reached (I at e: live [1, 23, 24, 25], writes [7, 25, 26, 27, 28, 29, 30, 31, 32]; I_1 at e_1: live [1, 37, 38, 39], writes [9, 10, 11, 39, 40, 41, 42, 43, 44, 45, 46, 47, 48, 49, 50, 51, 52, 53, 54, 55, 56, 57, 58]; I_2 at e_2: live [1, 43, 44, 45], writes [10, 11, 45, 46, 47, 48, 49, 50, 51, 52, 53, 54, 55, 56, 57]) -/
def s55 (X : CallT) (a0 a1 a2 : Value) (h : AH) (K : Value → AH → Prop) : Prop :=
  aBox a0 none h fun v3 h_1 =>
  optW (pOff 5 v3) fun v12 =>
  optW (rdRow false 1 v12 (reserve 1 h_1)) fun v13 =>
  optW (pIdxS 1 v13 a2) fun v15 =>
  optW (rdRow false 1 v15 (reserve 1 h_1)) fun v16 =>
  optW (pOff 6 v3) fun v17 =>
  optW (rdRow false 1 v17 (reserve 1 h_1)) fun v18 =>
  optW (pIdxS 1 v18 a2) fun v20 =>
  optW (rdRow false 1 v20 (reserve 1 h_1)) fun v21 =>
  optW (bldSl 1 [(.slice none 0 0)] 2 [(0, v16), (1, v21)]) fun c =>
  newW (some (h_1.length)) (.row c true) (reserve 1 h_1) fun i h_2 =>
  X 64 [(.slice (some ⟨i, 0, none⟩) 2 2)] h_2 fun v23 h_3 =>
  optW (lenSl v23) fun v24 =>
  loopE (fun I e h_4 =>
    optW (pBin Tryz.prog .lss 3 (e 25) (e 24)) fun v26 =>
    condW v26 (
      optW (pIdxS 1 (e 23) (e 25)) fun v27 =>
      optW (rdRow false 1 v27 h_4) fun v28 =>
      optW (pIdxS 1 (e 1) v28) fun v31 =>
      optW (pStore 1 v31 (.bool true) h_4) fun h_5 =>
      optW (pBin Tryz.prog .add 3 (e 25) (.int .i64 1)) fun v32 =>
      I (pt (pt (pt (pt (pt (pt (pt (pt (pt e 26 v26) 27 v27) 28 v28) 7 v28) 29 (e 1)) 30 v28) 31 v31) 32 v32) 25 v32) h_5
    ) (
      optW (pOff 7 (e 3)) fun v33 =>
      optW (rdRow false 1 v33 h_4) fun v34 =>
      optW (pIdxS 1 v34 (e 2)) fun v36 =>
      optW (rdRow false 1 v36 h_4) fun v37 =>
      optW (lenSl v37) fun v38 =>
      loopE (fun I_1 e_1 h_6 =>
        optW (pBin Tryz.prog .lss 3 (e_1 39) (e_1 38)) fun v40 =>
        condW v40 (
          optW (pIdxS 1 (e_1 37) (e_1 39)) fun v41 =>
          optW (rdRow false 1 v41 h_6) fun v42 =>
          optW (lenSl v42) fun v44 =>
          loopE (fun I_2 e_2 h_7 =>
            optW (pBin Tryz.prog .lss 3 (e_2 45) (e_2 44)) fun v46 =>
            condW v46 (
              optW (pIdxS 1 (e_2 43) (e_2 45)) fun v48 =>
              optW (rdRow false 1 v48 h_7) fun v49 =>
              optW (pIdxS 1 (e_2 1) (e_2 45)) fun v52 =>
              optW (rdRow false 1 v52 h_7) fun v53 =>
              condW v53 (
                optW (pIdxS 1 (e_2 1) v49) fun v56 =>
                optW (pStore 1 v56 (.bool true) h_7) fun h_8 =>
                optW (pBin Tryz.prog .add 3 (e_2 45) (.int .i64 1)) fun v57 =>
                I_2 (pt (pt (pt (pt (pt (pt (pt (pt (pt (pt (pt (pt (pt (pt (pt e_2 46 v46) 47 (e_2 45)) 48 v48) 49 v49) 10 (e_2 45)) 11 v49) 50 (e_2 1)) 51 (e_2 45)) 52 v52) 53 v53) 54 (e_2 1)) 55 v49) 56 v56) 57 v57) 45 v57) h_8
              ) (
                optW (pBin Tryz.prog .add 3 (e_2 45) (.int .i64 1)) fun v57_1 =>
                I_2 (pt (pt (pt (pt (pt (pt (pt (pt (pt (pt (pt (pt e_2 46 v46) 47 (e_2 45)) 48 v48) 49 v49) 10 (e_2 45)) 11 v49) 50 (e_2 1)) 51 (e_2 45)) 52 v52) 53 v53) 57 v57_1) 45 v57_1) h_7)
            ) (
              optW (pBin Tryz.prog .add 3 (e_2 39) (.int .i64 1)) fun v58 =>
              I_1 (pt (pt (pt e_2 46 v46) 58 v58) 39 v58) h_7))
          (pt (pt (pt (pt (pt (pt (pt e_1 40 v40) 41 v41) 42 v42) 9 v42) 43 v42) 44 v44) 45 (.int .i64 0)) h_6
        ) (
          K (.tuple #[]) h_6))
      (pt (pt (pt (pt (pt (pt (pt (pt e 26 v26) 33 v33) 34 v34) 35 (e 2)) 36 v36) 37 v37) 38 v38) 39 (.int .i64 0)) h_4))
  (pt (pt (pt (pt (pt (pt (pt (pt (pt (pt (pt (pt (pt (pt (pt (envOf [a0, a1, a2]) 3 v3) 12 v12) 13 v13) 14 a2) 15 v15) 16 v16) 17 v17) 18 v18) 19 a2) 20 v20) 21 v21) 22 (.slice (some ⟨i, 0, none⟩) 2 2)) 23 v23) 24 v24) 25 (.int .i64 0)) h_3
theorem e55 (X : CallT) (a0 a1 a2 : Value) (h : AH) (K : Value → AH → Prop) : cwp2 Tryz.prog X (Tryz.f55.body.getD .skip) (endW Tryz.prog Tryz.f55 K) (envOf [a0, a1, a2]) h = s55 X a0 a1 a2 h K := by kernel_rfl
theorem c55 {a0 a1 a2 : Value} {h : AH} {K : Value → AH → Prop} (hs : s55 (callW Tryz.prog) a0 a1 a2 h K) : callW Tryz.prog 55 [a0, a1, a2] h K := callW_of Tryz.func55 (by kernel_rfl) (Eq.mpr (e55 _ a0 a1 a2 _ _) hs)

end Go.Proofs.YtdlbiliolbdbmaaGreat.W
end

section
/- Go functions, printed by a program as predicates on what may come behind; each is the function. Conditions: none. -/
namespace Go.Proofs.YtdlbiliolbdbmaaGreat.W
open Go Go.AM
set_option linter.unusedVariables false
set_option maxRecDepth 100000

end Go.Proofs.YtdlbiliolbdbmaaGreat.W
end

section
/- Go functions, printed by a program as predicates on what may come behind; each is the function. Conditions: none. -/
namespace Go.Proofs.YtdlbiliolbdbmaaGreat.W
open Go Go.AM
set_option linter.unusedVariables false
set_option maxRecDepth 100000


/-- canopy/fold.within () -/
def s93 (X : CallT) (a0 a1 : Value) (h : AH) (K : Value → AH → Prop) : Prop :=
  optW (pBin Tryz.prog .geq 3 a0 (.int .i64 0)) fun v6 =>
  gopW (gB v6 true) (fun k =>
    k a0 h) h fun v8 h_1 =>
  gopW (gB v6 true) (fun k_1 =>
    k_1 a1 h_1) h_1 fun v9 h_2 =>
  gopW (gB v6 true) (fun k_2 =>
    optW (pBin Tryz.prog .lss 3 v8 v9) fun v10_1 =>
    k_2 v10_1 h_2) h_2 fun v10 h_3 =>
  optW (pPick v6 v10 (.bool false)) fun v11 =>
  K v11 h_3
theorem e93 (X : CallT) (a0 a1 : Value) (h : AH) (K : Value → AH → Prop) : cwp2 Tryz.prog X (Tryz.f93.body.getD .skip) (endW Tryz.prog Tryz.f93 K) (envOf [a0, a1]) h = s93 X a0 a1 h K := by kernel_rfl
theorem c93 {a0 a1 : Value} {h : AH} {K : Value → AH → Prop} (hs : s93 (callW Tryz.prog) a0 a1 h K) : callW Tryz.prog 93 [a0, a1] h K := callW_of Tryz.func93 (by kernel_rfl) (Eq.mpr (e93 _ a0 a1 _ _) hs)

/-- canopy/fold.row (I at e: live [2, 9, 10, 11], writes [6, 7, 8, 11, 12, 13, 14, 15, 16, 17, 18, 19, 20, 21]) -/
def s94 (X : CallT) (a0 a1 a2 : Value) (h : AH) (K : Value → AH → Prop) : Prop :=
  optW (lenSl a0) fun v10 =>
  loopE (fun I e h_1 =>
    optW (pBin Tryz.prog .lss 3 (e 11) (e 10)) fun v12 =>
    condW v12 (
      optW (pIdxS 1 (e 9) (e 11)) fun v14 =>
      optW (rdRow false 1 v14 h_1) fun v15 =>
      callV X (e 2) [(e 11), v15] h_1 fun v19 h_2 =>
      optW (pUn .not v19) fun v20 =>
      condW v20 (
        K (.bool false) h_2
      ) (
        optW (pBin Tryz.prog .add 3 (e 11) (.int .i64 1)) fun v21 =>
        I (pt (pt (pt (pt (pt (pt (pt (pt (pt (pt (pt (pt (pt e 12 v12) 13 (e 11)) 14 v14) 15 v15) 7 (e 11)) 8 v15) 16 (e 2)) 17 (e 11)) 18 v15) 19 v19) 20 v20) 21 v21) 11 v21) h_2)
    ) (
      optW (lenSl (e 0)) fun v23 =>
      optW (pBin Tryz.prog .eql 3 v23 (e 1)) fun v25 =>
      K v25 h_1))
  (pt (pt (pt (pt (envOf [a0, a1, a2]) 6 (.bool false)) 9 a0) 10 v10) 11 (.int .i64 0)) h
theorem e94 (X : CallT) (a0 a1 a2 : Value) (h : AH) (K : Value → AH → Prop) : cwp2 Tryz.prog X (Tryz.f94.body.getD .skip) (endW Tryz.prog Tryz.f94 K) (envOf [a0, a1, a2]) h = s94 X a0 a1 a2 h K := by kernel_rfl
theorem c94 {a0 a1 a2 : Value} {h : AH} {K : Value → AH → Prop} (hs : s94 (callW Tryz.prog) a0 a1 a2 h K) : callW Tryz.prog 94 [a0, a1, a2] h K := callW_of Tryz.func94 (by kernel_rfl) (Eq.mpr (e94 _ a0 a1 a2 _ _) hs)

/-- canopy/fold.Check$1 () -/
def s95 (X : CallT) (a0 a1 a2 : Value) (h : AH) (K : Value → AH → Prop) : Prop :=
  optW (pOff 3 a2) fun v7 =>
  optW (rdRow false 1 v7 h) fun v8 =>
  optW (lenSl v8) fun v9 =>
  X 93 [a1, v9] h fun v10 h_1 =>
  K v10 h_1
theorem e95 (X : CallT) (a0 a1 a2 : Value) (h : AH) (K : Value → AH → Prop) : cwp2 Tryz.prog X (Tryz.f95.body.getD .skip) (endW Tryz.prog Tryz.f95 K) (envOf [a0, a1, a2]) h = s95 X a0 a1 a2 h K := by kernel_rfl
theorem c95 {a0 a1 a2 : Value} {h : AH} {K : Value → AH → Prop} (hs : s95 (callW Tryz.prog) a0 a1 a2 h K) : callW Tryz.prog 95 [a0, a1, a2] h K := callW_of Tryz.func95 (by kernel_rfl) (Eq.mpr (e95 _ a0 a1 a2 _ _) hs)

/-- canopy/fold.Check$2 () -/
def s96 (X : CallT) (a0 a1 a2 a3 : Value) (h : AH) (K : Value → AH → Prop) : Prop :=
  optW (rdRow false 1 a2 h) fun v8 =>
  X 93 [a1, v8] h fun v9 h_1 =>
  gopW (gB v9 true) (fun k =>
    optW (pOff 2 a3) fun v11_1 =>
    k v11_1 h_1) h_1 fun v11 h_2 =>
  gopW (gB v9 true) (fun k_1 =>
    optW (rdRow false 1 v11 h_2) fun v12_1 =>
    k_1 v12_1 h_2) h_2 fun v12 h_3 =>
  gopW (gB v9 true) (fun k_2 =>
    k_2 a1 h_3) h_3 fun v13 h_4 =>
  gopW (gB v9 true) (fun k_3 =>
    optW (pIdxS 1 v12 v13) fun v14_1 =>
    k_3 v14_1 h_4) h_4 fun v14 h_5 =>
  gopW (gB v9 true) (fun k_4 =>
    optW (rdRow false 1 v14 h_5) fun v15_1 =>
    k_4 v15_1 h_5) h_5 fun v15 h_6 =>
  gopW (gB v9 true) (fun k_5 =>
    k_5 a0 h_6) h_6 fun v16 h_7 =>
  gopW (gB v9 true) (fun k_6 =>
    optW (pBin Tryz.prog .eql 3 v15 v16) fun v17_1 =>
    k_6 v17_1 h_7) h_7 fun v17 h_8 =>
  optW (pPick v9 v17 (.bool false)) fun v18 =>
  K v18 h_8
theorem e96 (X : CallT) (a0 a1 a2 a3 : Value) (h : AH) (K : Value → AH → Prop) : cwp2 Tryz.prog X (Tryz.f96.body.getD .skip) (endW Tryz.prog Tryz.f96 K) (envOf [a0, a1, a2, a3]) h = s96 X a0 a1 a2 a3 h K := by kernel_rfl
theorem c96 {a0 a1 a2 a3 : Value} {h : AH} {K : Value → AH → Prop} (hs : s96 (callW Tryz.prog) a0 a1 a2 a3 h K) : callW Tryz.prog 96 [a0, a1, a2, a3] h K := callW_of Tryz.func96 (by kernel_rfl) (Eq.mpr (e96 _ a0 a1 a2 a3 _ _) hs)

/-- canopy/fold.Check$3 () -/
def s97 (X : CallT) (a0 a1 a2 a3 a4 : Value) (h : AH) (K : Value → AH → Prop) : Prop :=
  optW (rdRow false 1 a2 h) fun v9 =>
  X 93 [a1, v9] h fun v10 h_1 =>
  gopD (gB v10 true) (fun k =>
    optW (pOff 2 a3) fun v12_1 =>
    k v12_1 h_1 ((2, h, h_1) :: []) ((1, (ceOf 1 a2)) :: [])) h_1 ((2, h, h_1) :: []) ((1, (ceOf 1 a2)) :: []) fun v12 h_2 H S =>
  gopD (gB v10 true) (fun k_1 =>
    histC #[0, 0, 3, 7, 15, 31, 15, 127, 255, 15, 527, 15, 3599, 7695, 16383, 32767, 65535] 5 (ceOf 1 v12) H (
      optW (rdRow false 1 v12 h_2) fun v13_1 =>
      k_1 v13_1 h_2 H ((5, (ceOf 1 v12)) :: S))) h_2 H S fun v13 h_3 H_1 S_1 =>
  gopD (gB v10 true) (fun k_2 =>
    k_2 a1 h_3 H_1 S_1) h_3 H_1 S_1 fun v14 h_4 H_2 S_2 =>
  gopD (gB v10 true) (fun k_3 =>
    optW (pIdxS 1 v13 v14) fun v15_1 =>
    k_3 v15_1 h_4 H_2 S_2) h_4 H_2 S_2 fun v15 h_5 H_3 S_3 =>
  gopD (gB v10 true) (fun k_4 =>
    histC #[0, 0, 3, 7, 15, 31, 15, 127, 255, 15, 527, 15, 3599, 7695, 16383, 32767, 65535] 8 (ceOf 1 v15) H_3 (
      optW (rdRow false 1 v15 h_5) fun v16_1 =>
      k_4 v16_1 h_5 H_3 ((8, (ceOf 1 v15)) :: S_3))) h_5 H_3 S_3 fun v16 h_6 H_4 S_4 =>
  gopD (gB v10 true) (fun k_5 =>
    optW (pOff 2 a3) fun v17_1 =>
    k_5 v17_1 h_6 H_4 S_4) h_6 H_4 S_4 fun v17 h_7 H_5 S_5 =>
  gopD (gB v10 true) (fun k_6 =>
    histC #[0, 0, 3, 7, 15, 31, 15, 127, 255, 15, 527, 15, 3599, 7695, 16383, 32767, 65535] 10 (ceOf 1 v17) H_5 (
      optW (rdRow false 1 v17 h_7) fun v18_1 =>
      k_6 v18_1 h_7 H_5 ((10, (ceOf 1 v17)) :: S_5))) h_7 H_5 S_5 fun v18 h_8 H_6 S_6 =>
  gopD (gB v10 true) (fun k_7 =>
    histC #[0, 0, 3, 7, 15, 31, 15, 127, 255, 15, 527, 15, 3599, 7695, 16383, 32767, 65535] 11 (ceOf 1 a4) H_6 (
      optW (rdRow false 1 a4 h_8) fun v19_1 =>
      k_7 v19_1 h_8 H_6 ((11, (ceOf 1 a4)) :: S_6))) h_8 H_6 S_6 fun v19 h_9 H_7 S_7 =>
  gopD (gB v10 true) (fun k_8 =>
    optW (pIdxS 1 v18 v19) fun v20_1 =>
    k_8 v20_1 h_9 H_7 S_7) h_9 H_7 S_7 fun v20 h_10 H_8 S_8 =>
  gopD (gB v10 true) (fun k_9 =>
    histC #[0, 0, 3, 7, 15, 31, 15, 127, 255, 15, 527, 15, 3599, 7695, 16383, 32767, 65535] 13 (ceOf 1 v20) H_8 (
      optW (rdRow false 1 v20 h_10) fun v21_1 =>
      k_9 v21_1 h_10 H_8 ((13, (ceOf 1 v20)) :: S_8))) h_10 H_8 S_8 fun v21 h_11 H_9 S_9 =>
  gopD (gB v10 true) (fun k_10 =>
    optW (pBin Tryz.prog .eql 3 v16 v21) fun v22_1 =>
    k_10 v22_1 h_11 H_9 S_9) h_11 H_9 S_9 fun v22 h_12 H_10 S_10 =>
  optW (pPick v10 v22 (.bool false)) fun v23 =>
  K v23 h_12
theorem e97 (X : CallT) (a0 a1 a2 a3 a4 : Value) (h : AH) (K : Value → AH → Prop) : cwp2 Tryz.prog X (Tryz.f97.body.getD .skip) (endW Tryz.prog Tryz.f97 K) (envOf [a0, a1, a2, a3, a4]) h = s97 X a0 a1 a2 a3 a4 h K := by kernel_rfl
theorem c97 {a0 a1 a2 a3 a4 : Value} {h : AH} {K : Value → AH → Prop} (hs : s97 (callW Tryz.prog) a0 a1 a2 a3 a4 h K) : callW Tryz.prog 97 [a0, a1, a2, a3, a4] h K := callW_of Tryz.func97 (by kernel_rfl) (Eq.mpr (e97 _ a0 a1 a2 a3 a4 _ _) hs)

/-- canopy/fold.closings (I at e: live [2, 5, 56, 57, 58], writes [4, 7, 58, 59, 60, 61, 62, 63, 64, 65, 66, 67, 68, 69]) -/
def s98 (X : CallT) (a0 a1 : Value) (h : AH) (K : Value → AH → Prop) : Prop :=
  aBox a0 none h fun v2 h_1 =>
  newR none [.nilFunc] h_1 fun v5 h_2 =>
  optW (pStore 1 v5 (.func (.func 144) #[] #[v2]) h_2) fun h_3 =>
  optW (pOff 2 v2) fun v9 =>
  optW (rdRow false 1 v9 h_3) fun v10 =>
  optW (pIdxS 1 v10 a1) fun v12 =>
  optW (rdRow false 1 v12 h_3) fun v13 =>
  optW (pBin Tryz.prog .eql 3 v13 (.int .i64 0)) fun v14 =>
  condW v14 (
    optW (pOff 7 v2) fun v15 =>
    optW (rdRow false 1 v15 h_3) fun v16 =>
    optW (pIdxS 1 v16 a1) fun v18 =>
    optW (rdRow false 1 v18 h_3) fun v19 =>
    optW (lenSl v19) fun v20 =>
    optW (pBin Tryz.prog .eql 3 v20 (.int .i64 0)) fun v21 =>
    gopD (gB v21 true) (fun k =>
      optW (pOff 6 v2) fun v23_1 =>
      k v23_1 h_3 [] ((4, (ceOf 1 v18)) :: ((1, (ceOf 1 v15)) :: []))) h_3 [] ((4, (ceOf 1 v18)) :: ((1, (ceOf 1 v15)) :: [])) fun v23 h_4 H S =>
    gopD (gB v21 true) (fun k_1 =>
      histC #[0, 1, 0, 7, 15, 31, 63, 127, 255, 511, 255, 2047, 4095, 255, 8447, 255, 33023, 131071, 262143, 524287] 9 (ceOf 1 v23) H (
        optW (rdRow false 1 v23 h_4) fun v24_1 =>
        k_1 v24_1 h_4 H ((9, (ceOf 1 v23)) :: S))) h_4 H S fun v24 h_5 H_1 S_1 =>
    gopD (gB v21 true) (fun k_2 =>
      k_2 a1 h_5 H_1 S_1) h_5 H_1 S_1 fun v25 h_6 H_2 S_2 =>
    gopD (gB v21 true) (fun k_3 =>
      optW (pIdxS 1 v24 v25) fun v26_1 =>
      k_3 v26_1 h_6 H_2 S_2) h_6 H_2 S_2 fun v26 h_7 H_3 S_3 =>
    gopD (gB v21 true) (fun k_4 =>
      histC #[0, 1, 0, 7, 15, 31, 63, 127, 255, 511, 255, 2047, 4095, 255, 8447, 255, 33023, 131071, 262143, 524287] 12 (ceOf 1 v26) H_3 (
        optW (rdRow false 1 v26 h_7) fun v27_1 =>
        k_4 v27_1 h_7 H_3 ((12, (ceOf 1 v26)) :: S_3))) h_7 H_3 S_3 fun v27 h_8 H_4 S_4 =>
    gopD (gB v21 true) (fun k_5 =>
      optW (pOff 1 v2) fun v28_1 =>
      k_5 v28_1 h_8 H_4 S_4) h_8 H_4 S_4 fun v28 h_9 H_5 S_5 =>
    gopD (gB v21 true) (fun k_6 =>
      histC #[0, 1, 0, 7, 15, 31, 63, 127, 255, 511, 255, 2047, 4095, 255, 8447, 255, 33023, 131071, 262143, 524287] 14 (ceOf 1 v28) H_5 (
        optW (rdRow false 1 v28 h_9) fun v29_1 =>
        k_6 v29_1 h_9 H_5 ((14, (ceOf 1 v28)) :: S_5))) h_9 H_5 S_5 fun v29 h_10 H_6 S_6 =>
    gopD (gB v21 true) (fun k_7 =>
      histC #[0, 1, 0, 7, 15, 31, 63, 127, 255, 511, 255, 2047, 4095, 255, 8447, 255, 33023, 131071, 262143, 524287] 15 (ceOf 1 v5) H_6 (
        optW (rdRow false 1 v5 h_10) fun v30_1 =>
        k_7 v30_1 h_10 H_6 ((15, (ceOf 1 v5)) :: S_6))) h_10 H_6 S_6 fun v30 h_11 H_7 S_7 =>
    gopD (gB v21 true) (fun k_8 =>
      callV X v30 [(.int .i64 0)] h_11 fun v31_1 h_13 =>
      readC #[0, 1, 0, 7, 15, 31, 63, 127, 255, 511, 255, 2047, 4095, 255, 8447, 255, 33023, 131071, 262143, 524287] 16 h_11 h_13 S_7 (
        k_8 v31_1 h_13 ((16, h_11, h_13) :: H_7) S_7)) h_11 H_7 S_7 fun v31 h_12 H_8 S_8 =>
    gopD (gB v21 true) (fun k_9 =>
      X 94 [v27, v29, v31] h_12 fun v32_1 h_15 =>
      readC #[0, 1, 0, 7, 15, 31, 63, 127, 255, 511, 255, 2047, 4095, 255, 8447, 255, 33023, 131071, 262143, 524287] 17 h_12 h_15 S_8 (
        k_9 v32_1 h_15 ((17, h_12, h_15) :: H_8) S_8)) h_12 H_8 S_8 fun v32 h_14 H_9 S_9 =>
    optW (pPick v21 v32 (.bool false)) fun v33 =>
    K v33 h_14
  ) (
    optW (pOff 6 v2) fun v34 =>
    optW (rdRow false 1 v34 h_3) fun v35 =>
    optW (pIdxS 1 v35 a1) fun v37 =>
    optW (rdRow false 1 v37 h_3) fun v38 =>
    optW (lenSl v38) fun v39 =>
    optW (pBin Tryz.prog .neq 3 v39 (.int .i64 0)) fun v40 =>
    gopD (gB v40 false) (fun k_10 =>
      optW (pOff 7 v2) fun v42_1 =>
      k_10 v42_1 h_3 [] ((4, (ceOf 1 v37)) :: ((1, (ceOf 1 v34)) :: []))) h_3 [] ((4, (ceOf 1 v37)) :: ((1, (ceOf 1 v34)) :: [])) fun v42 h_16 H_10 S_10 =>
    gopD (gB v40 false) (fun k_11 =>
      histC #[0, 1, 0, 7, 15, 31, 63, 127, 255, 511, 255, 2047, 4095, 8191, 255, 16639, 65535, 131071] 9 (ceOf 1 v42) H_10 (
        optW (rdRow false 1 v42 h_16) fun v43_1 =>
        k_11 v43_1 h_16 H_10 ((9, (ceOf 1 v42)) :: S_10))) h_16 H_10 S_10 fun v43 h_17 H_11 S_11 =>
    gopD (gB v40 false) (fun k_12 =>
      k_12 a1 h_17 H_11 S_11) h_17 H_11 S_11 fun v44 h_18 H_12 S_12 =>
    gopD (gB v40 false) (fun k_13 =>
      optW (pIdxS 1 v43 v44) fun v45_1 =>
      k_13 v45_1 h_18 H_12 S_12) h_18 H_12 S_12 fun v45 h_19 H_13 S_13 =>
    gopD (gB v40 false) (fun k_14 =>
      histC #[0, 1, 0, 7, 15, 31, 63, 127, 255, 511, 255, 2047, 4095, 8191, 255, 16639, 65535, 131071] 12 (ceOf 1 v45) H_13 (
        optW (rdRow false 1 v45 h_19) fun v46_1 =>
        k_14 v46_1 h_19 H_13 ((12, (ceOf 1 v45)) :: S_13))) h_19 H_13 S_13 fun v46 h_20 H_14 S_14 =>
    gopD (gB v40 false) (fun k_15 =>
      optW (lenSl v46) fun v47_1 =>
      k_15 v47_1 h_20 H_14 S_14) h_20 H_14 S_14 fun v47 h_21 H_15 S_15 =>
    gopD (gB v40 false) (fun k_16 =>
      optW (pOff 1 v2) fun v48_1 =>
      k_16 v48_1 h_21 H_15 S_15) h_21 H_15 S_15 fun v48 h_22 H_16 S_16 =>
    gopD (gB v40 false) (fun k_17 =>
      histC #[0, 1, 0, 7, 15, 31, 63, 127, 255, 511, 255, 2047, 4095, 8191, 255, 16639, 65535, 131071] 15 (ceOf 1 v48) H_16 (
        optW (rdRow false 1 v48 h_22) fun v49_1 =>
        k_17 v49_1 h_22 H_16 ((15, (ceOf 1 v48)) :: S_16))) h_22 H_16 S_16 fun v49 h_23 H_17 S_17 =>
    gopD (gB v40 false) (fun k_18 =>
      optW (pBin Tryz.prog .neq 3 v47 v49) fun v50_1 =>
      k_18 v50_1 h_23 H_17 S_17) h_23 H_17 S_17 fun v50 h_24 H_18 S_18 =>
    optW (pPick v40 (.bool true) v50) fun v51 =>
    condW v51 (
      K (.bool false) h_24
    ) (
      optW (pOff 7 v2) fun v52 =>
      optW (rdRow false 1 v52 h_24) fun v53 =>
      optW (pIdxS 1 v53 a1) fun v55 =>
      optW (rdRow false 1 v55 h_24) fun v56 =>
      optW (lenSl v56) fun v57 =>
      loopE (fun I e h_25 =>
        optW (pBin Tryz.prog .lss 3 (e 58) (e 57)) fun v59 =>
        condW v59 (
          optW (pIdxS 1 (e 56) (e 58)) fun v60 =>
          optW (rdRow false 1 v60 h_25) fun v61 =>
          optW (pOff 2 (e 2)) fun v63 =>
          optW (rdRow false 1 v63 h_25) fun v64 =>
          optW (lenSl v64) fun v65 =>
          X 94 [v61, v65, (.func (.func 146) #[] #[(e 2), (e 5)])] h_25 fun v67 h_26 =>
          optW (pUn .not v67) fun v68 =>
          condW v68 (
            K (.bool false) h_26
          ) (
            optW (pBin Tryz.prog .add 3 (e 58) (.int .i64 1)) fun v69 =>
            I (pt (pt (pt (pt (pt (pt (pt (pt (pt (pt (pt (pt (pt e 59 v59) 60 v60) 61 v61) 7 v61) 62 v61) 63 v63) 64 v64) 65 v65) 66 (.func (.func 146) #[] #[(e 2), (e 5)])) 67 v67) 68 v68) 69 v69) 58 v69) h_26)
        ) (
          K (.bool true) h_25))
      (pt (pt (pt (pt (pt (pt (pt (pt (pt (pt (pt (pt (pt (pt (pt (pt (pt (pt (pt (pt (pt (pt (pt (pt (pt (pt (pt (pt (pt (pt (pt (pt (pt (pt (pt (envOf [a0, a1]) 2 v2) 4 (.bool false)) 8 (.func (.func 144) #[] #[v2])) 5 v5) 9 v9) 10 v10) 11 a1) 12 v12) 13 v13) 14 v14) 34 v34) 35 v35) 36 a1) 37 v37) 38 v38) 39 v39) 40 v40) 41 v40) 42 v42) 43 v43) 44 v44) 45 v45) 46 v46) 47 v47) 48 v48) 49 v49) 50 v50) 51 v51) 52 v52) 53 v53) 54 a1) 55 v55) 56 v56) 57 v57) 58 (.int .i64 0)) h_24))
theorem e98 (X : CallT) (a0 a1 : Value) (h : AH) (K : Value → AH → Prop) : cwp2 Tryz.prog X (Tryz.f98.body.getD .skip) (endW Tryz.prog Tryz.f98 K) (envOf [a0, a1]) h = s98 X a0 a1 h K := by kernel_rfl
theorem c98 {a0 a1 : Value} {h : AH} {K : Value → AH → Prop} (hs : s98 (callW Tryz.prog) a0 a1 h K) : callW Tryz.prog 98 [a0, a1] h K := callW_of Tryz.func98 (by kernel_rfl) (Eq.mpr (e98 _ a0 a1 _ _) hs)

/-- (*canopy/fold.parting).split (I at e: live [0, 1, 4, 5, 15, 16, 17], writes [5, 6, 7, 8, 9, 10, 17, 18, 19, 20, 21, 22, 23, 24, 25, 26, 27, 28, 29, 30, 31, 32, 33, 34, 35, 36, 37, 38, 39, 40, 41, 42, 43, 44, 45, 46, 47, 48, 49, 50]) -/
def s99 (X : CallT) (a0 a1 : Value) (h : AH) (K : Value → AH → Prop) : Prop :=
  newW none (.map [] 0) h fun i h_1 =>
  optW (pNilCheck a0) fun v13 =>
  optW (pOff 9 v13) fun v14 =>
  optW (rdRow false 1 v14 h_1) fun v15 =>
  optW (lenSl v15) fun v16 =>
  loopE (fun I e h_2 =>
    optW (pBin Tryz.prog .lss 3 (e 17) (e 16)) fun v18 =>
    condW v18 (
      optW (pIdxS 1 (e 15) (e 17)) fun v20 =>
      optW (rdRow false 1 v20 h_2) fun v21 =>
      optW (pBin Tryz.prog .lss 3 v21 (.int .i64 0)) fun v23 =>
      condW v23 (
        optW (pBin Tryz.prog .add 3 (e 17) (.int .i64 1)) fun v50 =>
        I (pt (pt (pt (pt (pt (pt (pt (pt (pt (pt e 18 v18) 19 (e 17)) 20 v20) 21 v21) 6 (e 17)) 7 v21) 22 v21) 23 v23) 50 v50) 17 v50) h_2
      ) (
        callV X (e 1) [(e 17)] h_2 fun v27 h_3 =>
        optW (bldArr [(.int .i64 0), (.int .i64 0)] 1 [(0, v21), (1, v27)]) fun v28 =>
        newR none [(.int .i64 0), (.int .i64 0)] h_3 fun v8 h_4 =>
        optW (pStore 2 v8 v28 h_4) fun h_5 =>
        optW (rdRow true 2 v8 h_5) fun v31 =>
        optW (pLookup Tryz.prog 238 (e 4) v31 true h_5) fun v32 =>
        optW (pExtract v32 0) fun v33 =>
        optW (pExtract v32 1) fun v34 =>
        optW (pUn .not v34) fun v36 =>
        condW v36 (
          optW (rdRow true 2 v8 h_5) fun v39 =>
          optW (pMapUpd Tryz.prog 238 (e 4) v39 (e 5) h_5) fun h_6 =>
          optW (pBin Tryz.prog .add 3 (e 5) (.int .i64 1)) fun v42 =>
          optW (pNilCheck (e 0)) fun v44 =>
          optW (pOff 9 v44) fun v45 =>
          optW (rdRow false 1 v45 h_6) fun v46 =>
          optW (pIdxS 1 v46 (e 17)) fun v49 =>
          optW (pStore 1 v49 (e 5) h_6) fun h_7 =>
          optW (pBin Tryz.prog .add 3 (e 17) (.int .i64 1)) fun v50_1 =>
          I (pt (pt (pt (pt (pt (pt (pt (pt (pt (pt (pt (pt (pt (pt (pt (pt (pt (pt (pt (pt (pt (pt (pt (pt (pt (pt (pt (pt (pt (pt (pt (pt (pt (pt (pt (pt (pt (pt (pt (pt (pt e 18 v18) 19 (e 17)) 20 v20) 21 v21) 6 (e 17)) 7 v21) 22 v21) 23 v23) 24 v21) 25 (e 1)) 26 (e 17)) 27 v27) 28 v28) 8 v8) 30 (e 4)) 31 v31) 32 v32) 29 v32) 33 v33) 34 v34) 9 v33) 10 v34) 35 v34) 36 v36) 37 (e 5)) 9 (e 5)) 38 (e 4)) 39 v39) 40 (e 5)) 41 (e 5)) 42 v42) 5 v42) 43 (e 0)) 44 v44) 45 v45) 46 v46) 47 (e 17)) 48 (e 5)) 49 v49) 50 v50_1) 17 v50_1) h_7
        ) (
          optW (pNilCheck (e 0)) fun v44_1 =>
          optW (pOff 9 v44_1) fun v45_1 =>
          optW (rdRow false 1 v45_1 h_5) fun v46_1 =>
          optW (pIdxS 1 v46_1 (e 17)) fun v49_1 =>
          optW (pStore 1 v49_1 v33 h_5) fun h_8 =>
          optW (pBin Tryz.prog .add 3 (e 17) (.int .i64 1)) fun v50_2 =>
          I (pt (pt (pt (pt (pt (pt (pt (pt (pt (pt (pt (pt (pt (pt (pt (pt (pt (pt (pt (pt (pt (pt (pt (pt (pt (pt (pt (pt (pt (pt (pt (pt (pt e 18 v18) 19 (e 17)) 20 v20) 21 v21) 6 (e 17)) 7 v21) 22 v21) 23 v23) 24 v21) 25 (e 1)) 26 (e 17)) 27 v27) 28 v28) 8 v8) 30 (e 4)) 31 v31) 32 v32) 29 v32) 33 v33) 34 v34) 9 v33) 10 v34) 35 v34) 36 v36) 43 (e 0)) 44 v44_1) 45 v45_1) 46 v46_1) 47 (e 17)) 48 v33) 49 v49_1) 50 v50_2) 17 v50_2) h_8))
    ) (
      optW (pNilCheck (e 0)) fun v53 =>
      optW (pOff 10 v53) fun v54 =>
      optW (pStore 1 v54 (e 5) h_2) fun h_9 =>
      K (.tuple #[]) h_9))
  (pt (pt (pt (pt (pt (pt (pt (pt (pt (envOf [a0, a1]) 11 (.map (some i))) 4 (.map (some i))) 5 (.int .i64 0)) 12 a0) 13 v13) 14 v14) 15 v15) 16 v16) 17 (.int .i64 0)) h_1
theorem e99 (X : CallT) (a0 a1 : Value) (h : AH) (K : Value → AH → Prop) : cwp2 Tryz.prog X (Tryz.f99.body.getD .skip) (endW Tryz.prog Tryz.f99 K) (envOf [a0, a1]) h = s99 X a0 a1 h K := by kernel_rfl
theorem c99 {a0 a1 : Value} {h : AH} {K : Value → AH → Prop} (hs : s99 (callW Tryz.prog) a0 a1 h K) : callW Tryz.prog 99 [a0, a1] h K := callW_of Tryz.func99 (by kernel_rfl) (Eq.mpr (e99 _ a0 a1 _ _) hs)

/-- canopy/fold.classes$1 () -/
def s100 (X : CallT) (a0 a1 : Value) (h : AH) (K : Value → AH → Prop) : Prop :=
  optW (pOff 2 a1) fun v4 =>
  optW (rdRow false 1 v4 h) fun v5 =>
  optW (pIdxS 1 v5 a0) fun v7 =>
  optW (rdRow false 1 v7 h) fun v8 =>
  K v8 h
theorem e100 (X : CallT) (a0 a1 : Value) (h : AH) (K : Value → AH → Prop) : cwp2 Tryz.prog X (Tryz.f100.body.getD .skip) (endW Tryz.prog Tryz.f100 K) (envOf [a0, a1]) h = s100 X a0 a1 h K := by kernel_rfl
theorem c100 {a0 a1 : Value} {h : AH} {K : Value → AH → Prop} (hs : s100 (callW Tryz.prog) a0 a1 h K) : callW Tryz.prog 100 [a0, a1] h K := callW_of Tryz.func100 (by kernel_rfl) (Eq.mpr (e100 _ a0 a1 _ _) hs)

/-- canopy/fold.classes$2 () -/
def s101 (X : CallT) (a0 a1 : Value) (h : AH) (K : Value → AH → Prop) : Prop :=
  optW (pOff 4 a1) fun v4 =>
  optW (rdRow false 1 v4 h) fun v5 =>
  optW (pIdxS 1 v5 a0) fun v7 =>
  optW (rdRow false 1 v7 h) fun v8 =>
  condW v8 (
    K (.int .i64 1) h
  ) (
    K (.int .i64 0) h)
theorem e101 (X : CallT) (a0 a1 : Value) (h : AH) (K : Value → AH → Prop) : cwp2 Tryz.prog X (Tryz.f101.body.getD .skip) (endW Tryz.prog Tryz.f101 K) (envOf [a0, a1]) h = s101 X a0 a1 h K := by kernel_rfl
theorem c101 {a0 a1 : Value} {h : AH} {K : Value → AH → Prop} (hs : s101 (callW Tryz.prog) a0 a1 h K) : callW Tryz.prog 101 [a0, a1] h K := callW_of Tryz.func101 (by kernel_rfl) (Eq.mpr (e101 _ a0 a1 _ _) hs)

/-- (*canopy/fold.parting).size (I at e: live [3, 9, 10, 11], writes [3, 5, 11, 12, 13, 14, 15, 16, 17, 18, 19]) -/
def s102 (X : CallT) (a0 : Value) (h : AH) (K : Value → AH → Prop) : Prop :=
  newR none [(.int .i64 0), (.int .i64 0)] h fun v2 h_1 =>
  optW (pNilCheck a0) fun v7 =>
  optW (pOff 9 v7) fun v8 =>
  optW (rdRow false 1 v8 h_1) fun v9 =>
  optW (lenSl v9) fun v10 =>
  loopE (fun I e h_2 =>
    optW (pBin Tryz.prog .lss 3 (e 11) (e 10)) fun v12 =>
    condW v12 (
      optW (pIdxS 1 (e 9) (e 11)) fun v13 =>
      optW (rdRow false 1 v13 h_2) fun v14 =>
      optW (pBin Tryz.prog .geq 3 v14 (.int .i64 0)) fun v16 =>
      condW v16 (
        optW (pBin Tryz.prog .add 3 (e 3) (.int .i64 1)) fun v18 =>
        optW (pBin Tryz.prog .add 3 (e 11) (.int .i64 1)) fun v19 =>
        I (pt (pt (pt (pt (pt (pt (pt (pt (pt (pt (pt e 12 v12) 13 v13) 14 v14) 5 v14) 15 v14) 16 v16) 17 (e 3)) 18 v18) 3 v18) 19 v19) 11 v19) h_2
      ) (
        optW (pBin Tryz.prog .add 3 (e 11) (.int .i64 1)) fun v19_1 =>
        I (pt (pt (pt (pt (pt (pt (pt (pt e 12 v12) 13 v13) 14 v14) 5 v14) 15 v14) 16 v16) 19 v19_1) 11 v19_1) h_2)
    ) (
      optW (pNilCheck (e 0)) fun v21 =>
      optW (pOff 10 v21) fun v22 =>
      optW (rdRow false 1 v22 h_2) fun v23 =>
      optW (bldArr [(.int .i64 0), (.int .i64 0)] 1 [(0, v23), (1, (e 3))]) fun v25 =>
      optW (pStore 2 (e 2) v25 h_2) fun h_3 =>
      optW (resList Tryz.prog (pt (pt (pt (pt (pt (pt (pt e 12 v12) 20 (e 0)) 21 v21) 22 v22) 23 v23) 24 (e 3)) 25 v25) h_3 Tryz.f102.results.toList) fun vs => K (resOf vs) h_3))
  (pt (pt (pt (pt (pt (pt (pt (pt (envOf [a0]) 2 v2) 3 (.int .i64 0)) 6 a0) 7 v7) 8 v8) 9 v9) 10 v10) 11 (.int .i64 0)) h_1
theorem e102 (X : CallT) (a0 : Value) (h : AH) (K : Value → AH → Prop) : cwp2 Tryz.prog X (Tryz.f102.body.getD .skip) (endW Tryz.prog Tryz.f102 K) (envOf [a0]) h = s102 X a0 h K := by kernel_rfl
theorem c102 {a0 : Value} {h : AH} {K : Value → AH → Prop} (hs : s102 (callW Tryz.prog) a0 h K) : callW Tryz.prog 102 [a0] h K := callW_of Tryz.func102 (by kernel_rfl) (Eq.mpr (e102 _ a0 _ _) hs)

/-- (*canopy/fold.parting).round (I at e: live [0, 2, 3, 17, 18], writes [4, 18, 19, 20, 21, 22, 23, 24]; I_1 at e_1: live [0, 2, 3, 26, 27], writes [5, 6, 27, 28, 29, 30, 31, 32, 33, 34, 35, 36, 37, 38, 39, 40, 41, 42, 43, 44, 45, 46, 47, 48, 49, 50, 51, 52, 53, 54, 55, 56]; I_2 at e_2: live [0, 2, 3, 5, 34, 35], writes [6, 35, 36, 37, 38, 39, 40, 41, 42, 43, 44, 45, 46, 47, 48, 49, 50, 51, 52, 53, 54, 55]) -/
def s103 (X : CallT) (a0 : Value) (h : AH) (K : Value → AH → Prop) : Prop :=
  optW (pNilCheck a0) fun v8 =>
  optW (pOff 0 v8) fun v9 =>
  optW (rdRow true 8 v9 h) fun v10 =>
  newR none [(.int .i64 0), (.int .i64 0), (.slice none 0 0), (.slice none 0 0), (.slice none 0 0), (.slice none 0 0), (.slice none 0 0), (.slice none 0 0)] h fun v2 h_1 =>
  optW (pStore 8 v2 v10 h_1) fun h_2 =>
  optW (pNilCheck a0) fun v12 =>
  optW (pOff 9 v12) fun v13 =>
  optW (rdRow false 1 v13 h_2) fun v14 =>
  X 51 [v14] h_2 fun v15 h_3 =>
  newR none [(.slice none 0 0)] h_3 fun v3 h_4 =>
  optW (pStore 1 v3 v15 h_4) fun h_5 =>
  optW (pOff 0 v2) fun v16 =>
  optW (rdRow false 1 v16 h_5) fun v17 =>
  loopE (fun I e h_6 =>
    optW (pBin Tryz.prog .lss 3 (e 18) (e 17)) fun v19 =>
    condW v19 (
      newR none [(.int .i64 0)] h_6 fun v4 h_7 =>
      optW (pStore 1 v4 (e 18) h_7) fun h_8 =>
      X 99 [(e 0), (.func (.func 147) #[] #[(e 3), (e 2), v4])] h_8 fun v23 h_9 =>
      optW (pBin Tryz.prog .add 3 (e 18) (.int .i64 1)) fun v24 =>
      I (pt (pt (pt (pt (pt (pt (pt (pt e 19 v19) 20 (e 18)) 4 v4) 21 (e 0)) 22 (.func (.func 147) #[] #[(e 3), (e 2), v4])) 23 v23) 24 v24) 18 v24) h_9
    ) (
      optW (pOff 1 (e 2)) fun v25 =>
      optW (rdRow false 1 v25 h_6) fun v26 =>
      loopE (fun I_1 e_1 h_10 =>
        optW (pBin Tryz.prog .lss 3 (e_1 27) (e_1 26)) fun v28 =>
        condW v28 (
          newR none [(.int .i64 0)] h_10 fun v5 h_11 =>
          optW (pStore 1 v5 (e_1 27) h_11) fun h_12 =>
          X 99 [(e_1 0), (.func (.func 148) #[] #[(e_1 2), (e_1 3), v5])] h_12 fun v32 h_13 =>
          optW (rdRow false 1 (e_1 3) h_13) fun v33 =>
          optW (lenSl v33) fun v34 =>
          loopE (fun I_2 e_2 h_14 =>
            optW (pBin Tryz.prog .lss 3 (e_2 35) (e_2 34)) fun v36 =>
            condW v36 (
              newR none [(.int .i64 0)] h_14 fun v6 h_15 =>
              optW (pStore 1 v6 (e_2 35) h_15) fun h_16 =>
              optW (rdRow false 1 (e_2 3) h_16) fun v38 =>
              optW (rdRow false 1 v6 h_16) fun v39 =>
              optW (pIdxS 1 v38 v39) fun v40 =>
              optW (rdRow false 1 v40 h_16) fun v41 =>
              optW (pBin Tryz.prog .lss 3 v41 (.int .i64 0)) fun v42 =>
              condW v42 (
                optW (pBin Tryz.prog .add 3 (e_2 35) (.int .i64 1)) fun v55 =>
                I_2 (pt (pt (pt (pt (pt (pt (pt (pt (pt (pt e_2 36 v36) 37 (e_2 35)) 6 v6) 38 v38) 39 v39) 40 v40) 41 v41) 42 v42) 55 v55) 35 v55) h_16
              ) (
                X 99 [(e_2 0), (.func (.func 149) #[] #[(e_2 2), (e_2 3), (e_2 5), v6])] h_16 fun v45 h_17 =>
                optW (pOff 2 (e_2 2)) fun v46 =>
                optW (rdRow false 1 v46 h_17) fun v47 =>
                optW (rdRow false 1 v6 h_17) fun v48 =>
                optW (pIdxS 1 v47 v48) fun v49 =>
                optW (rdRow false 1 v49 h_17) fun v50 =>
                optW (pBin Tryz.prog .neq 3 v50 (.int .i64 0)) fun v51 =>
                condW v51 (
                  X 99 [(e_2 0), (.func (.func 150) #[] #[(e_2 3), (e_2 2), v6, (e_2 5)])] h_17 fun v54 h_18 =>
                  optW (pBin Tryz.prog .add 3 (e_2 35) (.int .i64 1)) fun v55_1 =>
                  I_2 (pt (pt (pt (pt (pt (pt (pt (pt (pt (pt (pt (pt (pt (pt (pt (pt (pt (pt (pt (pt (pt (pt e_2 36 v36) 37 (e_2 35)) 6 v6) 38 v38) 39 v39) 40 v40) 41 v41) 42 v42) 43 (e_2 0)) 44 (.func (.func 149) #[] #[(e_2 2), (e_2 3), (e_2 5), v6])) 45 v45) 46 v46) 47 v47) 48 v48) 49 v49) 50 v50) 51 v51) 52 (e_2 0)) 53 (.func (.func 150) #[] #[(e_2 3), (e_2 2), v6, (e_2 5)])) 54 v54) 55 v55_1) 35 v55_1) h_18
                ) (
                  optW (pBin Tryz.prog .add 3 (e_2 35) (.int .i64 1)) fun v55_2 =>
                  I_2 (pt (pt (pt (pt (pt (pt (pt (pt (pt (pt (pt (pt (pt (pt (pt (pt (pt (pt (pt e_2 36 v36) 37 (e_2 35)) 6 v6) 38 v38) 39 v39) 40 v40) 41 v41) 42 v42) 43 (e_2 0)) 44 (.func (.func 149) #[] #[(e_2 2), (e_2 3), (e_2 5), v6])) 45 v45) 46 v46) 47 v47) 48 v48) 49 v49) 50 v50) 51 v51) 55 v55_2) 35 v55_2) h_17))
            ) (
              optW (pBin Tryz.prog .add 3 (e_2 27) (.int .i64 1)) fun v56 =>
              I_1 (pt (pt (pt e_2 36 v36) 56 v56) 27 v56) h_14))
          (pt (pt (pt (pt (pt (pt (pt (pt (pt e_1 28 v28) 29 (e_1 27)) 5 v5) 30 (e_1 0)) 31 (.func (.func 148) #[] #[(e_1 2), (e_1 3), v5])) 32 v32) 33 v33) 34 v34) 35 (.int .i64 0)) h_13
        ) (
          K (.tuple #[]) h_10))
      (pt (pt (pt (pt e 19 v19) 25 v25) 26 v26) 27 (.int .i64 0)) h_6))
  (pt (pt (pt (pt (pt (pt (pt (pt (pt (pt (pt (pt (pt (pt (envOf [a0]) 7 a0) 8 v8) 9 v9) 10 v10) 2 v2) 11 a0) 12 v12) 13 v13) 14 v14) 15 v15) 3 v3) 16 v16) 17 v17) 18 (.int .i64 0)) h_5
theorem e103 (X : CallT) (a0 : Value) (h : AH) (K : Value → AH → Prop) : cwp2 Tryz.prog X (Tryz.f103.body.getD .skip) (endW Tryz.prog Tryz.f103 K) (envOf [a0]) h = s103 X a0 h K := by kernel_rfl
theorem c103 {a0 : Value} {h : AH} {K : Value → AH → Prop} (hs : s103 (callW Tryz.prog) a0 h K) : callW Tryz.prog 103 [a0] h K := callW_of Tryz.func103 (by kernel_rfl) (Eq.mpr (e103 _ a0 _ _) hs)

end Go.Proofs.YtdlbiliolbdbmaaGreat.W
end

section
/- Go functions, printed by a program as predicates on what may come behind; each is the function. Conditions: none. -/
namespace Go.Proofs.YtdlbiliolbdbmaaGreat.W
open Go Go.AM
set_option linter.unusedVariables false
set_option maxRecDepth 100000


/-- (*canopy/seek.path).nearest (I at e: live [0, 1, 6, 7, 16], writes [7, 8, 9, 10, 11, 17, 18, 19, 20, 21, 22, 23, 24, 25, 26, 27, 28, 29, 30, 31, 32, 33, 34, 35, 36, 37, 38, 39, 40, 41, 42, 43, 44, 45, 46, 47, 48, 49, 50, 51, 52, 53, 54, 55, 56, 57, 58, 59, 60, 61, 62, 63, 64, 65, 66, 67, 68, 69, 70]) -/
def s115 (X : CallT) (a0 a1 : Value) (h : AH) (K : Value → AH → Prop) : Prop :=
  newR none [(.int .i64 0), (.bool false)] h fun v4 h_1 =>
  newR none [(.int .i64 0), (.bool false)] h_1 fun v6 h_2 =>
  optW (pNilCheck a0) fun v13 =>
  optW (pOff 1 v13) fun v14 =>
  optW (rdRow false 1 v14 h_2) fun v15 =>
  aRange Tryz.prog 151 v15 none h_2 fun v16 h_3 =>
  loopE (fun I e h_4 =>
    aNext (e 16) false h_4 fun v17 h_5 =>
    optW (pExtract v17 0) fun v18 =>
    condW v18 (
      optW (pEntry (e 16) h_5) fun v19 =>
      optW (pExtract v19 0) fun v20 =>
      optW (pExtract v19 1) fun v21 =>
      newR none [(.int .i64 0), (.bool false)] h_5 fun v8 h_6 =>
      optW (pStore 2 v8 v20 h_6) fun h_7 =>
      optW (rdRow true 2 v8 h_7) fun v24 =>
      optW (pLookup Tryz.prog 151 (e 1) v24 true h_7) fun v25 =>
      optW (pExtract v25 0) fun v26 =>
      optW (pExtract v25 1) fun v27 =>
      gopD (gB v27 false) (fun k =>
        k (e 7) h_7 [] []) h_7 [] [] fun v30 h_8 H S =>
      gopD (gB v27 false) (fun k_1 =>
        k_1 v30 h_8 H S) h_8 H S fun v31 h_9 H_1 S_1 =>
      gopD (gB v31 true) (fun k_2 =>
        k_2 v21 h_9 H_1 S_1) h_9 H_1 S_1 fun v32 h_10 H_2 S_2 =>
      gopD (gB v31 true) (fun k_3 =>
        k_3 (e 0) h_10 H_2 S_2) h_10 H_2 S_2 fun v33 h_11 H_3 S_3 =>
      gopD (gB v31 true) (fun k_4 =>
        optW (pNilCheck v33) fun v34_1 =>
        k_4 v34_1 h_11 H_3 S_3) h_11 H_3 S_3 fun v34 h_12 H_4 S_4 =>
      gopD (gB v31 true) (fun k_5 =>
        optW (pOff 1 v34) fun v35_1 =>
        k_5 v35_1 h_12 H_4 S_4) h_12 H_4 S_4 fun v35 h_13 H_5 S_5 =>
      gopD (gB v31 true) (fun k_6 =>
        histC #[0, 1, 3, 7, 15, 15, 47, 111, 239, 15, 1007, 2047, 4095, 8191, 8191, 24575, 57343, 122879, 8191, 516095, 1048575, 2097151, 4194303, 8388607, 4194303, 20971519, 67108863, 134217727, 268435455, 536870911, 268435455, 1342177279, 4294967295, 8589934591, 17179869183, 34359738367, 68719476735, 137438953471, 274877906943, 549755813887, 1099511627775, 2199023255551] 8 (ceOf 1 v35) H_5 (
          optW (rdRow false 1 v35 h_13) fun v36_1 =>
          k_6 v36_1 h_13 H_5 ((8, (ceOf 1 v35)) :: S_5))) h_13 H_5 S_5 fun v36 h_14 H_6 S_6 =>
      gopD (gB v31 true) (fun k_7 =>
        histC #[0, 1, 3, 7, 15, 15, 47, 111, 239, 15, 1007, 2047, 4095, 8191, 8191, 24575, 57343, 122879, 8191, 516095, 1048575, 2097151, 4194303, 8388607, 4194303, 20971519, 67108863, 134217727, 268435455, 536870911, 268435455, 1342177279, 4294967295, 8589934591, 17179869183, 34359738367, 68719476735, 137438953471, 274877906943, 549755813887, 1099511627775, 2199023255551] 9 (ceOf 2 (e 6)) H_6 (
          optW (rdRow true 2 (e 6) h_14) fun v37_1 =>
          k_7 v37_1 h_14 H_6 ((9, (ceOf 2 (e 6))) :: S_6))) h_14 H_6 S_6 fun v37 h_15 H_7 S_7 =>
      gopD (gB v31 true) (fun k_8 =>
        histC #[0, 1, 3, 7, 15, 15, 47, 111, 239, 15, 1007, 2047, 4095, 8191, 8191, 24575, 57343, 122879, 8191, 516095, 1048575, 2097151, 4194303, 8388607, 4194303, 20971519, 67108863, 134217727, 268435455, 536870911, 268435455, 1342177279, 4294967295, 8589934591, 17179869183, 34359738367, 68719476735, 137438953471, 274877906943, 549755813887, 1099511627775, 2199023255551] 10 (obOf v36) H_7 (
          optW (pLookup Tryz.prog 151 v36 v37 false h_15) fun v38_1 =>
          k_8 v38_1 h_15 H_7 ((10, (obOf v36)) :: S_7))) h_15 H_7 S_7 fun v38 h_16 H_8 S_8 =>
      gopD (gB v31 true) (fun k_9 =>
        optW (pBin Tryz.prog .gtr 3 v32 v38) fun v39_1 =>
        k_9 v39_1 h_16 H_8 S_8) h_16 H_8 S_8 fun v39 h_17 H_9 S_9 =>
      gopD (gB v31 true) (fun k_10 =>
        k_10 v39 h_17 H_9 S_9) h_17 H_9 S_9 fun v40 h_18 H_10 S_10 =>
      gopD (gB v40 false) (fun k_11 =>
        k_11 v21 h_18 H_10 S_10) h_18 H_10 S_10 fun v41 h_19 H_11 S_11 =>
      gopD (gB v40 false) (fun k_12 =>
        k_12 (e 0) h_19 H_11 S_11) h_19 H_11 S_11 fun v42 h_20 H_12 S_12 =>
      gopD (gB v40 false) (fun k_13 =>
        optW (pNilCheck v42) fun v43_1 =>
        k_13 v43_1 h_20 H_12 S_12) h_20 H_12 S_12 fun v43 h_21 H_13 S_13 =>
      gopD (gB v40 false) (fun k_14 =>
        optW (pOff 1 v43) fun v44_1 =>
        k_14 v44_1 h_21 H_13 S_13) h_21 H_13 S_13 fun v44 h_22 H_14 S_14 =>
      gopD (gB v40 false) (fun k_15 =>
        histC #[0, 1, 3, 7, 15, 15, 47, 111, 239, 15, 1007, 2047, 4095, 8191, 8191, 24575, 57343, 122879, 8191, 516095, 1048575, 2097151, 4194303, 8388607, 4194303, 20971519, 67108863, 134217727, 268435455, 536870911, 268435455, 1342177279, 4294967295, 8589934591, 17179869183, 34359738367, 68719476735, 137438953471, 274877906943, 549755813887, 1099511627775, 2199023255551] 17 (ceOf 1 v44) H_14 (
          optW (rdRow false 1 v44 h_22) fun v45_1 =>
          k_15 v45_1 h_22 H_14 ((17, (ceOf 1 v44)) :: S_14))) h_22 H_14 S_14 fun v45 h_23 H_15 S_15 =>
      gopD (gB v40 false) (fun k_16 =>
        histC #[0, 1, 3, 7, 15, 15, 47, 111, 239, 15, 1007, 2047, 4095, 8191, 8191, 24575, 57343, 122879, 8191, 516095, 1048575, 2097151, 4194303, 8388607, 4194303, 20971519, 67108863, 134217727, 268435455, 536870911, 268435455, 1342177279, 4294967295, 8589934591, 17179869183, 34359738367, 68719476735, 137438953471, 274877906943, 549755813887, 1099511627775, 2199023255551] 18 (ceOf 2 (e 6)) H_15 (
          optW (rdRow true 2 (e 6) h_23) fun v46_1 =>
          k_16 v46_1 h_23 H_15 ((18, (ceOf 2 (e 6))) :: S_15))) h_23 H_15 S_15 fun v46 h_24 H_16 S_16 =>
      gopD (gB v40 false) (fun k_17 =>
        histC #[0, 1, 3, 7, 15, 15, 47, 111, 239, 15, 1007, 2047, 4095, 8191, 8191, 24575, 57343, 122879, 8191, 516095, 1048575, 2097151, 4194303, 8388607, 4194303, 20971519, 67108863, 134217727, 268435455, 536870911, 268435455, 1342177279, 4294967295, 8589934591, 17179869183, 34359738367, 68719476735, 137438953471, 274877906943, 549755813887, 1099511627775, 2199023255551] 19 (obOf v45) H_16 (
          optW (pLookup Tryz.prog 151 v45 v46 false h_24) fun v47_1 =>
          k_17 v47_1 h_24 H_16 ((19, (obOf v45)) :: S_16))) h_24 H_16 S_16 fun v47 h_25 H_17 S_17 =>
      gopD (gB v40 false) (fun k_18 =>
        optW (pBin Tryz.prog .eql 3 v41 v47) fun v48_1 =>
        k_18 v48_1 h_25 H_17 S_17) h_25 H_17 S_17 fun v48 h_26 H_18 S_18 =>
      gopD (gB v40 false) (fun k_19 =>
        k_19 v48 h_26 H_18 S_18) h_26 H_18 S_18 fun v49 h_27 H_19 S_19 =>
      gopD (gB v49 true) (fun k_20 =>
        optW (pOff 0 v8) fun v50_1 =>
        k_20 v50_1 h_27 H_19 S_19) h_27 H_19 S_19 fun v50 h_28 H_20 S_20 =>
      gopD (gB v49 true) (fun k_21 =>
        histC #[0, 1, 3, 7, 15, 15, 47, 111, 239, 15, 1007, 2047, 4095, 8191, 8191, 24575, 57343, 122879, 8191, 516095, 1048575, 2097151, 4194303, 8388607, 4194303, 20971519, 67108863, 134217727, 268435455, 536870911, 268435455, 1342177279, 4294967295, 8589934591, 17179869183, 34359738367, 68719476735, 137438953471, 274877906943, 549755813887, 1099511627775, 2199023255551] 23 (ceOf 1 v50) H_20 (
          optW (rdRow false 1 v50 h_28) fun v51_1 =>
          k_21 v51_1 h_28 H_20 ((23, (ceOf 1 v50)) :: S_20))) h_28 H_20 S_20 fun v51 h_29 H_21 S_21 =>
      gopD (gB v49 true) (fun k_22 =>
        optW (pOff 0 (e 6)) fun v52_1 =>
        k_22 v52_1 h_29 H_21 S_21) h_29 H_21 S_21 fun v52 h_30 H_22 S_22 =>
      gopD (gB v49 true) (fun k_23 =>
        histC #[0, 1, 3, 7, 15, 15, 47, 111, 239, 15, 1007, 2047, 4095, 8191, 8191, 24575, 57343, 122879, 8191, 516095, 1048575, 2097151, 4194303, 8388607, 4194303, 20971519, 67108863, 134217727, 268435455, 536870911, 268435455, 1342177279, 4294967295, 8589934591, 17179869183, 34359738367, 68719476735, 137438953471, 274877906943, 549755813887, 1099511627775, 2199023255551] 25 (ceOf 1 v52) H_22 (
          optW (rdRow false 1 v52 h_30) fun v53_1 =>
          k_23 v53_1 h_30 H_22 ((25, (ceOf 1 v52)) :: S_22))) h_30 H_22 S_22 fun v53 h_31 H_23 S_23 =>
      gopD (gB v49 true) (fun k_24 =>
        optW (pBin Tryz.prog .gtr 3 v51 v53) fun v54_1 =>
        k_24 v54_1 h_31 H_23 S_23) h_31 H_23 S_23 fun v54 h_32 H_24 S_24 =>
      gopD (gB v49 true) (fun k_25 =>
        k_25 v54 h_32 H_24 S_24) h_32 H_24 S_24 fun v55 h_33 H_25 S_25 =>
      gopD (gB v55 false) (fun k_26 =>
        optW (pOff 0 v8) fun v56_1 =>
        k_26 v56_1 h_33 H_25 S_25) h_33 H_25 S_25 fun v56 h_34 H_26 S_26 =>
      gopD (gB v55 false) (fun k_27 =>
        histC #[0, 1, 3, 7, 15, 15, 47, 111, 239, 15, 1007, 2047, 4095, 8191, 8191, 24575, 57343, 122879, 8191, 516095, 1048575, 2097151, 4194303, 8388607, 4194303, 20971519, 67108863, 134217727, 268435455, 536870911, 268435455, 1342177279, 4294967295, 8589934591, 17179869183, 34359738367, 68719476735, 137438953471, 274877906943, 549755813887, 1099511627775, 2199023255551] 29 (ceOf 1 v56) H_26 (
          optW (rdRow false 1 v56 h_34) fun v57_1 =>
          k_27 v57_1 h_34 H_26 ((29, (ceOf 1 v56)) :: S_26))) h_34 H_26 S_26 fun v57 h_35 H_27 S_27 =>
      gopD (gB v55 false) (fun k_28 =>
        optW (pOff 0 (e 6)) fun v58_1 =>
        k_28 v58_1 h_35 H_27 S_27) h_35 H_27 S_27 fun v58 h_36 H_28 S_28 =>
      gopD (gB v55 false) (fun k_29 =>
        histC #[0, 1, 3, 7, 15, 15, 47, 111, 239, 15, 1007, 2047, 4095, 8191, 8191, 24575, 57343, 122879, 8191, 516095, 1048575, 2097151, 4194303, 8388607, 4194303, 20971519, 67108863, 134217727, 268435455, 536870911, 268435455, 1342177279, 4294967295, 8589934591, 17179869183, 34359738367, 68719476735, 137438953471, 274877906943, 549755813887, 1099511627775, 2199023255551] 31 (ceOf 1 v58) H_28 (
          optW (rdRow false 1 v58 h_36) fun v59_1 =>
          k_29 v59_1 h_36 H_28 ((31, (ceOf 1 v58)) :: S_28))) h_36 H_28 S_28 fun v59 h_37 H_29 S_29 =>
      gopD (gB v55 false) (fun k_30 =>
        optW (pBin Tryz.prog .eql 3 v57 v59) fun v60_1 =>
        k_30 v60_1 h_37 H_29 S_29) h_37 H_29 S_29 fun v60 h_38 H_30 S_30 =>
      gopD (gB v55 false) (fun k_31 =>
        k_31 v60 h_38 H_30 S_30) h_38 H_30 S_30 fun v61 h_39 H_31 S_31 =>
      gopD (gB v61 true) (fun k_32 =>
        optW (pOff 1 v8) fun v62_1 =>
        k_32 v62_1 h_39 H_31 S_31) h_39 H_31 S_31 fun v62 h_40 H_32 S_32 =>
      gopD (gB v61 true) (fun k_33 =>
        histC #[0, 1, 3, 7, 15, 15, 47, 111, 239, 15, 1007, 2047, 4095, 8191, 8191, 24575, 57343, 122879, 8191, 516095, 1048575, 2097151, 4194303, 8388607, 4194303, 20971519, 67108863, 134217727, 268435455, 536870911, 268435455, 1342177279, 4294967295, 8589934591, 17179869183, 34359738367, 68719476735, 137438953471, 274877906943, 549755813887, 1099511627775, 2199023255551] 35 (ceOf 1 v62) H_32 (
          optW (rdRow false 1 v62 h_40) fun v63_1 =>
          k_33 v63_1 h_40 H_32 ((35, (ceOf 1 v62)) :: S_32))) h_40 H_32 S_32 fun v63 h_41 H_33 S_33 =>
      gopD (gB v55 false) (fun k_34 =>
        optW (pPick v61 v63 (.bool false)) fun v64_1 =>
        k_34 v64_1 h_41 H_33 S_33) h_41 H_33 S_33 fun v64 h_42 H_34 S_34 =>
      gopD (gB v49 true) (fun k_35 =>
        optW (pPick v55 (.bool true) v64) fun v65_1 =>
        k_35 v65_1 h_42 H_34 S_34) h_42 H_34 S_34 fun v65 h_43 H_35 S_35 =>
      gopD (gB v40 false) (fun k_36 =>
        optW (pPick v49 v65 (.bool false)) fun v66_1 =>
        k_36 v66_1 h_43 H_35 S_35) h_43 H_35 S_35 fun v66 h_44 H_36 S_36 =>
      gopD (gB v31 true) (fun k_37 =>
        optW (pPick v40 (.bool true) v66) fun v67_1 =>
        k_37 v67_1 h_44 H_36 S_36) h_44 H_36 S_36 fun v67 h_45 H_37 S_37 =>
      gopD (gB v27 false) (fun k_38 =>
        optW (pPick v31 v67 (.bool false)) fun v68_1 =>
        k_38 v68_1 h_45 H_37 S_37) h_45 H_37 S_37 fun v68 h_46 H_38 S_38 =>
      optW (pPick v27 (.bool true) v68) fun v69 =>
      condW v69 (
        I (pt (pt (pt (pt (pt (pt (pt (pt (pt (pt (pt (pt (pt (pt (pt (pt (pt (pt (pt (pt (pt (pt (pt (pt (pt (pt (pt (pt (pt (pt (pt (pt (pt (pt (pt (pt (pt (pt (pt (pt (pt (pt (pt (pt (pt (pt (pt (pt (pt (pt (pt (pt (pt (pt (pt (pt (pt e 17 v17) 18 v18) 19 v19) 20 v20) 21 v21) 8 v8) 9 v21) 23 (e 1)) 24 v24) 25 v25) 22 v25) 26 v26) 27 v27) 10 v26) 11 v27) 28 v27) 29 v27) 30 v30) 31 v31) 32 v32) 33 v33) 34 v34) 35 v35) 36 v36) 37 v37) 38 v38) 39 v39) 40 v40) 41 v41) 42 v42) 43 v43) 44 v44) 45 v45) 46 v46) 47 v47) 48 v48) 49 v49) 50 v50) 51 v51) 52 v52) 53 v53) 54 v54) 55 v55) 56 v56) 57 v57) 58 v58) 59 v59) 60 v60) 61 v61) 62 v62) 63 v63) 64 v64) 65 v65) 66 v66) 67 v67) 68 v68) 69 v69) h_46
      ) (
        optW (rdRow true 2 v8 h_46) fun v70 =>
        optW (pStore 2 (e 6) v70 h_46) fun h_47 =>
        I (pt (pt (pt (pt (pt (pt (pt (pt (pt (pt (pt (pt (pt (pt (pt (pt (pt (pt (pt (pt (pt (pt (pt (pt (pt (pt (pt (pt (pt (pt (pt (pt (pt (pt (pt (pt (pt (pt (pt (pt (pt (pt (pt (pt (pt (pt (pt (pt (pt (pt (pt (pt (pt (pt (pt (pt (pt (pt (pt e 17 v17) 18 v18) 19 v19) 20 v20) 21 v21) 8 v8) 9 v21) 23 (e 1)) 24 v24) 25 v25) 22 v25) 26 v26) 27 v27) 10 v26) 11 v27) 28 v27) 29 v27) 30 v30) 31 v31) 32 v32) 33 v33) 34 v34) 35 v35) 36 v36) 37 v37) 38 v38) 39 v39) 40 v40) 41 v41) 42 v42) 43 v43) 44 v44) 45 v45) 46 v46) 47 v47) 48 v48) 49 v49) 50 v50) 51 v51) 52 v52) 53 v53) 54 v54) 55 v55) 56 v56) 57 v57) 58 v58) 59 v59) 60 v60) 61 v61) 62 v62) 63 v63) 64 v64) 65 v65) 66 v66) 67 v67) 68 v68) 69 v69) 70 v70) 7 (.bool true)) h_47)
    ) (
      optW (rdRow true 2 (e 6) h_5) fun v71 =>
      optW (pStore 2 (e 4) v71 h_5) fun h_48 =>
      optW (resList Tryz.prog (pt (pt (pt (pt (pt e 17 v17) 18 v18) 71 v71) 72 (e 7)) 5 (e 7)) h_48 Tryz.f115.results.toList) fun vs => K (resOf vs) h_48))
  (pt (pt (pt (pt (pt (pt (pt (pt (pt (envOf [a0, a1]) 4 v4) 5 (.bool false)) 6 v6) 7 (.bool false)) 12 a0) 13 v13) 14 v14) 15 v15) 16 v16) h_3
theorem e115 (X : CallT) (a0 a1 : Value) (h : AH) (K : Value → AH → Prop) : cwp2 Tryz.prog X (Tryz.f115.body.getD .skip) (endW Tryz.prog Tryz.f115 K) (envOf [a0, a1]) h = s115 X a0 a1 h K := by kernel_rfl
theorem c115 {a0 a1 : Value} {h : AH} {K : Value → AH → Prop} (hs : s115 (callW Tryz.prog) a0 a1 h K) : callW Tryz.prog 115 [a0, a1] h K := callW_of Tryz.func115 (by kernel_rfl) (Eq.mpr (e115 _ a0 a1 _ _) hs)

/-- slices.Grow[[]int,int] () -/
def s116 (X : CallT) (a0 a1 : Value) (h : AH) (K : Value → AH → Prop) : Prop :=
  optW (pBin Tryz.prog .lss 3 a1 (.int .i64 0)) fun v6 =>
  condW v6 (
    False
  ) (
    optW (pCap Tryz.prog 22 a0) fun v10 =>
    optW (lenSl a0) fun v12 =>
    optW (pBin Tryz.prog .sub 3 v10 v12) fun v13 =>
    optW (pBin Tryz.prog .sub 3 a1 v13) fun v14 =>
    optW (pBin Tryz.prog .gtr 3 v14 (.int .i64 0)) fun v16 =>
    condW v16 (
      optW (pCap Tryz.prog 22 a0) fun v19 =>
      optW (pSliceSl 1 a0 none (some v19) none) fun v20 =>
      appZI 1 [(.int .i64 0)] v20 v14 h fun v22 h_1 =>
      optW (lenSl a0) fun v24 =>
      optW (pSliceSl 1 v22 none (some v24) none) fun v25 =>
      K v25 h_1
    ) (
      K a0 h))
theorem e116 (X : CallT) (a0 a1 : Value) (h : AH) (K : Value → AH → Prop) : cwp2 Tryz.prog X (Tryz.f116.body.getD .skip) (endW Tryz.prog Tryz.f116 K) (envOf [a0, a1]) h = s116 X a0 a1 h K := by kernel_rfl
theorem c116 {a0 a1 : Value} {h : AH} {K : Value → AH → Prop} (hs : s116 (callW Tryz.prog) a0 a1 h K) : callW Tryz.prog 116 [a0, a1] h K := callW_of Tryz.func116 (by kernel_rfl) (Eq.mpr (e116 _ a0 a1 _ _) hs)

end Go.Proofs.YtdlbiliolbdbmaaGreat.W
end

section
/- Go functions, printed by a program as predicates on what may come behind; each is the function. Conditions: none. -/
namespace Go.Proofs.YtdlbiliolbdbmaaGreat.W
open Go Go.AM
set_option linter.unusedVariables false
set_option maxRecDepth 100000

end Go.Proofs.YtdlbiliolbdbmaaGreat.W
end
