/- Parts of a proof, joined by a program. Conditions: none. -/
import Derived.Test.YtlenlhlipmkeeaaRA1
import Derived.Test.YtlenlhlipmkeeaaProg

section
/- Go functions, printed by a program as predicates on what may come behind; each is the function. Conditions: none. -/
namespace Go.Proofs.Ytlenlhlipmkeeaa.W
open Go Go.AM
set_option linter.unusedVariables false
set_option maxRecDepth 100000


/-- (*canopy/canopylaw8.maker).next () -/
def s30 (X : CallT) (a0 a1 : Value) (h : AH) (K : Value → AH → Prop) : Prop :=
  optW (pNilCheck a0) fun v6 =>
  optW (pOff 2 v6) fun v7 =>
  optW (rdRow false 1 v7 h) fun v8 =>
  optW (pNilCheck a0) fun v10 =>
  optW (pOff 1 v10) fun v11 =>
  optW (rdRow false 1 v11 h) fun v12 =>
  optW (lenSl v12) fun v13 =>
  optW (pBin Try.prog .geq 3 v8 v13) fun v14 =>
  condW v14 (
    K (.int .i64 0) h
  ) (
    optW (pNilCheck a0) fun v16 =>
    optW (pOff 2 v16) fun v17 =>
    optW (rdRow false 1 v17 h) fun v18 =>
    optW (pBin Try.prog .add 3 v18 (.int .i64 1)) fun v19 =>
    optW (pNilCheck a0) fun v20 =>
    optW (pOff 2 v20) fun v21 =>
    optW (pStore 1 v21 v19 h) fun h_1 =>
    optW (pNilCheck a0) fun v23 =>
    optW (pOff 1 v23) fun v24 =>
    optW (rdRow false 1 v24 h_1) fun v25 =>
    optW (pNilCheck a0) fun v27 =>
    optW (pOff 2 v27) fun v28 =>
    optW (rdRow false 1 v28 h_1) fun v29 =>
    optW (pBin Try.prog .sub 3 v29 (.int .i64 1)) fun v30 =>
    optW (pIdxS 1 v25 v30) fun v31 =>
    optW (rdRow false 1 v31 h_1) fun v32 =>
    X 15 [v32, a1] h_1 fun v34 h_2 =>
    K v34 h_2)
theorem e30 (X : CallT) (a0 a1 : Value) (h : AH) (K : Value → AH → Prop) : cwp2 Try.prog X (Try.f30.body.getD .skip) (endW Try.prog Try.f30 K) (envOf [a0, a1]) h = s30 X a0 a1 h K := by kernel_rfl
theorem c30 {a0 a1 : Value} {h : AH} {K : Value → AH → Prop} (hs : s30 (callW Try.prog) a0 a1 h K) : callW Try.prog 30 [a0, a1] h K := callW_of Try.func30 (by kernel_rfl) (Eq.mpr (e30 _ a0 a1 _ _) hs)

/-- (*canopy/canopylaw8.maker).make (J at e: live [0, 1, 4, 5]; J_1 at e_1: live [0, 4]; J_2 at e_2: live [0, 1, 4, 5, 13, 23]) -/
def s31 (X : CallT) (a0 a1 : Value) (h : AH) (K : Value → AH → Prop) : Prop :=
  newR none [(.int .i64 0), (.string (bs [])), (.slice none 0 0)] h fun v4 h_1 =>
  X 30 [a0, (.int .i64 14)] h_1 fun v8 h_2 =>
  joinE (fun J =>
    optW (pBin Try.prog .leq 3 a1 (.int .i64 0)) fun v10 =>
    condW v10 (
      optW (pBin Try.prog .rem 3 v8 (.int .i64 6)) fun v12 =>
      J (pt (pt (pt (pt (pt (pt (pt (pt (pt (envOf [a0, a1]) 4 v4) 7 a0) 8 v8) 5 v8) 9 a1) 10 v10) 11 v8) 12 v12) 5 v12) h_2
    ) (
      J (pt (pt (pt (pt (pt (pt (envOf [a0, a1]) 4 v4) 7 a0) 8 v8) 5 v8) 9 a1) 10 v10) h_2))
  (fun e h_3 =>
    joinE (fun J_1 =>
      optW (pBin Try.prog .eql 3 (e 5) (.int .i64 0)) fun v15 =>
      condW v15 (
        optW (bld [(.int .i64 0), (.string (bs [])), (.slice none 0 0)] [(0, 1), (1, 1), (2, 1)] [(0, (.int .i64 1))]) fun v16 =>
        optW (pStore 3 (e 4) v16 h_3) fun h_7 =>
        optW (resList Try.prog (pt (pt (pt (pt e 13 (e 5)) 15 v15) 14 v15) 16 v16) h_7 Try.f31.results.toList) fun vs => K (resOf vs) h_7
      ) (
        optW (pBin Try.prog .eql 3 (e 5) (.int .i64 1)) fun v18 =>
        condW v18 (
          optW (bld [(.int .i64 0), (.string (bs [])), (.slice none 0 0)] [(0, 1), (1, 1), (2, 1)] [(0, (.int .i64 2))]) fun v19 =>
          optW (pStore 3 (e 4) v19 h_3) fun h_8 =>
          optW (resList Try.prog (pt (pt (pt (pt (pt (pt e 13 (e 5)) 15 v15) 14 v15) 18 v18) 17 v18) 19 v19) h_8 Try.f31.results.toList) fun vs => K (resOf vs) h_8
        ) (
          optW (pBin Try.prog .eql 3 (e 5) (.int .i64 2)) fun v21 =>
          condW v21 (
            optW (bld [(.int .i64 0), (.string (bs [])), (.slice none 0 0)] [(0, 1), (1, 1), (2, 1)] [(0, (.int .i64 3))]) fun v22 =>
            optW (pStore 3 (e 4) v22 h_3) fun h_9 =>
            optW (resList Try.prog (pt (pt (pt (pt (pt (pt (pt (pt e 13 (e 5)) 15 v15) 14 v15) 18 v18) 17 v18) 21 v21) 20 v21) 22 v22) h_9 Try.f31.results.toList) fun vs => K (resOf vs) h_9
          ) (
            joinE (fun J_2 =>
              optW (pBin Try.prog .eql 3 (e 5) (.int .i64 6)) fun v24 =>
              condW v24 (
                J_2 (pt (pt (pt (pt (pt (pt (pt (pt (pt e 13 (e 5)) 15 v15) 14 v15) 18 v18) 17 v18) 21 v21) 20 v21) 24 v24) 23 v24) h_3
              ) (
                optW (pBin Try.prog .eql 3 (e 5) (.int .i64 7)) fun v25 =>
                condW v25 (
                  J_2 (pt (pt (pt (pt (pt (pt (pt (pt (pt (pt (pt e 13 (e 5)) 15 v15) 14 v15) 18 v18) 17 v18) 21 v21) 20 v21) 24 v24) 23 v24) 25 v25) 23 v25) h_3
                ) (
                  optW (pBin Try.prog .eql 3 (e 5) (.int .i64 8)) fun v26 =>
                  condW v26 (
                    J_2 (pt (pt (pt (pt (pt (pt (pt (pt (pt (pt (pt (pt (pt e 13 (e 5)) 15 v15) 14 v15) 18 v18) 17 v18) 21 v21) 20 v21) 24 v24) 23 v24) 25 v25) 23 v25) 26 v26) 23 v26) h_3
                  ) (
                    optW (pBin Try.prog .eql 3 (e 5) (.int .i64 9)) fun v27 =>
                    condW v27 (
                      J_2 (pt (pt (pt (pt (pt (pt (pt (pt (pt (pt (pt (pt (pt (pt (pt e 13 (e 5)) 15 v15) 14 v15) 18 v18) 17 v18) 21 v21) 20 v21) 24 v24) 23 v24) 25 v25) 23 v25) 26 v26) 23 v26) 27 v27) 23 v27) h_3
                    ) (
                      optW (pBin Try.prog .eql 3 (e 5) (.int .i64 10)) fun v28 =>
                      J_2 (pt (pt (pt (pt (pt (pt (pt (pt (pt (pt (pt (pt (pt (pt (pt (pt (pt e 13 (e 5)) 15 v15) 14 v15) 18 v18) 17 v18) 21 v21) 20 v21) 24 v24) 23 v24) 25 v25) 23 v25) 26 v26) 23 v26) 27 v27) 23 v27) 28 v28) 23 v28) h_3)))))
            (fun e_2 h_10 =>
              condW (e_2 23) (
                optW (pBin Try.prog .sub 3 (e_2 1) (.int .i64 1)) fun v31 =>
                X 31 [(e_2 0), v31] h_10 fun v32 h_11 =>
                optW (pBin Try.prog .sub 3 (e_2 1) (.int .i64 1)) fun v35 =>
                X 31 [(e_2 0), v35] h_11 fun v36 h_12 =>
                optW (bldSl 3 [(.int .i64 0), (.string (bs [])), (.slice none 0 0)] 2 [(0, v32), (1, v36)]) fun c =>
                newW none (.row c true) h_12 fun i h_13 =>
                X 30 [(e_2 0), (.int .i64 3)] h_13 fun v39 h_14 =>
                optW (pBin Try.prog .eql 3 v39 (.int .i64 0)) fun v40 =>
                condW v40 (
                  optW (pBin Try.prog .sub 3 (e_2 1) (.int .i64 1)) fun v44 =>
                  X 31 [(e_2 0), v44] h_14 fun v45 h_15 =>
                  optW (bldSl 3 [(.int .i64 0), (.string (bs [])), (.slice none 0 0)] 1 [(0, v45)]) fun c_1 =>
                  newW none (.row c_1 true) h_15 fun i_1 h_16 =>
                  appSl 3 (.slice (some ⟨i, 0, none⟩) 2 2) (.slice (some ⟨i_1, 0, none⟩) 1 1) h_16 fun v47 h_17 =>
                  optW (pBin Try.prog .rem 3 (e_2 5) (.int .i64 2)) fun v49 =>
                  optW (pBin Try.prog .add 3 (.int .i64 5) v49) fun v50 =>
                  optW (bld [(.int .i64 0), (.string (bs [])), (.slice none 0 0)] [(0, 1), (1, 1), (2, 1)] [(0, v50), (2, v47)]) fun v52 =>
                  optW (pStore 3 (e_2 4) v52 h_17) fun h_18 =>
                  optW (resList Try.prog (pt (pt (pt (pt (pt (pt (pt (pt (pt (pt (pt (pt (pt (pt (pt (pt (pt (pt (pt (pt (pt (pt (pt (pt (pt (pt e_2 29 (e_2 0)) 30 (e_2 1)) 31 v31) 32 v32) 33 (e_2 0)) 34 (e_2 1)) 35 v35) 36 v36) 37 (.slice (some ⟨i, 0, none⟩) 2 2)) 6 (.slice (some ⟨i, 0, none⟩) 2 2)) 38 (e_2 0)) 39 v39) 40 v40) 41 (.slice (some ⟨i, 0, none⟩) 2 2)) 42 (e_2 0)) 43 (e_2 1)) 44 v44) 45 v45) 46 (.slice (some ⟨i_1, 0, none⟩) 1 1)) 47 v47) 6 v47) 48 (e_2 5)) 49 v49) 50 v50) 51 v47) 52 v52) h_18 Try.f31.results.toList) fun vs => K (resOf vs) h_18
                ) (
                  optW (pBin Try.prog .rem 3 (e_2 5) (.int .i64 2)) fun v49_1 =>
                  optW (pBin Try.prog .add 3 (.int .i64 5) v49_1) fun v50_1 =>
                  optW (bld [(.int .i64 0), (.string (bs [])), (.slice none 0 0)] [(0, 1), (1, 1), (2, 1)] [(0, v50_1), (2, (.slice (some ⟨i, 0, none⟩) 2 2))]) fun v52_1 =>
                  optW (pStore 3 (e_2 4) v52_1 h_14) fun h_19 =>
                  optW (resList Try.prog (pt (pt (pt (pt (pt (pt (pt (pt (pt (pt (pt (pt (pt (pt (pt (pt (pt (pt e_2 29 (e_2 0)) 30 (e_2 1)) 31 v31) 32 v32) 33 (e_2 0)) 34 (e_2 1)) 35 v35) 36 v36) 37 (.slice (some ⟨i, 0, none⟩) 2 2)) 6 (.slice (some ⟨i, 0, none⟩) 2 2)) 38 (e_2 0)) 39 v39) 40 v40) 48 (e_2 5)) 49 v49_1) 50 v50_1) 51 (.slice (some ⟨i, 0, none⟩) 2 2)) 52 v52_1) h_19 Try.f31.results.toList) fun vs => K (resOf vs) h_19)
              ) (
                optW (pBin Try.prog .eql 3 (e_2 13) (.int .i64 11)) fun v54 =>
                condW v54 (
                  condW v54 (
                    X 30 [(e_2 0), (.int .i64 3)] h_10 fun v58 h_20 =>
                    optW (pBin Try.prog .add 3 (.int .i64 7) v58) fun v59 =>
                    optW (pBin Try.prog .sub 3 (e_2 1) (.int .i64 1)) fun v62 =>
                    X 31 [(e_2 0), v62] h_20 fun v63 h_21 =>
                    optW (bldSl 3 [(.int .i64 0), (.string (bs [])), (.slice none 0 0)] 1 [(0, v63)]) fun c_2 =>
                    newW none (.row c_2 true) h_21 fun i_2 h_22 =>
                    optW (bld [(.int .i64 0), (.string (bs [])), (.slice none 0 0)] [(0, 1), (1, 1), (2, 1)] [(0, v59), (2, (.slice (some ⟨i_2, 0, none⟩) 1 1))]) fun v65 =>
                    optW (pStore 3 (e_2 4) v65 h_22) fun h_23 =>
                    optW (resList Try.prog (pt (pt (pt (pt (pt (pt (pt (pt (pt (pt (pt e_2 54 v54) 53 v54) 57 (e_2 0)) 58 v58) 59 v59) 60 (e_2 0)) 61 (e_2 1)) 62 v62) 63 v63) 64 (.slice (some ⟨i_2, 0, none⟩) 1 1)) 65 v65) h_23 Try.f31.results.toList) fun vs => K (resOf vs) h_23
                  ) (
                    J_1 (pt (pt e_2 54 v54) 53 v54) h_10)
                ) (
                  optW (pBin Try.prog .eql 3 (e_2 13) (.int .i64 12)) fun v55 =>
                  condW v55 (
                    condW v55 (
                      X 30 [(e_2 0), (.int .i64 3)] h_10 fun v58_1 h_24 =>
                      optW (pBin Try.prog .add 3 (.int .i64 7) v58_1) fun v59_1 =>
                      optW (pBin Try.prog .sub 3 (e_2 1) (.int .i64 1)) fun v62_1 =>
                      X 31 [(e_2 0), v62_1] h_24 fun v63_1 h_25 =>
                      optW (bldSl 3 [(.int .i64 0), (.string (bs [])), (.slice none 0 0)] 1 [(0, v63_1)]) fun c_3 =>
                      newW none (.row c_3 true) h_25 fun i_3 h_26 =>
                      optW (bld [(.int .i64 0), (.string (bs [])), (.slice none 0 0)] [(0, 1), (1, 1), (2, 1)] [(0, v59_1), (2, (.slice (some ⟨i_3, 0, none⟩) 1 1))]) fun v65_1 =>
                      optW (pStore 3 (e_2 4) v65_1 h_26) fun h_27 =>
                      optW (resList Try.prog (pt (pt (pt (pt (pt (pt (pt (pt (pt (pt (pt (pt (pt e_2 54 v54) 53 v54) 55 v55) 53 v55) 57 (e_2 0)) 58 v58_1) 59 v59_1) 60 (e_2 0)) 61 (e_2 1)) 62 v62_1) 63 v63_1) 64 (.slice (some ⟨i_3, 0, none⟩) 1 1)) 65 v65_1) h_27 Try.f31.results.toList) fun vs => K (resOf vs) h_27
                    ) (
                      J_1 (pt (pt (pt (pt e_2 54 v54) 53 v54) 55 v55) 53 v55) h_10)
                  ) (
                    optW (pBin Try.prog .eql 3 (e_2 13) (.int .i64 13)) fun v56 =>
                    condW v56 (
                      X 30 [(e_2 0), (.int .i64 3)] h_10 fun v58_2 h_28 =>
                      optW (pBin Try.prog .add 3 (.int .i64 7) v58_2) fun v59_2 =>
                      optW (pBin Try.prog .sub 3 (e_2 1) (.int .i64 1)) fun v62_2 =>
                      X 31 [(e_2 0), v62_2] h_28 fun v63_2 h_29 =>
                      optW (bldSl 3 [(.int .i64 0), (.string (bs [])), (.slice none 0 0)] 1 [(0, v63_2)]) fun c_4 =>
                      newW none (.row c_4 true) h_29 fun i_4 h_30 =>
                      optW (bld [(.int .i64 0), (.string (bs [])), (.slice none 0 0)] [(0, 1), (1, 1), (2, 1)] [(0, v59_2), (2, (.slice (some ⟨i_4, 0, none⟩) 1 1))]) fun v65_2 =>
                      optW (pStore 3 (e_2 4) v65_2 h_30) fun h_31 =>
                      optW (resList Try.prog (pt (pt (pt (pt (pt (pt (pt (pt (pt (pt (pt (pt (pt (pt (pt e_2 54 v54) 53 v54) 55 v55) 53 v55) 56 v56) 53 v56) 57 (e_2 0)) 58 v58_2) 59 v59_2) 60 (e_2 0)) 61 (e_2 1)) 62 v62_2) 63 v63_2) 64 (.slice (some ⟨i_4, 0, none⟩) 1 1)) 65 v65_2) h_31 Try.f31.results.toList) fun vs => K (resOf vs) h_31
                    ) (
                      J_1 (pt (pt (pt (pt (pt (pt e_2 54 v54) 53 v54) 55 v55) 53 v55) 56 v56) 53 v56) h_10)))))))))
    (fun e_1 h_4 =>
      optW (pNilCheck (e_1 0)) fun v67 =>
      optW (pOff 0 v67) fun v68 =>
      optW (rdRow false 1 v68 h_4) fun v69 =>
      optW (pNilCheck (e_1 0)) fun v72 =>
      optW (pOff 0 v72) fun v73 =>
      optW (rdRow false 1 v73 h_4) fun v74 =>
      optW (lenSl v74) fun v75 =>
      X 30 [(e_1 0), v75] h_4 fun v76 h_5 =>
      (∀ x ∈ (ceOf 1 v68), vw x h_4 = vw x h_5) ∧
      optW (pIdxS 1 v69 v76) fun v77 =>
      optW (rdRow false 1 v77 h_5) fun v78 =>
      optW (bld [(.int .i64 0), (.string (bs [])), (.slice none 0 0)] [(0, 1), (1, 1), (2, 1)] [(0, (.int .i64 4)), (1, v78)]) fun v79 =>
      optW (pStore 3 (e_1 4) v79 h_5) fun h_6 =>
      optW (resList Try.prog (pt (pt (pt (pt (pt (pt (pt (pt (pt (pt (pt (pt (pt (pt e_1 66 (e_1 0)) 67 v67) 68 v68) 69 v69) 70 (e_1 0)) 71 (e_1 0)) 72 v72) 73 v73) 74 v74) 75 v75) 76 v76) 77 v77) 78 v78) 79 v79) h_6 Try.f31.results.toList) fun vs => K (resOf vs) h_6))
theorem e31 (X : CallT) (a0 a1 : Value) (h : AH) (K : Value → AH → Prop) : cwp2 Try.prog X (Try.f31.body.getD .skip) (endW Try.prog Try.f31 K) (envOf [a0, a1]) h = s31 X a0 a1 h K := by kernel_rfl
theorem c31 {a0 a1 : Value} {h : AH} {K : Value → AH → Prop} (hs : s31 (callW Try.prog) a0 a1 h K) : callW Try.prog 31 [a0, a1] h K := callW_of Try.func31 (by kernel_rfl) (Eq.mpr (e31 _ a0 a1 _ _) hs)

/-- (*canopy/schema.parser).next (I at e: live [0], writes [11, 12, 13, 14, 15, 16, 17, 18, 19, 20, 21, 22, 23, 24, 25, 26, 27, 28, 29, 30, 31, 32, 33, 34, 35, 36, 37, 38, 39, 40, 41, 42, 43, 44, 45, 46, 47, 48, 49, 50, 51]) -/
def s32 (X : CallT) (a0 : Value) (h : AH) (K : Value → AH → Prop) : Prop :=
  optW (pNilCheck a0) fun v6 =>
  optW (pOff 2 v6) fun v7 =>
  optW (rdRow false 1 v7 h) fun v8 =>
  optW (pNilCheck a0) fun v9 =>
  optW (pOff 1 v9) fun v10 =>
  optW (pStore 1 v10 v8 h) fun h_1 =>
  loopE (fun I e h_2 =>
    optW (pNilCheck (e 0)) fun v12 =>
    optW (pOff 1 v12) fun v13 =>
    optW (rdRow false 1 v13 h_2) fun v14 =>
    optW (pNilCheck (e 0)) fun v16 =>
    optW (pOff 0 v16) fun v17 =>
    optW (rdRow false 1 v17 h_2) fun v18 =>
    optW (lenStr v18) fun v19 =>
    optW (pBin Try.prog .lss 3 v14 v19) fun v20 =>
    gopD (gB v20 true) (fun k =>
      k (e 0) h_2 [] ((7, (ceOf 1 v17)) :: ((3, (ceOf 1 v13)) :: []))) h_2 [] ((7, (ceOf 1 v17)) :: ((3, (ceOf 1 v13)) :: [])) fun v22 h_3 H S =>
    gopD (gB v20 true) (fun k_1 =>
      optW (pNilCheck v22) fun v23_1 =>
      k_1 v23_1 h_3 H S) h_3 H S fun v23 h_4 H_1 S_1 =>
    gopD (gB v20 true) (fun k_2 =>
      optW (pOff 0 v23) fun v24_1 =>
      k_2 v24_1 h_4 H_1 S_1) h_4 H_1 S_1 fun v24 h_5 H_2 S_2 =>
    gopD (gB v20 true) (fun k_3 =>
      histC #[0, 1, 3, 7, 0, 16, 48, 112, 240, 511, 1023, 2047, 4095, 8191, 16383, 2047, 34815, 100351, 231423, 524287, 1048575, 2097151, 4194303, 8388607, 16777215, 33554431, 4194303, 71303167, 205520895, 473956351, 1073741823, 2147483647, 4294967295, 8589934591] 14 (ceOf 1 v24) H_2 (
        optW (rdRow false 1 v24 h_5) fun v25_1 =>
        k_3 v25_1 h_5 H_2 ((14, (ceOf 1 v24)) :: S_2))) h_5 H_2 S_2 fun v25 h_6 H_3 S_3 =>
    gopD (gB v20 true) (fun k_4 =>
      k_4 (e 0) h_6 H_3 S_3) h_6 H_3 S_3 fun v26 h_7 H_4 S_4 =>
    gopD (gB v20 true) (fun k_5 =>
      optW (pNilCheck v26) fun v27_1 =>
      k_5 v27_1 h_7 H_4 S_4) h_7 H_4 S_4 fun v27 h_8 H_5 S_5 =>
    gopD (gB v20 true) (fun k_6 =>
      optW (pOff 1 v27) fun v28_1 =>
      k_6 v28_1 h_8 H_5 S_5) h_8 H_5 S_5 fun v28 h_9 H_6 S_6 =>
    gopD (gB v20 true) (fun k_7 =>
      histC #[0, 1, 3, 7, 0, 16, 48, 112, 240, 511, 1023, 2047, 4095, 8191, 16383, 2047, 34815, 100351, 231423, 524287, 1048575, 2097151, 4194303, 8388607, 16777215, 33554431, 4194303, 71303167, 205520895, 473956351, 1073741823, 2147483647, 4294967295, 8589934591] 18 (ceOf 1 v28) H_6 (
        optW (rdRow false 1 v28 h_9) fun v29_1 =>
        k_7 v29_1 h_9 H_6 ((18, (ceOf 1 v28)) :: S_6))) h_9 H_6 S_6 fun v29 h_10 H_7 S_7 =>
    gopD (gB v20 true) (fun k_8 =>
      optW (pIdxStr v25 v29) fun v30_1 =>
      k_8 v30_1 h_10 H_7 S_7) h_10 H_7 S_7 fun v30 h_11 H_8 S_8 =>
    gopD (gB v20 true) (fun k_9 =>
      optW (pBin Try.prog .eql 5 v30 (.int .u8 32)) fun v31_1 =>
      k_9 v31_1 h_11 H_8 S_8) h_11 H_8 S_8 fun v31 h_12 H_9 S_9 =>
    gopD (gB v20 true) (fun k_10 =>
      k_10 v31 h_12 H_9 S_9) h_12 H_9 S_9 fun v32 h_13 H_10 S_10 =>
    gopD (gB v32 false) (fun k_11 =>
      k_11 (e 0) h_13 H_10 S_10) h_13 H_10 S_10 fun v33 h_14 H_11 S_11 =>
    gopD (gB v32 false) (fun k_12 =>
      optW (pNilCheck v33) fun v34_1 =>
      k_12 v34_1 h_14 H_11 S_11) h_14 H_11 S_11 fun v34 h_15 H_12 S_12 =>
    gopD (gB v32 false) (fun k_13 =>
      optW (pOff 0 v34) fun v35_1 =>
      k_13 v35_1 h_15 H_12 S_12) h_15 H_12 S_12 fun v35 h_16 H_13 S_13 =>
    gopD (gB v32 false) (fun k_14 =>
      histC #[0, 1, 3, 7, 0, 16, 48, 112, 240, 511, 1023, 2047, 4095, 8191, 16383, 2047, 34815, 100351, 231423, 524287, 1048575, 2097151, 4194303, 8388607, 16777215, 33554431, 4194303, 71303167, 205520895, 473956351, 1073741823, 2147483647, 4294967295, 8589934591] 25 (ceOf 1 v35) H_13 (
        optW (rdRow false 1 v35 h_16) fun v36_1 =>
        k_14 v36_1 h_16 H_13 ((25, (ceOf 1 v35)) :: S_13))) h_16 H_13 S_13 fun v36 h_17 H_14 S_14 =>
    gopD (gB v32 false) (fun k_15 =>
      k_15 (e 0) h_17 H_14 S_14) h_17 H_14 S_14 fun v37 h_18 H_15 S_15 =>
    gopD (gB v32 false) (fun k_16 =>
      optW (pNilCheck v37) fun v38_1 =>
      k_16 v38_1 h_18 H_15 S_15) h_18 H_15 S_15 fun v38 h_19 H_16 S_16 =>
    gopD (gB v32 false) (fun k_17 =>
      optW (pOff 1 v38) fun v39_1 =>
      k_17 v39_1 h_19 H_16 S_16) h_19 H_16 S_16 fun v39 h_20 H_17 S_17 =>
    gopD (gB v32 false) (fun k_18 =>
      histC #[0, 1, 3, 7, 0, 16, 48, 112, 240, 511, 1023, 2047, 4095, 8191, 16383, 2047, 34815, 100351, 231423, 524287, 1048575, 2097151, 4194303, 8388607, 16777215, 33554431, 4194303, 71303167, 205520895, 473956351, 1073741823, 2147483647, 4294967295, 8589934591] 29 (ceOf 1 v39) H_17 (
        optW (rdRow false 1 v39 h_20) fun v40_1 =>
        k_18 v40_1 h_20 H_17 ((29, (ceOf 1 v39)) :: S_17))) h_20 H_17 S_17 fun v40 h_21 H_18 S_18 =>
    gopD (gB v32 false) (fun k_19 =>
      optW (pIdxStr v36 v40) fun v41_1 =>
      k_19 v41_1 h_21 H_18 S_18) h_21 H_18 S_18 fun v41 h_22 H_19 S_19 =>
    gopD (gB v32 false) (fun k_20 =>
      optW (pBin Try.prog .eql 5 v41 (.int .u8 10)) fun v42_1 =>
      k_20 v42_1 h_22 H_19 S_19) h_22 H_19 S_19 fun v42 h_23 H_20 S_20 =>
    gopD (gB v20 true) (fun k_21 =>
      optW (pPick v32 (.bool true) v42) fun v43_1 =>
      k_21 v43_1 h_23 H_20 S_20) h_23 H_20 S_20 fun v43 h_24 H_21 S_21 =>
    optW (pPick v20 v43 (.bool false)) fun v44 =>
    condW v44 (
      optW (pNilCheck (e 0)) fun v46 =>
      optW (pOff 1 v46) fun v47 =>
      optW (rdRow false 1 v47 h_24) fun v48 =>
      optW (pBin Try.prog .add 3 v48 (.int .i64 1)) fun v49 =>
      optW (pNilCheck (e 0)) fun v50 =>
      optW (pOff 1 v50) fun v51 =>
      optW (pStore 1 v51 v49 h_24) fun h_25 =>
      I (pt (pt (pt (pt (pt (pt (pt (pt (pt (pt (pt (pt (pt (pt (pt (pt (pt (pt (pt (pt (pt (pt (pt (pt (pt (pt (pt (pt (pt (pt (pt (pt (pt (pt (pt (pt (pt (pt (pt (pt (pt e 11 (e 0)) 12 v12) 13 v13) 14 v14) 15 (e 0)) 16 v16) 17 v17) 18 v18) 19 v19) 20 v20) 21 v20) 22 v22) 23 v23) 24 v24) 25 v25) 26 v26) 27 v27) 28 v28) 29 v29) 30 v30) 31 v31) 32 v32) 33 v33) 34 v34) 35 v35) 36 v36) 37 v37) 38 v38) 39 v39) 40 v40) 41 v41) 42 v42) 43 v43) 44 v44) 45 (e 0)) 46 v46) 47 v47) 48 v48) 49 v49) 50 v50) 51 v51) h_25
    ) (
      optW (pNilCheck (e 0)) fun v53 =>
      optW (pOff 0 v53) fun v54 =>
      optW (rdRow false 1 v54 h_24) fun v55 =>
      optW (pNilCheck (e 0)) fun v57 =>
      optW (pOff 1 v57) fun v58 =>
      optW (rdRow false 1 v58 h_24) fun v59 =>
      optW (pSliceStr v55 (some v59) none) fun v60 =>
      optW (bld [(.string (bs [])), (.int .u8 0)] [(0, 1), (1, 1)] []) fun v63 =>
      optW (pNilCheck (e 0)) fun v65 =>
      optW (pOff 1 v65) fun v66 =>
      optW (rdRow false 1 v66 h_24) fun v67 =>
      optW (pNilCheck (e 0)) fun v68 =>
      optW (pOff 3 v68) fun v69 =>
      optW (pStore 2 v69 v63 h_24) fun h_26 =>
      optW (pNilCheck (e 0)) fun v70 =>
      optW (pOff 2 v70) fun v71 =>
      optW (pStore 1 v71 v67 h_26) fun h_27 =>
      optW (lenStr v60) fun v73 =>
      X 55 [v60, (.func (.func 56) #[] #[])] h_27 fun v75 h_28 =>
      optW (lenStr v75) fun v76 =>
      optW (pBin Try.prog .sub 3 v73 v76) fun v77 =>
      optW (pBin Try.prog .gtr 3 v77 (.int .i64 0)) fun v79 =>
      condW v79 (
        optW (pSliceStr v60 none (some v77)) fun v84 =>
        optW (bld [(.string (bs [])), (.int .u8 0)] [(0, 1), (1, 1)] [(0, v84)]) fun v85 =>
        optW (pNilCheck (e 0)) fun v87 =>
        optW (pOff 1 v87) fun v88 =>
        optW (rdRow false 1 v88 h_28) fun v89 =>
        optW (pBin Try.prog .add 3 v89 v77) fun v91 =>
        optW (pNilCheck (e 0)) fun v92 =>
        optW (pOff 3 v92) fun v93 =>
        optW (pStore 2 v93 v85 h_28) fun h_29 =>
        optW (pNilCheck (e 0)) fun v94 =>
        optW (pOff 2 v94) fun v95 =>
        optW (pStore 1 v95 v91 h_29) fun h_30 =>
        K (.tuple #[]) h_30
      ) (
        optW (pBin Try.prog .neq 9 v60 (.string (bs []))) fun v97 =>
        condW v97 (
          optW (pIdxStr v60 (.int .i64 0)) fun v101 =>
          optW (bld [(.string (bs [])), (.int .u8 0)] [(0, 1), (1, 1)] [(1, v101)]) fun v102 =>
          optW (pNilCheck (e 0)) fun v104 =>
          optW (pOff 1 v104) fun v105 =>
          optW (rdRow false 1 v105 h_28) fun v106 =>
          optW (pBin Try.prog .add 3 v106 (.int .i64 1)) fun v107 =>
          optW (pNilCheck (e 0)) fun v108 =>
          optW (pOff 3 v108) fun v109 =>
          optW (pStore 2 v109 v102 h_28) fun h_31 =>
          optW (pNilCheck (e 0)) fun v110 =>
          optW (pOff 2 v110) fun v111 =>
          optW (pStore 1 v111 v107 h_31) fun h_32 =>
          optW (pIdxStr v60 (.int .i64 0)) fun v113 =>
          optW (pBin Try.prog .eql 5 v113 (.int .u8 0)) fun v114 =>
          condW v114 (
            optW (bld [(.string (bs [])), (.int .u8 0)] [(0, 1), (1, 1)] [(0, (.string (bs [110, 111, 110, 101, 32, 97, 116, 32, 97, 108, 108])))]) fun v116 =>
            optW (pNilCheck (e 0)) fun v117 =>
            optW (pOff 3 v117) fun v118 =>
            optW (pStore 2 v118 v116 h_32) fun h_33 =>
            K (.tuple #[]) h_33
          ) (
            K (.tuple #[]) h_32)
        ) (
          K (.tuple #[]) h_28))))
  (pt (pt (pt (pt (pt (pt (pt (envOf [a0]) 4 a0) 5 a0) 6 v6) 7 v7) 8 v8) 9 v9) 10 v10) h_1
theorem e32 (X : CallT) (a0 : Value) (h : AH) (K : Value → AH → Prop) : cwp2 Try.prog X (Try.f32.body.getD .skip) (endW Try.prog Try.f32 K) (envOf [a0]) h = s32 X a0 h K := by kernel_rfl
theorem c32 {a0 : Value} {h : AH} {K : Value → AH → Prop} (hs : s32 (callW Try.prog) a0 h K) : callW Try.prog 32 [a0] h K := callW_of Try.func32 (by kernel_rfl) (Eq.mpr (e32 _ a0 _ _) hs)

/-- (*canopy/schema.parser).must () -/
def s33 (X : CallT) (a0 a1 : Value) (h : AH) (K : Value → AH → Prop) : Prop :=
  aBox a1 none h fun v3 h_1 =>
  optW (rdRow true 2 v3 h_1) fun v5 =>
  X 35 [a0, v5] h_1 fun v6 h_2 =>
  optW (pUn .not v6) fun v7 =>
  condW v7 (
    X 37 [a0, (.int .i64 1)] h_2 fun v9 h_3 =>
    K (.tuple #[]) h_3
  ) (
    K (.tuple #[]) h_2)
theorem e33 (X : CallT) (a0 a1 : Value) (h : AH) (K : Value → AH → Prop) : cwp2 Try.prog X (Try.f33.body.getD .skip) (endW Try.prog Try.f33 K) (envOf [a0, a1]) h = s33 X a0 a1 h K := by kernel_rfl
theorem c33 {a0 a1 : Value} {h : AH} {K : Value → AH → Prop} (hs : s33 (callW Try.prog) a0 a1 h K) : callW Try.prog 33 [a0, a1] h K := callW_of Try.func33 (by kernel_rfl) (Eq.mpr (e33 _ a0 a1 _ _) hs)

/-- (*canopy/schema.parser).name () -/
def s34 (X : CallT) (a0 : Value) (h : AH) (K : Value → AH → Prop) : Prop :=
  optW (pNilCheck a0) fun v5 =>
  optW (pOff 3 v5) fun v6 =>
  optW (pOff 0 v6) fun v7 =>
  optW (rdRow false 1 v7 h) fun v8 =>
  optW (pBin Try.prog .neq 9 v8 (.string (bs []))) fun v10 =>
  gopW (gB v10 true) (fun k =>
    k v8 h) h fun v12 h_1 =>
  gopW (gB v10 true) (fun k_1 =>
    optW (lenStr v12) fun v13_1 =>
    k_1 v13_1 h_1) h_1 fun v13 h_2 =>
  gopW (gB v10 true) (fun k_2 =>
    optW (pBin Try.prog .leq 3 v13 (.int .i64 8)) fun v14_1 =>
    k_2 v14_1 h_2) h_2 fun v14 h_3 =>
  optW (pPick v10 v14 (.bool false)) fun v15 =>
  gopW (gB v15 true) (fun k_3 =>
    k_3 v8 h_3) h_3 fun v17 h_4 =>
  gopW (gB v15 true) (fun k_4 =>
    X 57 [v17] h_4 fun v18_1 h_6 =>
    k_4 v18_1 h_6) h_4 fun v18 h_5 =>
  gopW (gB v15 true) (fun k_5 =>
    optW (pUn .not v18) fun v19_1 =>
    k_5 v19_1 h_5) h_5 fun v19 h_7 =>
  optW (pPick v15 v19 (.bool false)) fun v20 =>
  condW v20 (
    K v8 h_7
  ) (
    X 37 [a0, (.int .i64 1)] h_7 fun v23 h_8 =>
    K (.string (bs [])) h_8)
theorem e34 (X : CallT) (a0 : Value) (h : AH) (K : Value → AH → Prop) : cwp2 Try.prog X (Try.f34.body.getD .skip) (endW Try.prog Try.f34 K) (envOf [a0]) h = s34 X a0 h K := by kernel_rfl
theorem c34 {a0 : Value} {h : AH} {K : Value → AH → Prop} (hs : s34 (callW Try.prog) a0 h K) : callW Try.prog 34 [a0] h K := callW_of Try.func34 (by kernel_rfl) (Eq.mpr (e34 _ a0 _ _) hs)

/-- (*canopy/schema.parser).takes () -/
def s35 (X : CallT) (a0 a1 : Value) (h : AH) (K : Value → AH → Prop) : Prop :=
  aBox a1 none h fun v3 h_1 =>
  optW (pNilCheck a0) fun v6 =>
  optW (pOff 6 v6) fun v7 =>
  optW (rdRow false 1 v7 h_1) fun v8 =>
  optW (pBin Try.prog .neq 32 v8 (.int .i64 0)) fun v9 =>
  gopD (gB v9 false) (fun k =>
    k a0 h_1 [] ((3, (ceOf 1 v7)) :: [])) h_1 [] ((3, (ceOf 1 v7)) :: []) fun v11 h_2 H S =>
  gopD (gB v9 false) (fun k_1 =>
    optW (pNilCheck v11) fun v12_1 =>
    k_1 v12_1 h_2 H S) h_2 H S fun v12 h_3 H_1 S_1 =>
  gopD (gB v9 false) (fun k_2 =>
    optW (pOff 3 v12) fun v13_1 =>
    k_2 v13_1 h_3 H_1 S_1) h_3 H_1 S_1 fun v13 h_4 H_2 S_2 =>
  gopD (gB v9 false) (fun k_3 =>
    histC #[0, 1, 3, 7, 15, 31, 63, 127, 255, 511, 63, 2047, 4095] 9 (ceOf 2 v13) H_2 (
      optW (rdRow true 2 v13 h_4) fun v14_1 =>
      k_3 v14_1 h_4 H_2 ((9, (ceOf 2 v13)) :: S_2))) h_4 H_2 S_2 fun v14 h_5 H_3 S_3 =>
  gopD (gB v9 false) (fun k_4 =>
    histC #[0, 1, 3, 7, 15, 31, 63, 127, 255, 511, 63, 2047, 4095] 10 (ceOf 2 v3) H_3 (
      optW (rdRow true 2 v3 h_5) fun v15_1 =>
      k_4 v15_1 h_5 H_3 ((10, (ceOf 2 v3)) :: S_3))) h_5 H_3 S_3 fun v15 h_6 H_4 S_4 =>
  gopD (gB v9 false) (fun k_5 =>
    optW (pBin Try.prog .neq 71 v14 v15) fun v16_1 =>
    k_5 v16_1 h_6 H_4 S_4) h_6 H_4 S_4 fun v16 h_7 H_5 S_5 =>
  optW (pPick v9 (.bool true) v16) fun v17 =>
  condW v17 (
    K (.bool false) h_7
  ) (
    X 32 [a0] h_7 fun v19 h_8 =>
    K (.bool true) h_8)
theorem e35 (X : CallT) (a0 a1 : Value) (h : AH) (K : Value → AH → Prop) : cwp2 Try.prog X (Try.f35.body.getD .skip) (endW Try.prog Try.f35 K) (envOf [a0, a1]) h = s35 X a0 a1 h K := by kernel_rfl
theorem c35 {a0 a1 : Value} {h : AH} {K : Value → AH → Prop} (hs : s35 (callW Try.prog) a0 a1 h K) : callW Try.prog 35 [a0, a1] h K := callW_of Try.func35 (by kernel_rfl) (Eq.mpr (e35 _ a0 a1 _ _) hs)

/-- (*canopy/schema.parser).element () -/
def s36 (X : CallT) (a0 a1 : Value) (h : AH) (K : Value → AH → Prop) : Prop :=
  newR none [(.string (bs [])), (.int .i64 0), (.string (bs [])), (.slice none 0 0)] h fun v4 h_1 =>
  X 34 [a0] h_1 fun v7 h_2 =>
  optW (bld [(.string (bs [])), (.int .i64 0), (.string (bs [])), (.slice none 0 0)] [(0, 1), (1, 3)] [(0, v7)]) fun v8 =>
  newR none [(.string (bs [])), (.int .i64 0), (.string (bs [])), (.slice none 0 0)] h_2 fun v5 h_3 =>
  optW (pStore 4 v5 v8 h_3) fun h_4 =>
  optW (pOff 0 v5) fun v11 =>
  optW (rdRow false 1 v11 h_4) fun v12 =>
  X 38 [a1, v12] h_4 fun v13 h_5 =>
  condW v13 (
    X 37 [a0, (.int .i64 5)] h_5 fun v15 h_6 =>
    optW (pNilCheck a0) fun v23 =>
    optW (pOff 6 v23) fun v24 =>
    optW (rdRow false 1 v24 h_6) fun v25 =>
    optW (pBin Try.prog .eql 32 v25 (.int .i64 0)) fun v26 =>
    condW v26 (
      X 32 [a0] h_6 fun v28 h_7 =>
      optW (bld [(.string (bs [])), (.int .u8 0)] [(0, 1), (1, 1)] [(1, (.int .u8 61))]) fun v30 =>
      X 33 [a0, v30] h_7 fun v31 h_8 =>
      optW (pNilCheck a0) fun v33 =>
      optW (pOff 6 v33) fun v34 =>
      optW (rdRow false 1 v34 h_8) fun v35 =>
      optW (pBin Try.prog .eql 32 v35 (.int .i64 0)) fun v36 =>
      condW v36 (
        X 58 [a0] h_8 fun v38 h_9 =>
        optW (pOff 1 v5) fun v39 =>
        optW (pStore 3 v39 v38 h_9) fun h_10 =>
        optW (bld [(.string (bs [])), (.int .u8 0)] [(0, 1), (1, 1)] [(1, (.int .u8 59))]) fun v41 =>
        X 33 [a0, v41] h_10 fun v42 h_11 =>
        optW (rdRow true 4 v5 h_11) fun v43 =>
        optW (pStore 4 v4 v43 h_11) fun h_12 =>
        optW (resList Try.prog (pt (pt (pt (pt (pt (pt (pt (pt (pt (pt (pt (pt (pt (pt (pt (pt (pt (pt (pt (pt (pt (pt (pt (pt (pt (pt (pt (pt (pt (pt (pt (pt (pt (pt (envOf [a0, a1]) 4 v4) 6 a0) 7 v7) 8 v8) 5 v5) 10 a1) 11 v11) 12 v12) 13 v13) 9 v13) 14 a0) 15 v15) 22 a0) 23 v23) 24 v24) 25 v25) 26 v26) 27 a0) 28 v28) 29 a0) 30 v30) 31 v31) 32 a0) 33 v33) 34 v34) 35 v35) 36 v36) 37 a0) 38 v38) 39 v39) 40 a0) 41 v41) 42 v42) 43 v43) h_12 Try.f36.results.toList) fun vs => K (resOf vs) h_12
      ) (
        optW (bld [(.string (bs [])), (.int .u8 0)] [(0, 1), (1, 1)] [(1, (.int .u8 59))]) fun v41_1 =>
        X 33 [a0, v41_1] h_8 fun v42_1 h_13 =>
        optW (rdRow true 4 v5 h_13) fun v43_1 =>
        optW (pStore 4 v4 v43_1 h_13) fun h_14 =>
        optW (resList Try.prog (pt (pt (pt (pt (pt (pt (pt (pt (pt (pt (pt (pt (pt (pt (pt (pt (pt (pt (pt (pt (pt (pt (pt (pt (pt (pt (pt (pt (pt (pt (pt (envOf [a0, a1]) 4 v4) 6 a0) 7 v7) 8 v8) 5 v5) 10 a1) 11 v11) 12 v12) 13 v13) 9 v13) 14 a0) 15 v15) 22 a0) 23 v23) 24 v24) 25 v25) 26 v26) 27 a0) 28 v28) 29 a0) 30 v30) 31 v31) 32 a0) 33 v33) 34 v34) 35 v35) 36 v36) 40 a0) 41 v41_1) 42 v42_1) 43 v43_1) h_14 Try.f36.results.toList) fun vs => K (resOf vs) h_14)
    ) (
      optW (bld [(.string (bs [])), (.int .u8 0)] [(0, 1), (1, 1)] [(1, (.int .u8 61))]) fun v30_1 =>
      X 33 [a0, v30_1] h_6 fun v31_1 h_15 =>
      optW (pNilCheck a0) fun v33_1 =>
      optW (pOff 6 v33_1) fun v34_1 =>
      optW (rdRow false 1 v34_1 h_15) fun v35_1 =>
      optW (pBin Try.prog .eql 32 v35_1 (.int .i64 0)) fun v36_1 =>
      condW v36_1 (
        X 58 [a0] h_15 fun v38_1 h_16 =>
        optW (pOff 1 v5) fun v39_1 =>
        optW (pStore 3 v39_1 v38_1 h_16) fun h_17 =>
        optW (bld [(.string (bs [])), (.int .u8 0)] [(0, 1), (1, 1)] [(1, (.int .u8 59))]) fun v41_2 =>
        X 33 [a0, v41_2] h_17 fun v42_2 h_18 =>
        optW (rdRow true 4 v5 h_18) fun v43_2 =>
        optW (pStore 4 v4 v43_2 h_18) fun h_19 =>
        optW (resList Try.prog (pt (pt (pt (pt (pt (pt (pt (pt (pt (pt (pt (pt (pt (pt (pt (pt (pt (pt (pt (pt (pt (pt (pt (pt (pt (pt (pt (pt (pt (pt (pt (pt (envOf [a0, a1]) 4 v4) 6 a0) 7 v7) 8 v8) 5 v5) 10 a1) 11 v11) 12 v12) 13 v13) 9 v13) 14 a0) 15 v15) 22 a0) 23 v23) 24 v24) 25 v25) 26 v26) 29 a0) 30 v30_1) 31 v31_1) 32 a0) 33 v33_1) 34 v34_1) 35 v35_1) 36 v36_1) 37 a0) 38 v38_1) 39 v39_1) 40 a0) 41 v41_2) 42 v42_2) 43 v43_2) h_19 Try.f36.results.toList) fun vs => K (resOf vs) h_19
      ) (
        optW (bld [(.string (bs [])), (.int .u8 0)] [(0, 1), (1, 1)] [(1, (.int .u8 59))]) fun v41_3 =>
        X 33 [a0, v41_3] h_15 fun v42_3 h_20 =>
        optW (rdRow true 4 v5 h_20) fun v43_3 =>
        optW (pStore 4 v4 v43_3 h_20) fun h_21 =>
        optW (resList Try.prog (pt (pt (pt (pt (pt (pt (pt (pt (pt (pt (pt (pt (pt (pt (pt (pt (pt (pt (pt (pt (pt (pt (pt (pt (pt (pt (pt (pt (pt (envOf [a0, a1]) 4 v4) 6 a0) 7 v7) 8 v8) 5 v5) 10 a1) 11 v11) 12 v12) 13 v13) 9 v13) 14 a0) 15 v15) 22 a0) 23 v23) 24 v24) 25 v25) 26 v26) 29 a0) 30 v30_1) 31 v31_1) 32 a0) 33 v33_1) 34 v34_1) 35 v35_1) 36 v36_1) 40 a0) 41 v41_3) 42 v42_3) 43 v43_3) h_21 Try.f36.results.toList) fun vs => K (resOf vs) h_21))
  ) (
    optW (lenSl a1) fun v18 =>
    optW (pBin Try.prog .geq 3 v18 (.int .i64 8)) fun v19 =>
    condW v19 (
      X 37 [a0, (.int .i64 2)] h_5 fun v21 h_22 =>
      optW (pNilCheck a0) fun v23_1 =>
      optW (pOff 6 v23_1) fun v24_1 =>
      optW (rdRow false 1 v24_1 h_22) fun v25_1 =>
      optW (pBin Try.prog .eql 32 v25_1 (.int .i64 0)) fun v26_1 =>
      condW v26_1 (
        X 32 [a0] h_22 fun v28_1 h_23 =>
        optW (bld [(.string (bs [])), (.int .u8 0)] [(0, 1), (1, 1)] [(1, (.int .u8 61))]) fun v30_2 =>
        X 33 [a0, v30_2] h_23 fun v31_2 h_24 =>
        optW (pNilCheck a0) fun v33_2 =>
        optW (pOff 6 v33_2) fun v34_2 =>
        optW (rdRow false 1 v34_2 h_24) fun v35_2 =>
        optW (pBin Try.prog .eql 32 v35_2 (.int .i64 0)) fun v36_2 =>
        condW v36_2 (
          X 58 [a0] h_24 fun v38_2 h_25 =>
          optW (pOff 1 v5) fun v39_2 =>
          optW (pStore 3 v39_2 v38_2 h_25) fun h_26 =>
          optW (bld [(.string (bs [])), (.int .u8 0)] [(0, 1), (1, 1)] [(1, (.int .u8 59))]) fun v41_4 =>
          X 33 [a0, v41_4] h_26 fun v42_4 h_27 =>
          optW (rdRow true 4 v5 h_27) fun v43_4 =>
          optW (pStore 4 v4 v43_4 h_27) fun h_28 =>
          optW (resList Try.prog (pt (pt (pt (pt (pt (pt (pt (pt (pt (pt (pt (pt (pt (pt (pt (pt (pt (pt (pt (pt (pt (pt (pt (pt (pt (pt (pt (pt (pt (pt (pt (pt (pt (pt (pt (pt (pt (pt (envOf [a0, a1]) 4 v4) 6 a0) 7 v7) 8 v8) 5 v5) 10 a1) 11 v11) 12 v12) 13 v13) 9 v13) 17 a1) 18 v18) 19 v19) 16 v19) 20 a0) 21 v21) 22 a0) 23 v23_1) 24 v24_1) 25 v25_1) 26 v26_1) 27 a0) 28 v28_1) 29 a0) 30 v30_2) 31 v31_2) 32 a0) 33 v33_2) 34 v34_2) 35 v35_2) 36 v36_2) 37 a0) 38 v38_2) 39 v39_2) 40 a0) 41 v41_4) 42 v42_4) 43 v43_4) h_28 Try.f36.results.toList) fun vs => K (resOf vs) h_28
        ) (
          optW (bld [(.string (bs [])), (.int .u8 0)] [(0, 1), (1, 1)] [(1, (.int .u8 59))]) fun v41_5 =>
          X 33 [a0, v41_5] h_24 fun v42_5 h_29 =>
          optW (rdRow true 4 v5 h_29) fun v43_5 =>
          optW (pStore 4 v4 v43_5 h_29) fun h_30 =>
          optW (resList Try.prog (pt (pt (pt (pt (pt (pt (pt (pt (pt (pt (pt (pt (pt (pt (pt (pt (pt (pt (pt (pt (pt (pt (pt (pt (pt (pt (pt (pt (pt (pt (pt (pt (pt (pt (pt (envOf [a0, a1]) 4 v4) 6 a0) 7 v7) 8 v8) 5 v5) 10 a1) 11 v11) 12 v12) 13 v13) 9 v13) 17 a1) 18 v18) 19 v19) 16 v19) 20 a0) 21 v21) 22 a0) 23 v23_1) 24 v24_1) 25 v25_1) 26 v26_1) 27 a0) 28 v28_1) 29 a0) 30 v30_2) 31 v31_2) 32 a0) 33 v33_2) 34 v34_2) 35 v35_2) 36 v36_2) 40 a0) 41 v41_5) 42 v42_5) 43 v43_5) h_30 Try.f36.results.toList) fun vs => K (resOf vs) h_30)
      ) (
        optW (bld [(.string (bs [])), (.int .u8 0)] [(0, 1), (1, 1)] [(1, (.int .u8 61))]) fun v30_3 =>
        X 33 [a0, v30_3] h_22 fun v31_3 h_31 =>
        optW (pNilCheck a0) fun v33_3 =>
        optW (pOff 6 v33_3) fun v34_3 =>
        optW (rdRow false 1 v34_3 h_31) fun v35_3 =>
        optW (pBin Try.prog .eql 32 v35_3 (.int .i64 0)) fun v36_3 =>
        condW v36_3 (
          X 58 [a0] h_31 fun v38_3 h_32 =>
          optW (pOff 1 v5) fun v39_3 =>
          optW (pStore 3 v39_3 v38_3 h_32) fun h_33 =>
          optW (bld [(.string (bs [])), (.int .u8 0)] [(0, 1), (1, 1)] [(1, (.int .u8 59))]) fun v41_6 =>
          X 33 [a0, v41_6] h_33 fun v42_6 h_34 =>
          optW (rdRow true 4 v5 h_34) fun v43_6 =>
          optW (pStore 4 v4 v43_6 h_34) fun h_35 =>
          optW (resList Try.prog (pt (pt (pt (pt (pt (pt (pt (pt (pt (pt (pt (pt (pt (pt (pt (pt (pt (pt (pt (pt (pt (pt (pt (pt (pt (pt (pt (pt (pt (pt (pt (pt (pt (pt (pt (pt (envOf [a0, a1]) 4 v4) 6 a0) 7 v7) 8 v8) 5 v5) 10 a1) 11 v11) 12 v12) 13 v13) 9 v13) 17 a1) 18 v18) 19 v19) 16 v19) 20 a0) 21 v21) 22 a0) 23 v23_1) 24 v24_1) 25 v25_1) 26 v26_1) 29 a0) 30 v30_3) 31 v31_3) 32 a0) 33 v33_3) 34 v34_3) 35 v35_3) 36 v36_3) 37 a0) 38 v38_3) 39 v39_3) 40 a0) 41 v41_6) 42 v42_6) 43 v43_6) h_35 Try.f36.results.toList) fun vs => K (resOf vs) h_35
        ) (
          optW (bld [(.string (bs [])), (.int .u8 0)] [(0, 1), (1, 1)] [(1, (.int .u8 59))]) fun v41_7 =>
          X 33 [a0, v41_7] h_31 fun v42_7 h_36 =>
          optW (rdRow true 4 v5 h_36) fun v43_7 =>
          optW (pStore 4 v4 v43_7 h_36) fun h_37 =>
          optW (resList Try.prog (pt (pt (pt (pt (pt (pt (pt (pt (pt (pt (pt (pt (pt (pt (pt (pt (pt (pt (pt (pt (pt (pt (pt (pt (pt (pt (pt (pt (pt (pt (pt (pt (pt (envOf [a0, a1]) 4 v4) 6 a0) 7 v7) 8 v8) 5 v5) 10 a1) 11 v11) 12 v12) 13 v13) 9 v13) 17 a1) 18 v18) 19 v19) 16 v19) 20 a0) 21 v21) 22 a0) 23 v23_1) 24 v24_1) 25 v25_1) 26 v26_1) 29 a0) 30 v30_3) 31 v31_3) 32 a0) 33 v33_3) 34 v34_3) 35 v35_3) 36 v36_3) 40 a0) 41 v41_7) 42 v42_7) 43 v43_7) h_37 Try.f36.results.toList) fun vs => K (resOf vs) h_37))
    ) (
      optW (pNilCheck a0) fun v23_2 =>
      optW (pOff 6 v23_2) fun v24_2 =>
      optW (rdRow false 1 v24_2 h_5) fun v25_2 =>
      optW (pBin Try.prog .eql 32 v25_2 (.int .i64 0)) fun v26_2 =>
      condW v26_2 (
        X 32 [a0] h_5 fun v28_2 h_38 =>
        optW (bld [(.string (bs [])), (.int .u8 0)] [(0, 1), (1, 1)] [(1, (.int .u8 61))]) fun v30_4 =>
        X 33 [a0, v30_4] h_38 fun v31_4 h_39 =>
        optW (pNilCheck a0) fun v33_4 =>
        optW (pOff 6 v33_4) fun v34_4 =>
        optW (rdRow false 1 v34_4 h_39) fun v35_4 =>
        optW (pBin Try.prog .eql 32 v35_4 (.int .i64 0)) fun v36_4 =>
        condW v36_4 (
          X 58 [a0] h_39 fun v38_4 h_40 =>
          optW (pOff 1 v5) fun v39_4 =>
          optW (pStore 3 v39_4 v38_4 h_40) fun h_41 =>
          optW (bld [(.string (bs [])), (.int .u8 0)] [(0, 1), (1, 1)] [(1, (.int .u8 59))]) fun v41_8 =>
          X 33 [a0, v41_8] h_41 fun v42_8 h_42 =>
          optW (rdRow true 4 v5 h_42) fun v43_8 =>
          optW (pStore 4 v4 v43_8 h_42) fun h_43 =>
          optW (resList Try.prog (pt (pt (pt (pt (pt (pt (pt (pt (pt (pt (pt (pt (pt (pt (pt (pt (pt (pt (pt (pt (pt (pt (pt (pt (pt (pt (pt (pt (pt (pt (pt (pt (pt (pt (pt (pt (envOf [a0, a1]) 4 v4) 6 a0) 7 v7) 8 v8) 5 v5) 10 a1) 11 v11) 12 v12) 13 v13) 9 v13) 17 a1) 18 v18) 19 v19) 16 v19) 22 a0) 23 v23_2) 24 v24_2) 25 v25_2) 26 v26_2) 27 a0) 28 v28_2) 29 a0) 30 v30_4) 31 v31_4) 32 a0) 33 v33_4) 34 v34_4) 35 v35_4) 36 v36_4) 37 a0) 38 v38_4) 39 v39_4) 40 a0) 41 v41_8) 42 v42_8) 43 v43_8) h_43 Try.f36.results.toList) fun vs => K (resOf vs) h_43
        ) (
          optW (bld [(.string (bs [])), (.int .u8 0)] [(0, 1), (1, 1)] [(1, (.int .u8 59))]) fun v41_9 =>
          X 33 [a0, v41_9] h_39 fun v42_9 h_44 =>
          optW (rdRow true 4 v5 h_44) fun v43_9 =>
          optW (pStore 4 v4 v43_9 h_44) fun h_45 =>
          optW (resList Try.prog (pt (pt (pt (pt (pt (pt (pt (pt (pt (pt (pt (pt (pt (pt (pt (pt (pt (pt (pt (pt (pt (pt (pt (pt (pt (pt (pt (pt (pt (pt (pt (pt (pt (envOf [a0, a1]) 4 v4) 6 a0) 7 v7) 8 v8) 5 v5) 10 a1) 11 v11) 12 v12) 13 v13) 9 v13) 17 a1) 18 v18) 19 v19) 16 v19) 22 a0) 23 v23_2) 24 v24_2) 25 v25_2) 26 v26_2) 27 a0) 28 v28_2) 29 a0) 30 v30_4) 31 v31_4) 32 a0) 33 v33_4) 34 v34_4) 35 v35_4) 36 v36_4) 40 a0) 41 v41_9) 42 v42_9) 43 v43_9) h_45 Try.f36.results.toList) fun vs => K (resOf vs) h_45)
      ) (
        optW (bld [(.string (bs [])), (.int .u8 0)] [(0, 1), (1, 1)] [(1, (.int .u8 61))]) fun v30_5 =>
        X 33 [a0, v30_5] h_5 fun v31_5 h_46 =>
        optW (pNilCheck a0) fun v33_5 =>
        optW (pOff 6 v33_5) fun v34_5 =>
        optW (rdRow false 1 v34_5 h_46) fun v35_5 =>
        optW (pBin Try.prog .eql 32 v35_5 (.int .i64 0)) fun v36_5 =>
        condW v36_5 (
          X 58 [a0] h_46 fun v38_5 h_47 =>
          optW (pOff 1 v5) fun v39_5 =>
          optW (pStore 3 v39_5 v38_5 h_47) fun h_48 =>
          optW (bld [(.string (bs [])), (.int .u8 0)] [(0, 1), (1, 1)] [(1, (.int .u8 59))]) fun v41_10 =>
          X 33 [a0, v41_10] h_48 fun v42_10 h_49 =>
          optW (rdRow true 4 v5 h_49) fun v43_10 =>
          optW (pStore 4 v4 v43_10 h_49) fun h_50 =>
          optW (resList Try.prog (pt (pt (pt (pt (pt (pt (pt (pt (pt (pt (pt (pt (pt (pt (pt (pt (pt (pt (pt (pt (pt (pt (pt (pt (pt (pt (pt (pt (pt (pt (pt (pt (pt (pt (envOf [a0, a1]) 4 v4) 6 a0) 7 v7) 8 v8) 5 v5) 10 a1) 11 v11) 12 v12) 13 v13) 9 v13) 17 a1) 18 v18) 19 v19) 16 v19) 22 a0) 23 v23_2) 24 v24_2) 25 v25_2) 26 v26_2) 29 a0) 30 v30_5) 31 v31_5) 32 a0) 33 v33_5) 34 v34_5) 35 v35_5) 36 v36_5) 37 a0) 38 v38_5) 39 v39_5) 40 a0) 41 v41_10) 42 v42_10) 43 v43_10) h_50 Try.f36.results.toList) fun vs => K (resOf vs) h_50
        ) (
          optW (bld [(.string (bs [])), (.int .u8 0)] [(0, 1), (1, 1)] [(1, (.int .u8 59))]) fun v41_11 =>
          X 33 [a0, v41_11] h_46 fun v42_11 h_51 =>
          optW (rdRow true 4 v5 h_51) fun v43_11 =>
          optW (pStore 4 v4 v43_11 h_51) fun h_52 =>
          optW (resList Try.prog (pt (pt (pt (pt (pt (pt (pt (pt (pt (pt (pt (pt (pt (pt (pt (pt (pt (pt (pt (pt (pt (pt (pt (pt (pt (pt (pt (pt (pt (pt (pt (envOf [a0, a1]) 4 v4) 6 a0) 7 v7) 8 v8) 5 v5) 10 a1) 11 v11) 12 v12) 13 v13) 9 v13) 17 a1) 18 v18) 19 v19) 16 v19) 22 a0) 23 v23_2) 24 v24_2) 25 v25_2) 26 v26_2) 29 a0) 30 v30_5) 31 v31_5) 32 a0) 33 v33_5) 34 v34_5) 35 v35_5) 36 v36_5) 40 a0) 41 v41_11) 42 v42_11) 43 v43_11) h_52 Try.f36.results.toList) fun vs => K (resOf vs) h_52))))
theorem e36 (X : CallT) (a0 a1 : Value) (h : AH) (K : Value → AH → Prop) : cwp2 Try.prog X (Try.f36.body.getD .skip) (endW Try.prog Try.f36 K) (envOf [a0, a1]) h = s36 X a0 a1 h K := by kernel_rfl
theorem c36 {a0 a1 : Value} {h : AH} {K : Value → AH → Prop} (hs : s36 (callW Try.prog) a0 a1 h K) : callW Try.prog 36 [a0, a1] h K := callW_of Try.func36 (by kernel_rfl) (Eq.mpr (e36 _ a0 a1 _ _) hs)

end Go.Proofs.Ytlenlhlipmkeeaa.W
end

section
/- Go functions, printed by a program as predicates on what may come behind; each is the function. Conditions: none. -/
namespace Go.Proofs.Ytlenlhlipmkeeaa.W
open Go Go.AM
set_option linter.unusedVariables false
set_option maxRecDepth 100000


/-- (*canopy/schema.parser).wrong () -/
def s37 (X : CallT) (a0 a1 : Value) (h : AH) (K : Value → AH → Prop) : Prop :=
  optW (pNilCheck a0) fun v5 =>
  optW (pOff 6 v5) fun v6 =>
  optW (rdRow false 1 v6 h) fun v7 =>
  optW (pBin Try.prog .eql 32 v7 (.int .i64 0)) fun v8 =>
  condW v8 (
    optW (pNilCheck a0) fun v13 =>
    optW (pOff 1 v13) fun v14 =>
    optW (rdRow false 1 v14 h) fun v15 =>
    optW (pNilCheck a0) fun v16 =>
    optW (pOff 6 v16) fun v17 =>
    optW (pStore 1 v17 a1 h) fun h_1 =>
    optW (pNilCheck a0) fun v18 =>
    optW (pOff 7 v18) fun v19 =>
    optW (pStore 1 v19 v15 h_1) fun h_2 =>
    K (.tuple #[]) h_2
  ) (
    K (.tuple #[]) h)
theorem e37 (X : CallT) (a0 a1 : Value) (h : AH) (K : Value → AH → Prop) : cwp2 Try.prog X (Try.f37.body.getD .skip) (endW Try.prog Try.f37 K) (envOf [a0, a1]) h = s37 X a0 a1 h K := by kernel_rfl
theorem c37 {a0 a1 : Value} {h : AH} {K : Value → AH → Prop} (hs : s37 (callW Try.prog) a0 a1 h K) : callW Try.prog 37 [a0, a1] h K := callW_of Try.func37 (by kernel_rfl) (Eq.mpr (e37 _ a0 a1 _ _) hs)

/-- canopy/schema.has () -/
def s38 (X : CallT) (a0 a1 : Value) (h : AH) (K : Value → AH → Prop) : Prop :=
  aBox a1 none h fun v3 h_1 =>
  X 59 [a0, (.func (.func 60) #[] #[v3])] h_1 fun v7 h_2 =>
  K v7 h_2
theorem e38 (X : CallT) (a0 a1 : Value) (h : AH) (K : Value → AH → Prop) : cwp2 Try.prog X (Try.f38.body.getD .skip) (endW Try.prog Try.f38 K) (envOf [a0, a1]) h = s38 X a0 a1 h K := by kernel_rfl
theorem c38 {a0 a1 : Value} {h : AH} {K : Value → AH → Prop} (hs : s38 (callW Try.prog) a0 a1 h K) : callW Try.prog 38 [a0, a1] h K := callW_of Try.func38 (by kernel_rfl) (Eq.mpr (e38 _ a0 a1 _ _) hs)

/-- slices.Clip[[]canopy/api.Element,canopy/api.Element] () -/
def s39 (X : CallT) (a0 : Value) (h : AH) (K : Value → AH → Prop) : Prop :=
  optW (lenSl a0) fun v5 =>
  optW (lenSl a0) fun v7 =>
  optW (pSliceSl 4 a0 none (some v5) (some v7)) fun v8 =>
  K v8 h
theorem e39 (X : CallT) (a0 : Value) (h : AH) (K : Value → AH → Prop) : cwp2 Try.prog X (Try.f39.body.getD .skip) (endW Try.prog Try.f39 K) (envOf [a0]) h = s39 X a0 h K := by kernel_rfl
theorem c39 {a0 : Value} {h : AH} {K : Value → AH → Prop} (hs : s39 (callW Try.prog) a0 h K) : callW Try.prog 39 [a0] h K := callW_of Try.func39 (by kernel_rfl) (Eq.mpr (e39 _ a0 _ _) hs)

end Go.Proofs.Ytlenlhlipmkeeaa.W
end

section
/- Go functions, printed by a program as predicates on what may come behind; each is the function. Conditions: none. -/
namespace Go.Proofs.Ytlenlhlipmkeeaa.W
open Go Go.AM
set_option linter.unusedVariables false
set_option maxRecDepth 100000


/-- strings.TrimLeftFunc () -/
def s55 (X : CallT) (a0 a1 : Value) (h : AH) (K : Value → AH → Prop) : Prop :=
  X 70 [a0, a1, (.bool false)] h fun v8 h_1 =>
  optW (pBin Try.prog .eql 3 v8 (.int .i64 (-1))) fun v10 =>
  condW v10 (
    K (.string (bs [])) h_1
  ) (
    optW (pSliceStr a0 (some v8) none) fun v13 =>
    K v13 h_1)
theorem e55 (X : CallT) (a0 a1 : Value) (h : AH) (K : Value → AH → Prop) : cwp2 Try.prog X (Try.f55.body.getD .skip) (endW Try.prog Try.f55 K) (envOf [a0, a1]) h = s55 X a0 a1 h K := by kernel_rfl
theorem c55 {a0 a1 : Value} {h : AH} {K : Value → AH → Prop} (hs : s55 (callW Try.prog) a0 a1 h K) : callW Try.prog 55 [a0, a1] h K := callW_of Try.func55 (by kernel_rfl) (Eq.mpr (e55 _ a0 a1 _ _) hs)

/-- canopy/schema.letter () -/
def s56 (X : CallT) (a0 : Value) (h : AH) (K : Value → AH → Prop) : Prop :=
  optW (pBin Try.prog .geq 21 a0 (.int .i32 97)) fun v4 =>
  gopW (gB v4 true) (fun k =>
    k a0 h) h fun v6 h_1 =>
  gopW (gB v4 true) (fun k_1 =>
    optW (pBin Try.prog .leq 21 v6 (.int .i32 122)) fun v7_1 =>
    k_1 v7_1 h_1) h_1 fun v7 h_2 =>
  optW (pPick v4 v7 (.bool false)) fun v8 =>
  K v8 h_2
theorem e56 (X : CallT) (a0 : Value) (h : AH) (K : Value → AH → Prop) : cwp2 Try.prog X (Try.f56.body.getD .skip) (endW Try.prog Try.f56 K) (envOf [a0]) h = s56 X a0 h K := by kernel_rfl
theorem c56 {a0 : Value} {h : AH} {K : Value → AH → Prop} (hs : s56 (callW Try.prog) a0 h K) : callW Try.prog 56 [a0] h K := callW_of Try.func56 (by kernel_rfl) (Eq.mpr (e56 _ a0 _ _) hs)

/-- canopy/schema.key () -/
def s57 (X : CallT) (a0 : Value) (h : AH) (K : Value → AH → Prop) : Prop :=
  optW (bldSl 1 [(.string (bs []))] 5 [(0, (.string (bs [114, 111, 111, 116]))), (1, (.string (bs [101, 108, 101, 109, 101, 110, 116]))), (2, (.string (bs [101, 109, 112, 116, 121]))), (3, (.string (bs [97, 110, 121]))), (4, (.string (bs [116, 101, 120, 116])))]) fun c =>
  newW none (.row c true) h fun i h_1 =>
  X 71 [(.slice (some ⟨i, 0, none⟩) 5 5), a0] h_1 fun v5 h_2 =>
  K v5 h_2
theorem e57 (X : CallT) (a0 : Value) (h : AH) (K : Value → AH → Prop) : cwp2 Try.prog X (Try.f57.body.getD .skip) (endW Try.prog Try.f57 K) (envOf [a0]) h = s57 X a0 h K := by kernel_rfl
theorem c57 {a0 : Value} {h : AH} {K : Value → AH → Prop} (hs : s57 (callW Try.prog) a0 h K) : callW Try.prog 57 [a0] h K := callW_of Try.func57 (by kernel_rfl) (Eq.mpr (e57 _ a0 _ _) hs)

/-- (*canopy/schema.parser).or (I at e: live [0, 3], writes [3, 7, 8, 9, 10, 11, 12, 13, 14]) -/
def s58 (X : CallT) (a0 : Value) (h : AH) (K : Value → AH → Prop) : Prop :=
  newR none [(.int .i64 0), (.string (bs [])), (.slice none 0 0)] h fun v2 h_1 =>
  X 72 [a0] h_1 fun v5 h_2 =>
  optW (bldSl 3 [(.int .i64 0), (.string (bs [])), (.slice none 0 0)] 1 [(0, v5)]) fun c =>
  newW none (.row c true) h_2 fun i h_3 =>
  loopE (fun I e h_4 =>
    optW (bld [(.string (bs [])), (.int .u8 0)] [(0, 1), (1, 1)] [(1, (.int .u8 124))]) fun v8 =>
    X 35 [(e 0), v8] h_4 fun v9 h_5 =>
    condW v9 (
      X 72 [(e 0)] h_5 fun v12 h_6 =>
      optW (bldSl 3 [(.int .i64 0), (.string (bs [])), (.slice none 0 0)] 1 [(0, v12)]) fun c_1 =>
      newW none (.row c_1 true) h_6 fun i_1 h_7 =>
      appSl 3 (e 3) (.slice (some ⟨i_1, 0, none⟩) 1 1) h_7 fun v14 h_8 =>
      I (pt (pt (pt (pt (pt (pt (pt (pt (pt e 7 (e 0)) 8 v8) 9 v9) 10 (e 3)) 11 (e 0)) 12 v12) 13 (.slice (some ⟨i_1, 0, none⟩) 1 1)) 14 v14) 3 v14) h_8
    ) (
      X 73 [(.int .i64 6), (e 3)] h_5 fun v16 h_9 =>
      optW (pStore 3 (e 2) v16 h_9) fun h_10 =>
      optW (resList Try.prog (pt (pt (pt (pt (pt e 7 (e 0)) 8 v8) 9 v9) 15 (e 3)) 16 v16) h_10 Try.f58.results.toList) fun vs => K (resOf vs) h_10))
  (pt (pt (pt (pt (pt (envOf [a0]) 2 v2) 4 a0) 5 v5) 6 (.slice (some ⟨i, 0, none⟩) 1 1)) 3 (.slice (some ⟨i, 0, none⟩) 1 1)) h_3
theorem e58 (X : CallT) (a0 : Value) (h : AH) (K : Value → AH → Prop) : cwp2 Try.prog X (Try.f58.body.getD .skip) (endW Try.prog Try.f58 K) (envOf [a0]) h = s58 X a0 h K := by kernel_rfl
theorem c58 {a0 : Value} {h : AH} {K : Value → AH → Prop} (hs : s58 (callW Try.prog) a0 h K) : callW Try.prog 58 [a0] h K := callW_of Try.func58 (by kernel_rfl) (Eq.mpr (e58 _ a0 _ _) hs)

/-- slices.ContainsFunc[[]canopy/api.Element,canopy/api.Element] () -/
def s59 (X : CallT) (a0 a1 : Value) (h : AH) (K : Value → AH → Prop) : Prop :=
  X 74 [a0, a1] h fun v7 h_1 =>
  optW (pBin Try.prog .geq 3 v7 (.int .i64 0)) fun v8 =>
  K v8 h_1
theorem e59 (X : CallT) (a0 a1 : Value) (h : AH) (K : Value → AH → Prop) : cwp2 Try.prog X (Try.f59.body.getD .skip) (endW Try.prog Try.f59 K) (envOf [a0, a1]) h = s59 X a0 a1 h K := by kernel_rfl
theorem c59 {a0 a1 : Value} {h : AH} {K : Value → AH → Prop} (hs : s59 (callW Try.prog) a0 a1 h K) : callW Try.prog 59 [a0, a1] h K := callW_of Try.func59 (by kernel_rfl) (Eq.mpr (e59 _ a0 a1 _ _) hs)

/-- canopy/schema.has$1 () -/
def s60 (X : CallT) (a0 a1 : Value) (h : AH) (K : Value → AH → Prop) : Prop :=
  aBox a0 none h fun v2 h_1 =>
  optW (pOff 0 v2) fun v4 =>
  optW (rdRow false 1 v4 h_1) fun v5 =>
  optW (rdRow false 1 a1 h_1) fun v6 =>
  optW (pBin Try.prog .eql 9 v5 v6) fun v7 =>
  K v7 h_1
theorem e60 (X : CallT) (a0 a1 : Value) (h : AH) (K : Value → AH → Prop) : cwp2 Try.prog X (Try.f60.body.getD .skip) (endW Try.prog Try.f60 K) (envOf [a0, a1]) h = s60 X a0 a1 h K := by kernel_rfl
theorem c60 {a0 a1 : Value} {h : AH} {K : Value → AH → Prop} (hs : s60 (callW Try.prog) a0 a1 h K) : callW Try.prog 60 [a0, a1] h K := callW_of Try.func60 (by kernel_rfl) (Eq.mpr (e60 _ a0 a1 _ _) hs)

/-- (*canopy/schema.reader).row () -/
def s66 (X : CallT) (a0 : Value) (h : AH) (K : Value → AH → Prop) : Prop :=
  optW (pNilCheck a0) fun v4 =>
  optW (pOff 2 v4) fun v5 =>
  optW (rdRow false 1 v5 h) fun v6 =>
  optW (lenSl v6) fun v7 =>
  optW (pBin Try.prog .add 3 v7 (.int .i64 1)) fun v8 =>
  optW (mkSl 1 1 [(.bool false)] v8 v8) fun c =>
  newW none (.row c.2.2 true) h fun i h_1 =>
  K (.slice (some ⟨i, 0, none⟩) c.1 c.2.1) h_1
theorem e66 (X : CallT) (a0 : Value) (h : AH) (K : Value → AH → Prop) : cwp2 Try.prog X (Try.f66.body.getD .skip) (endW Try.prog Try.f66 K) (envOf [a0]) h = s66 X a0 h K := by kernel_rfl
theorem c66 {a0 : Value} {h : AH} {K : Value → AH → Prop} (hs : s66 (callW Try.prog) a0 h K) : callW Try.prog 66 [a0] h K := callW_of Try.func66 (by kernel_rfl) (Eq.mpr (e66 _ a0 _ _) hs)

/-- (*canopy/schema.reader).model (J at e: live [1, 2, 3, 9]; I at e_1: live [1, 2, 3, 59, 60, 61], writes [9, 11, 12, 61, 62, 63, 64, 65, 66, 67, 68, 69, 70, 71, 72, 73, 74, 75, 76, 77]; I_1 at e_2: live [1, 3, 9, 10, 84, 85], writes [9, 13, 85, 86, 87, 88, 89, 90, 91, 92, 93, 94, 95, 96, 97, 98, 99]; I_2 at e_3: live [1, 2, 3, 9, 108, 109], writes [14, 109, 110, 111, 112, 113, 114, 115, 116, 117, 118, 119, 120, 121, 122, 123]; J_1 at e_4: live [1, 2, 3, 9, 10, 124]) -/
def s67 (X : CallT) (a0 a1 a2 : Value) (h : AH) (K : Value → AH → Prop) : Prop :=
  aBox a0 none h fun v3 h_1 =>
  optW (rdRow false 1 v3 h_1) fun v17 =>
  optW (pNilCheck v17) fun v18 =>
  optW (pOff 3 v18) fun v19 =>
  optW (rdRow false 1 v19 h_1) fun v20 =>
  optW (bld [(.pointer none), (.int .i64 0)] [(0, 1), (1, 1)] [(0, a1), (1, a2)]) fun v23 =>
  optW (pLook Try.prog 91 v20 v23 true h_1) fun v24 =>
  optW (pExtract v24 0) fun v25 =>
  optW (pExtract v24 1) fun v26 =>
  condW v26 (
    K v25 h_1
  ) (
    optW (rdRow false 1 v3 h_1) fun v29 =>
    X 66 [v29] h_1 fun v30 h_2 =>
    optW (pIdxS 1 v30 a2) fun v33 =>
    optW (pStore 1 v33 (.bool true) h_2) fun h_3 =>
    joinE (fun J =>
      optW (pNilCheck a1) fun v36 =>
      optW (pOff 0 v36) fun v37 =>
      optW (rdRow false 1 v37 h_3) fun v38 =>
      optW (pBin Try.prog .eql 3 v38 (.int .i64 2)) fun v40 =>
      condW v40 (
        optW (rdRow false 1 v3 h_3) fun v41 =>
        optW (rdRow false 1 v3 h_3) fun v43 =>
        X 79 [v41, v30, (.func (.func 80) #[v43] #[])] h_3 fun v45 h_6 =>
        J (pt (pt (pt (pt (pt (pt (pt (pt (pt (pt (pt (pt (pt (pt (pt (pt (pt (pt (pt (pt (pt (pt (pt (pt (pt (pt (pt (pt (pt (pt (pt (pt (pt (pt (pt (pt (envOf [a0, a1, a2]) 3 v3) 6 (.slice none 0 0)) 17 v17) 18 v18) 19 v19) 20 v20) 21 a1) 22 a2) 23 v23) 24 v24) 16 v24) 25 v25) 26 v26) 7 v25) 8 v26) 27 v26) 29 v29) 30 v30) 9 v30) 31 v30) 32 a2) 33 v33) 34 (.func (.func 77) #[] #[v3])) 10 (.func (.func 77) #[] #[v3])) 35 a1) 36 v36) 37 v37) 38 v38) 40 v40) 39 v40) 41 v41) 42 v30) 43 v43) 44 (.func (.func 80) #[v43] #[])) 45 v45) 9 v45) h_6
      ) (
        optW (pBin Try.prog .eql 3 v38 (.int .i64 3)) fun v47 =>
        condW v47 (
          optW (rdRow false 1 v3 h_3) fun v48 =>
          X 81 [v48, a2] h_3 fun v50 h_7 =>
          J (pt (pt (pt (pt (pt (pt (pt (pt (pt (pt (pt (pt (pt (pt (pt (pt (pt (pt (pt (pt (pt (pt (pt (pt (pt (pt (pt (pt (pt (pt (pt (pt (pt (pt (pt (pt (envOf [a0, a1, a2]) 3 v3) 6 (.slice none 0 0)) 17 v17) 18 v18) 19 v19) 20 v20) 21 a1) 22 a2) 23 v23) 24 v24) 16 v24) 25 v25) 26 v26) 7 v25) 8 v26) 27 v26) 29 v29) 30 v30) 9 v30) 31 v30) 32 a2) 33 v33) 34 (.func (.func 77) #[] #[v3])) 10 (.func (.func 77) #[] #[v3])) 35 a1) 36 v36) 37 v37) 38 v38) 40 v40) 39 v40) 47 v47) 46 v47) 48 v48) 49 a2) 50 v50) 9 v50) h_7
        ) (
          optW (pBin Try.prog .eql 3 v38 (.int .i64 4)) fun v52 =>
          condW v52 (
            optW (rdRow false 1 v3 h_3) fun v53 =>
            X 66 [v53] h_3 fun v54 h_8 =>
            optW (rdRow false 1 v3 h_8) fun v55 =>
            optW (pNilCheck v55) fun v56 =>
            optW (pOff 0 v56) fun v57 =>
            optW (pOff 1 v57) fun v58 =>
            optW (rdRow false 1 v58 h_8) fun v59 =>
            optW (lenSl v59) fun v60 =>
            loopE (fun I e_1 h_9 =>
              optW (pBin Try.prog .lss 3 (e_1 61) (e_1 60)) fun v62 =>
              condW v62 (
                optW (pIdxS 4 (e_1 59) (e_1 61)) fun v64 =>
                optW (rdRow true 4 v64 h_9) fun v65 =>
                newR none [(.string (bs [])), (.int .i64 0), (.string (bs [])), (.slice none 0 0)] h_9 fun v12 h_10 =>
                optW (pStore 4 v12 v65 h_10) fun h_11 =>
                optW (pOff 0 v12) fun v66 =>
                optW (rdRow false 1 v66 h_11) fun v67 =>
                optW (pNilCheck (e_1 1)) fun v69 =>
                optW (pOff 1 v69) fun v70 =>
                optW (rdRow false 1 v70 h_11) fun v71 =>
                optW (pBin Try.prog .eql 9 v67 v71) fun v72 =>
                condW v72 (
                  optW (rdRow false 1 (e_1 3) h_11) fun v73 =>
                  X 48 [v73, (e_1 61), (e_1 2)] h_11 fun v76 h_12 =>
                  optW (pBin Try.prog .add 3 (e_1 61) (.int .i64 1)) fun v77 =>
                  I (pt (pt (pt (pt (pt (pt (pt (pt (pt (pt (pt (pt (pt (pt (pt (pt (pt (pt (pt (pt e_1 62 v62) 63 (e_1 61)) 64 v64) 65 v65) 12 v12) 11 (e_1 61)) 66 v66) 67 v67) 68 (e_1 1)) 69 v69) 70 v70) 71 v71) 72 v72) 73 v73) 74 (e_1 61)) 75 (e_1 2)) 76 v76) 9 v76) 77 v77) 61 v77) h_12
                ) (
                  optW (pBin Try.prog .add 3 (e_1 61) (.int .i64 1)) fun v77_1 =>
                  I (pt (pt (pt (pt (pt (pt (pt (pt (pt (pt (pt (pt (pt (pt (pt e_1 62 v62) 63 (e_1 61)) 64 v64) 65 v65) 12 v12) 11 (e_1 61)) 66 v66) 67 v67) 68 (e_1 1)) 69 v69) 70 v70) 71 v71) 72 v72) 77 v77_1) 61 v77_1) h_11)
              ) (
                J (pt e_1 62 v62) h_9))
            (pt (pt (pt (pt (pt (pt (pt (pt (pt (pt (pt (pt (pt (pt (pt (pt (pt (pt (pt (pt (pt (pt (pt (pt (pt (pt (pt (pt (pt (pt (pt (pt (pt (pt (pt (pt (pt (pt (pt (pt (pt (pt (pt (pt (envOf [a0, a1, a2]) 3 v3) 6 (.slice none 0 0)) 17 v17) 18 v18) 19 v19) 20 v20) 21 a1) 22 a2) 23 v23) 24 v24) 16 v24) 25 v25) 26 v26) 7 v25) 8 v26) 27 v26) 29 v29) 30 v30) 9 v30) 31 v30) 32 a2) 33 v33) 34 (.func (.func 77) #[] #[v3])) 10 (.func (.func 77) #[] #[v3])) 35 a1) 36 v36) 37 v37) 38 v38) 40 v40) 39 v40) 47 v47) 46 v47) 52 v52) 51 v52) 53 v53) 54 v54) 9 v54) 55 v55) 56 v56) 57 v57) 58 v58) 59 v59) 60 v60) 61 (.int .i64 0)) h_8
          ) (
            optW (pBin Try.prog .eql 3 v38 (.int .i64 5)) fun v79 =>
            condW v79 (
              optW (pNilCheck a1) fun v81 =>
              optW (pOff 2 v81) fun v82 =>
              optW (rdRow false 1 v82 h_3) fun v83 =>
              optW (lenSl v83) fun v84 =>
              loopE (fun I_1 e_2 h_13 =>
                optW (pBin Try.prog .lss 3 (e_2 85) (e_2 84)) fun v86 =>
                condW v86 (
                  optW (rdRow false 1 (e_2 3) h_13) fun v88 =>
                  optW (pNilCheck (e_2 1)) fun v92 =>
                  optW (pOff 2 v92) fun v93 =>
                  optW (rdRow false 1 v93 h_13) fun v94 =>
                  optW (pIdxS 3 v94 (e_2 85)) fun v96 =>
                  callV X (e_2 10) [v96] h_13 fun v97 h_14 =>
                  (∀ x ∈ (ceOf 1 (e_2 3)), vw x h_13 = vw x h_14) ∧
                  X 82 [v88, (e_2 9), v97] h_14 fun v98 h_15 =>
                  optW (pBin Try.prog .add 3 (e_2 85) (.int .i64 1)) fun v99 =>
                  I_1 (pt (pt (pt (pt (pt (pt (pt (pt (pt (pt (pt (pt (pt (pt (pt (pt (pt e_2 86 v86) 87 (e_2 85)) 13 (e_2 85)) 88 v88) 89 (e_2 9)) 90 (e_2 10)) 91 (e_2 1)) 92 v92) 93 v93) 94 v94) 95 (e_2 85)) 96 v96) 97 v97) 98 v98) 9 v98) 99 v99) 85 v99) h_15
                ) (
                  J (pt e_2 86 v86) h_13))
              (pt (pt (pt (pt (pt (pt (pt (pt (pt (pt (pt (pt (pt (pt (pt (pt (pt (pt (pt (pt (pt (pt (pt (pt (pt (pt (pt (pt (pt (pt (pt (pt (pt (pt (pt (pt (pt (pt (pt (pt (pt (pt (envOf [a0, a1, a2]) 3 v3) 6 (.slice none 0 0)) 17 v17) 18 v18) 19 v19) 20 v20) 21 a1) 22 a2) 23 v23) 24 v24) 16 v24) 25 v25) 26 v26) 7 v25) 8 v26) 27 v26) 29 v29) 30 v30) 9 v30) 31 v30) 32 a2) 33 v33) 34 (.func (.func 77) #[] #[v3])) 10 (.func (.func 77) #[] #[v3])) 35 a1) 36 v36) 37 v37) 38 v38) 40 v40) 39 v40) 47 v47) 46 v47) 52 v52) 51 v52) 79 v79) 78 v79) 80 a1) 81 v81) 82 v82) 83 v83) 84 v84) 85 (.int .i64 0)) h_3
            ) (
              optW (pBin Try.prog .eql 3 v38 (.int .i64 6)) fun v101 =>
              condW v101 (
                optW (rdRow false 1 v3 h_3) fun v102 =>
                X 66 [v102] h_3 fun v103 h_16 =>
                optW (pNilCheck a1) fun v105 =>
                optW (pOff 2 v105) fun v106 =>
                optW (rdRow false 1 v106 h_16) fun v107 =>
                optW (lenSl v107) fun v108 =>
                loopE (fun I_2 e_3 h_17 =>
                  optW (pBin Try.prog .lss 3 (e_3 109) (e_3 108)) fun v110 =>
                  condW v110 (
                    optW (rdRow false 1 (e_3 3) h_17) fun v113 =>
                    optW (pNilCheck (e_3 1)) fun v115 =>
                    optW (pOff 2 v115) fun v116 =>
                    optW (rdRow false 1 v116 h_17) fun v117 =>
                    optW (pIdxS 3 v117 (e_3 109)) fun v119 =>
                    X 67 [v113, v119, (e_3 2)] h_17 fun v121 h_18 =>
                    X 83 [(e_3 9), v121] h_18 fun v122 h_19 =>
                    optW (pBin Try.prog .add 3 (e_3 109) (.int .i64 1)) fun v123 =>
                    I_2 (pt (pt (pt (pt (pt (pt (pt (pt (pt (pt (pt (pt (pt (pt (pt (pt e_3 110 v110) 111 (e_3 109)) 14 (e_3 109)) 112 (e_3 9)) 113 v113) 114 (e_3 1)) 115 v115) 116 v116) 117 v117) 118 (e_3 109)) 119 v119) 120 (e_3 2)) 121 v121) 122 v122) 123 v123) 109 v123) h_19
                  ) (
                    J (pt e_3 110 v110) h_17))
                (pt (pt (pt (pt (pt (pt (pt (pt (pt (pt (pt (pt (pt (pt (pt (pt (pt (pt (pt (pt (pt (pt (pt (pt (pt (pt (pt (pt (pt (pt (pt (pt (pt (pt (pt (pt (pt (pt (pt (pt (pt (pt (pt (pt (pt (pt (pt (envOf [a0, a1, a2]) 3 v3) 6 (.slice none 0 0)) 17 v17) 18 v18) 19 v19) 20 v20) 21 a1) 22 a2) 23 v23) 24 v24) 16 v24) 25 v25) 26 v26) 7 v25) 8 v26) 27 v26) 29 v29) 30 v30) 9 v30) 31 v30) 32 a2) 33 v33) 34 (.func (.func 77) #[] #[v3])) 10 (.func (.func 77) #[] #[v3])) 35 a1) 36 v36) 37 v37) 38 v38) 40 v40) 39 v40) 47 v47) 46 v47) 52 v52) 51 v52) 79 v79) 78 v79) 101 v101) 100 v101) 102 v102) 103 v103) 9 v103) 104 a1) 105 v105) 106 v106) 107 v107) 108 v108) 109 (.int .i64 0)) h_16
              ) (
                joinE (fun J_1 =>
                  optW (pBin Try.prog .eql 3 v38 (.int .i64 7)) fun v125 =>
                  condW v125 (
                    J_1 (pt (pt (pt (pt (pt (pt (pt (pt (pt (pt (pt (pt (pt (pt (pt (pt (pt (pt (pt (pt (pt (pt (pt (pt (pt (pt (pt (pt (pt (pt (pt (pt (pt (pt (pt (pt (pt (pt (pt (pt (envOf [a0, a1, a2]) 3 v3) 6 (.slice none 0 0)) 17 v17) 18 v18) 19 v19) 20 v20) 21 a1) 22 a2) 23 v23) 24 v24) 16 v24) 25 v25) 26 v26) 7 v25) 8 v26) 27 v26) 29 v29) 30 v30) 9 v30) 31 v30) 32 a2) 33 v33) 34 (.func (.func 77) #[] #[v3])) 10 (.func (.func 77) #[] #[v3])) 35 a1) 36 v36) 37 v37) 38 v38) 40 v40) 39 v40) 47 v47) 46 v47) 52 v52) 51 v52) 79 v79) 78 v79) 101 v101) 100 v101) 125 v125) 124 v125) h_3
                  ) (
                    optW (pBin Try.prog .eql 3 v38 (.int .i64 8)) fun v126 =>
                    condW v126 (
                      J_1 (pt (pt (pt (pt (pt (pt (pt (pt (pt (pt (pt (pt (pt (pt (pt (pt (pt (pt (pt (pt (pt (pt (pt (pt (pt (pt (pt (pt (pt (pt (pt (pt (pt (pt (pt (pt (pt (pt (pt (pt (pt (pt (envOf [a0, a1, a2]) 3 v3) 6 (.slice none 0 0)) 17 v17) 18 v18) 19 v19) 20 v20) 21 a1) 22 a2) 23 v23) 24 v24) 16 v24) 25 v25) 26 v26) 7 v25) 8 v26) 27 v26) 29 v29) 30 v30) 9 v30) 31 v30) 32 a2) 33 v33) 34 (.func (.func 77) #[] #[v3])) 10 (.func (.func 77) #[] #[v3])) 35 a1) 36 v36) 37 v37) 38 v38) 40 v40) 39 v40) 47 v47) 46 v47) 52 v52) 51 v52) 79 v79) 78 v79) 101 v101) 100 v101) 125 v125) 124 v125) 126 v126) 124 v126) h_3
                    ) (
                      optW (pBin Try.prog .eql 3 v38 (.int .i64 9)) fun v127 =>
                      J_1 (pt (pt (pt (pt (pt (pt (pt (pt (pt (pt (pt (pt (pt (pt (pt (pt (pt (pt (pt (pt (pt (pt (pt (pt (pt (pt (pt (pt (pt (pt (pt (pt (pt (pt (pt (pt (pt (pt (pt (pt (pt (pt (pt (pt (envOf [a0, a1, a2]) 3 v3) 6 (.slice none 0 0)) 17 v17) 18 v18) 19 v19) 20 v20) 21 a1) 22 a2) 23 v23) 24 v24) 16 v24) 25 v25) 26 v26) 7 v25) 8 v26) 27 v26) 29 v29) 30 v30) 9 v30) 31 v30) 32 a2) 33 v33) 34 (.func (.func 77) #[] #[v3])) 10 (.func (.func 77) #[] #[v3])) 35 a1) 36 v36) 37 v37) 38 v38) 40 v40) 39 v40) 47 v47) 46 v47) 52 v52) 51 v52) 79 v79) 78 v79) 101 v101) 100 v101) 125 v125) 124 v125) 126 v126) 124 v126) 127 v127) 124 v127) h_3)))
                (fun e_4 h_20 =>
                  condW (e_4 124) (
                    optW (pNilCheck (e_4 1)) fun v129 =>
                    optW (pOff 2 v129) fun v130 =>
                    optW (rdRow false 1 v130 h_20) fun v131 =>
                    optW (lenSl v131) fun v132 =>
                    optW (pBin Try.prog .neq 3 v132 (.int .i64 1)) fun v133 =>
                    condW v133 (
                      J (pt (pt (pt (pt (pt (pt e_4 128 (e_4 1)) 129 v129) 130 v130) 131 v131) 132 v132) 133 v133) h_20
                    ) (
                      optW (rdRow false 1 (e_4 3) h_20) fun v134 =>
                      optW (pNilCheck (e_4 1)) fun v136 =>
                      optW (pOff 2 v136) fun v137 =>
                      optW (rdRow false 1 v137 h_20) fun v138 =>
                      optW (pIdxS 3 v138 (.int .i64 0)) fun v139 =>
                      X 67 [v134, v139, (e_4 2)] h_20 fun v141 h_21 =>
                      X 84 [v141] h_21 fun v142 h_22 =>
                      optW (pNilCheck (e_4 1)) fun v144 =>
                      optW (pOff 0 v144) fun v145 =>
                      optW (rdRow false 1 v145 h_22) fun v146 =>
                      optW (pBin Try.prog .neq 3 v146 (.int .i64 9)) fun v147 =>
                      condW v147 (
                        optW (rdRow false 1 (e_4 3) h_22) fun v148 =>
                        optW (pNilCheck (e_4 1)) fun v152 =>
                        optW (pOff 2 v152) fun v153 =>
                        optW (rdRow false 1 v153 h_22) fun v154 =>
                        optW (pIdxS 3 v154 (.int .i64 0)) fun v155 =>
                        callV X (e_4 10) [v155] h_22 fun v156 h_23 =>
                        (∀ x ∈ (ceOf 1 (e_4 3)), vw x h_22 = vw x h_23) ∧
                        X 79 [v148, v142, v156] h_23 fun v157 h_24 =>
                        optW (pNilCheck (e_4 1)) fun v159 =>
                        optW (pOff 0 v159) fun v160 =>
                        optW (rdRow false 1 v160 h_24) fun v161 =>
                        optW (pBin Try.prog .neq 3 v161 (.int .i64 8)) fun v162 =>
                        condW v162 (
                          X 83 [v157, (e_4 9)] h_24 fun v165 h_25 =>
                          J (pt (pt (pt (pt (pt (pt (pt (pt (pt (pt (pt (pt (pt (pt (pt (pt (pt (pt (pt (pt (pt (pt (pt (pt (pt (pt (pt (pt (pt (pt (pt (pt (pt (pt (pt (pt (pt (pt (pt (pt (pt (pt e_4 128 (e_4 1)) 129 v129) 130 v130) 131 v131) 132 v132) 133 v133) 134 v134) 135 (e_4 1)) 136 v136) 137 v137) 138 v138) 139 v139) 140 (e_4 2)) 141 v141) 142 v142) 15 v142) 143 (e_4 1)) 144 v144) 145 v145) 146 v146) 147 v147) 148 v148) 149 v142) 150 (e_4 10)) 151 (e_4 1)) 152 v152) 153 v153) 154 v154) 155 v155) 156 v156) 157 v157) 15 v157) 158 (e_4 1)) 159 v159) 160 v160) 161 v161) 162 v162) 163 v157) 164 (e_4 9)) 165 v165) 166 v157) 9 v157) h_25
                        ) (
                          J (pt (pt (pt (pt (pt (pt (pt (pt (pt (pt (pt (pt (pt (pt (pt (pt (pt (pt (pt (pt (pt (pt (pt (pt (pt (pt (pt (pt (pt (pt (pt (pt (pt (pt (pt (pt (pt (pt (pt e_4 128 (e_4 1)) 129 v129) 130 v130) 131 v131) 132 v132) 133 v133) 134 v134) 135 (e_4 1)) 136 v136) 137 v137) 138 v138) 139 v139) 140 (e_4 2)) 141 v141) 142 v142) 15 v142) 143 (e_4 1)) 144 v144) 145 v145) 146 v146) 147 v147) 148 v148) 149 v142) 150 (e_4 10)) 151 (e_4 1)) 152 v152) 153 v153) 154 v154) 155 v155) 156 v156) 157 v157) 15 v157) 158 (e_4 1)) 159 v159) 160 v160) 161 v161) 162 v162) 166 v157) 9 v157) h_24)
                      ) (
                        optW (pNilCheck (e_4 1)) fun v159_1 =>
                        optW (pOff 0 v159_1) fun v160_1 =>
                        optW (rdRow false 1 v160_1 h_22) fun v161_1 =>
                        optW (pBin Try.prog .neq 3 v161_1 (.int .i64 8)) fun v162_1 =>
                        condW v162_1 (
                          X 83 [v142, (e_4 9)] h_22 fun v165_1 h_26 =>
                          J (pt (pt (pt (pt (pt (pt (pt (pt (pt (pt (pt (pt (pt (pt (pt (pt (pt (pt (pt (pt (pt (pt (pt (pt (pt (pt (pt (pt (pt (pt (pt e_4 128 (e_4 1)) 129 v129) 130 v130) 131 v131) 132 v132) 133 v133) 134 v134) 135 (e_4 1)) 136 v136) 137 v137) 138 v138) 139 v139) 140 (e_4 2)) 141 v141) 142 v142) 15 v142) 143 (e_4 1)) 144 v144) 145 v145) 146 v146) 147 v147) 158 (e_4 1)) 159 v159_1) 160 v160_1) 161 v161_1) 162 v162_1) 163 v142) 164 (e_4 9)) 165 v165_1) 166 v142) 9 v142) h_26
                        ) (
                          J (pt (pt (pt (pt (pt (pt (pt (pt (pt (pt (pt (pt (pt (pt (pt (pt (pt (pt (pt (pt (pt (pt (pt (pt (pt (pt (pt (pt e_4 128 (e_4 1)) 129 v129) 130 v130) 131 v131) 132 v132) 133 v133) 134 v134) 135 (e_4 1)) 136 v136) 137 v137) 138 v138) 139 v139) 140 (e_4 2)) 141 v141) 142 v142) 15 v142) 143 (e_4 1)) 144 v144) 145 v145) 146 v146) 147 v147) 158 (e_4 1)) 159 v159_1) 160 v160_1) 161 v161_1) 162 v162_1) 166 v142) 9 v142) h_22)))
                  ) (
                    J e_4 h_20))))))))
    (fun e h_4 =>
      optW (rdRow false 1 (e 3) h_4) fun v167 =>
      optW (pNilCheck v167) fun v168 =>
      optW (pOff 3 v168) fun v169 =>
      optW (rdRow false 1 v169 h_4) fun v170 =>
      optW (bld [(.pointer none), (.int .i64 0)] [(0, 1), (1, 1)] [(0, (e 1)), (1, (e 2))]) fun v173 =>
      optW (pMapU Try.prog 91 v170 v173 (e 9) h_4) fun h_5 =>
      K (e 9) h_5))
theorem e67 (X : CallT) (a0 a1 a2 : Value) (h : AH) (K : Value → AH → Prop) : cwp2 Try.prog X (Try.f67.body.getD .skip) (endW Try.prog Try.f67 K) (envOf [a0, a1, a2]) h = s67 X a0 a1 a2 h K := by kernel_rfl
theorem c67 {a0 a1 a2 : Value} {h : AH} {K : Value → AH → Prop} (hs : s67 (callW Try.prog) a0 a1 a2 h K) : callW Try.prog 67 [a0, a1, a2] h K := callW_of Try.func67 (by kernel_rfl) (Eq.mpr (e67 _ a0 a1 a2 _ _) hs)

end Go.Proofs.Ytlenlhlipmkeeaa.W
end

section
/- Go functions, printed by a program as predicates on what may come behind; each is the function. Conditions: none. -/
namespace Go.Proofs.Ytlenlhlipmkeeaa.W
open Go Go.AM
set_option linter.unusedVariables false
set_option maxRecDepth 100000


/-- canopy/canopyref8.fits (I at e: live [2, 3, 4, 7, 8, 9], writes [9, 10, 20, 21, 22, 23, 24, 25, 26, 27, 28, 29, 30, 31, 32, 33, 34, 35, 36, 37, 38, 39, 40, 41, 42, 43, 44, 45, 46, 47, 48, 49, 50, 51, 52, 53, 54, 55, 56, 57, 58, 59, 60, 61, 62, 63, 64, 65, 66, 67, 68, 69, 70, 71, 72, 73, 74, 75, 76, 77, 78, 79, 80, 81, 82, 83, 84, 85, 86, 87, 88, 89, 90, 91, 92, 93, 94, 95, 96, 97, 98, 99, 100, 101, 102, 103, 104, 105, 106, 107, 108, 109, 110, 111, 112, 113, 114, 115, 116, 117, 118, 119, 120, 121, 122, 123, 124, 125, 126, 127]; I_1 at e_1: live [4, 7, 8, 9, 10], writes [10, 56, 57, 58, 59, 60, 61, 62, 63, 64, 65, 66, 67, 68, 69, 70, 71, 72, 73, 74, 75, 76, 77, 78]; I_2 at e_2: live [2, 3, 4, 8, 11], writes [8, 11, 132, 133, 134, 135, 136, 137, 138, 139, 140, 141, 142, 143, 144, 145, 146, 147, 148]; I_3 at e_3: live [2, 3, 4, 8, 12], writes [8, 12, 151, 152, 153, 154, 155, 156, 157, 158, 159, 160, 161, 162, 163, 164, 165, 166, 167]; I_4 at e_4: live [7, 8, 13, 14], writes [8, 14, 192, 193, 194, 195, 196, 197, 198, 199, 200, 201]; I_5 at e_5: live [7, 8, 13, 14], writes [8, 14, 192, 193, 194, 195, 196, 197, 198, 199, 200, 201]) -/
def s68 (X : CallT) (a0 a1 a2 : Value) (h : AH) (K : Value → AH → Prop) : Prop :=
  aBox a0 none h fun v3 h_1 =>
  aBox a1 none h_1 fun v4 h_2 =>
  optW (lenSl a2) fun v16 =>
  optW (pBin Try.prog .add 3 v16 (.int .i64 1)) fun v18 =>
  optW (mkSl 1 24 [(.slice none 0 0)] v18 v18) fun c =>
  newW none (.row c.2.2 true) h_2 fun i h_3 =>
  loopE (fun I e h_4 =>
    optW (pBin Try.prog .leq 3 (e 9) (e 7)) fun v22 =>
    condW v22 (
      optW (pBin Try.prog .add 3 (e 7) (.int .i64 1)) fun v28 =>
      optW (mkSl 1 1 [(.bool false)] v28 v28) fun c_1 =>
      newW none (.row c_1.2.2 true) h_4 fun i_1 h_5 =>
      optW (pIdxS 1 (e 8) (e 9)) fun v30 =>
      optW (pStore 1 v30 (.slice (some ⟨i_1, 0, none⟩) c_1.1 c_1.2.1) h_5) fun h_6 =>
      optW (pIdxS 1 (e 8) (e 9)) fun v33 =>
      optW (rdRow false 1 v33 h_6) fun v34 =>
      optW (pOff 0 (e 4)) fun v36 =>
      optW (rdRow false 1 v36 h_6) fun v37 =>
      optW (pBin Try.prog .eql 3 v37 (.int .i64 1)) fun v38 =>
      gopD (gB v38 false) (fun k =>
        optW (pOff 0 (e 4)) fun v40_1 =>
        k v40_1 h_6 [] ((6, (ceOf 1 v36)) :: ((3, (ceOf 1 v33)) :: []))) h_6 [] ((6, (ceOf 1 v36)) :: ((3, (ceOf 1 v33)) :: [])) fun v40 h_7 H S =>
      gopD (gB v38 false) (fun k_1 =>
        histC #[0, 0, 3, 7, 0, 0, 32, 96, 224, 480, 992, 2016, 4064, 8160, 16352, 32736, 65504, 131040, 262112, 524256, 1048544, 2097120, 4194272, 8388607, 16777215] 10 (ceOf 1 v40) H (
          optW (rdRow false 1 v40 h_7) fun v41_1 =>
          k_1 v41_1 h_7 H ((10, (ceOf 1 v40)) :: S))) h_7 H S fun v41 h_8 H_1 S_1 =>
      gopD (gB v38 false) (fun k_2 =>
        optW (pBin Try.prog .eql 3 v41 (.int .i64 7)) fun v42_1 =>
        k_2 v42_1 h_8 H_1 S_1) h_8 H_1 S_1 fun v42 h_9 H_2 S_2 =>
      optW (pPick v38 (.bool true) v42) fun v43 =>
      gopD (gB v43 false) (fun k_3 =>
        optW (pOff 0 (e 4)) fun v45_1 =>
        k_3 v45_1 h_9 H_2 S_2) h_9 H_2 S_2 fun v45 h_10 H_3 S_3 =>
      gopD (gB v43 false) (fun k_4 =>
        histC #[0, 0, 3, 7, 0, 0, 32, 96, 224, 480, 992, 2016, 4064, 8160, 16352, 32736, 65504, 131040, 262112, 524256, 1048544, 2097120, 4194272, 8388607, 16777215] 15 (ceOf 1 v45) H_3 (
          optW (rdRow false 1 v45 h_10) fun v46_1 =>
          k_4 v46_1 h_10 H_3 ((15, (ceOf 1 v45)) :: S_3))) h_10 H_3 S_3 fun v46 h_11 H_4 S_4 =>
      gopD (gB v43 false) (fun k_5 =>
        optW (pBin Try.prog .eql 3 v46 (.int .i64 9)) fun v47_1 =>
        k_5 v47_1 h_11 H_4 S_4) h_11 H_4 S_4 fun v47 h_12 H_5 S_5 =>
      optW (pPick v43 (.bool true) v47) fun v48 =>
      gopD (gB v48 false) (fun k_6 =>
        optW (pOff 0 (e 4)) fun v50_1 =>
        k_6 v50_1 h_12 H_5 S_5) h_12 H_5 S_5 fun v50 h_13 H_6 S_6 =>
      gopD (gB v48 false) (fun k_7 =>
        histC #[0, 0, 3, 7, 0, 0, 32, 96, 224, 480, 992, 2016, 4064, 8160, 16352, 32736, 65504, 131040, 262112, 524256, 1048544, 2097120, 4194272, 8388607, 16777215] 20 (ceOf 1 v50) H_6 (
          optW (rdRow false 1 v50 h_13) fun v51_1 =>
          k_7 v51_1 h_13 H_6 ((20, (ceOf 1 v50)) :: S_6))) h_13 H_6 S_6 fun v51 h_14 H_7 S_7 =>
      gopD (gB v48 false) (fun k_8 =>
        optW (pBin Try.prog .eql 3 v51 (.int .i64 5)) fun v52_1 =>
        k_8 v52_1 h_14 H_7 S_7) h_14 H_7 S_7 fun v52 h_15 H_8 S_8 =>
      optW (pPick v48 (.bool true) v52) fun v53 =>
      optW (pIdxS 1 v34 (e 9)) fun v54 =>
      histC #[0, 0, 3, 7, 0, 0, 32, 96, 224, 480, 992, 2016, 4064, 8160, 16352, 32736, 65504, 131040, 262112, 524256, 1048544, 2097120, 4194272, 8388607, 16777215] 24 (obOf v54) H_8 (
        optW (pStore 1 v54 v53 h_15) fun h_16 =>
        readC #[0, 0, 3, 7, 0, 0, 32, 96, 224, 480, 992, 2016, 4064, 8160, 16352, 32736, 65504, 131040, 262112, 524256, 1048544, 2097120, 4194272, 8388607, 16777215] 24 h_15 h_16 S_8 (
          loopE (fun I_1 e_1 h_17 =>
            optW (pBin Try.prog .leq 3 (e_1 10) (e_1 7)) fun v58 =>
            condW v58 (
              optW (pIdxS 1 (e_1 8) (e_1 9)) fun v63 =>
              optW (rdRow false 1 v63 h_17) fun v64 =>
              optW (pIdxS 1 (e_1 8) (e_1 9)) fun v68 =>
              optW (rdRow false 1 v68 h_17) fun v69 =>
              optW (pIdxS 1 v69 (e_1 10)) fun v71 =>
              optW (rdRow false 1 v71 h_17) fun v72 =>
              gopD (gB v72 false) (fun k_9 =>
                optW (pOff 0 (e_1 4)) fun v74_1 =>
                k_9 v74_1 h_17 [] ((11, (ceOf 1 v71)) :: ((8, (ceOf 1 v68)) :: ((3, (ceOf 1 v63)) :: [])))) h_17 [] ((11, (ceOf 1 v71)) :: ((8, (ceOf 1 v68)) :: ((3, (ceOf 1 v63)) :: []))) fun v74 h_18 H_9 S_9 =>
              gopD (gB v72 false) (fun k_10 =>
                histC #[0, 0, 3, 7, 0, 0, 0, 96, 224, 0, 992, 2016, 4064, 8160, 16352, 32736, 65504, 131071, 262143] 14 (ceOf 1 v74) H_9 (
                  optW (rdRow false 1 v74 h_18) fun v75_1 =>
                  k_10 v75_1 h_18 H_9 ((14, (ceOf 1 v74)) :: S_9))) h_18 H_9 S_9 fun v75 h_19 H_10 S_10 =>
              gopD (gB v72 false) (fun k_11 =>
                optW (pBin Try.prog .eql 3 v75 (.int .i64 2)) fun v76_1 =>
                k_11 v76_1 h_19 H_10 S_10) h_19 H_10 S_10 fun v76 h_20 H_11 S_11 =>
              optW (pPick v72 (.bool true) v76) fun v77 =>
              optW (pIdxS 1 v64 (e_1 10)) fun v78 =>
              histC #[0, 0, 3, 7, 0, 0, 0, 96, 224, 0, 992, 2016, 4064, 8160, 16352, 32736, 65504, 131071, 262143] 18 (obOf v78) H_11 (
                optW (pStore 1 v78 v77 h_20) fun h_21 =>
                readC #[0, 0, 3, 7, 0, 0, 0, 96, 224, 0, 992, 2016, 4064, 8160, 16352, 32736, 65504, 131071, 262143] 18 h_20 h_21 S_11 (
                  optW (pBin Try.prog .add 3 (e_1 10) (.int .i64 1)) fun v60 =>
                  I_1 (pt (pt (pt (pt (pt (pt (pt (pt (pt (pt (pt (pt (pt (pt (pt (pt (pt (pt (pt (pt (pt (pt (pt (pt e_1 56 (e_1 10)) 57 (e_1 7)) 58 v58) 61 (e_1 8)) 62 (e_1 9)) 63 v63) 64 v64) 65 (e_1 10)) 66 (e_1 8)) 67 (e_1 9)) 68 v68) 69 v69) 70 (e_1 10)) 71 v71) 72 v72) 73 v72) 74 v74) 75 v75) 76 v76) 77 v77) 78 v78) 59 (e_1 10)) 60 v60) 10 v60) h_21))
            ) (
              optW (pBin Try.prog .lss 3 (e_1 9) (e_1 7)) fun v81 =>
              condW v81 (
                optW (pIdxS 1 (e_1 8) (e_1 9)) fun v84 =>
                optW (rdRow false 1 v84 h_17) fun v85 =>
                optW (pBin Try.prog .add 3 (e_1 9) (.int .i64 1)) fun v87 =>
                optW (pIdxS 1 (e_1 8) (e_1 9)) fun v90 =>
                optW (rdRow false 1 v90 h_17) fun v91 =>
                optW (pBin Try.prog .add 3 (e_1 9) (.int .i64 1)) fun v93 =>
                optW (pIdxS 1 v91 v93) fun v94 =>
                optW (rdRow false 1 v94 h_17) fun v95 =>
                gopD (gB v95 false) (fun k_12 =>
                  optW (pOff 0 (e_1 4)) fun v97_1 =>
                  k_12 v97_1 h_17 [] ((13, (ceOf 1 v94)) :: ((9, (ceOf 1 v90)) :: ((3, (ceOf 1 v84)) :: [])))) h_17 [] ((13, (ceOf 1 v94)) :: ((9, (ceOf 1 v90)) :: ((3, (ceOf 1 v84)) :: []))) fun v97 h_22 H_12 S_12 =>
                gopD (gB v95 false) (fun k_13 =>
                  histC #[0, 0, 3, 7, 0, 16, 0, 0, 192, 448, 0, 1024, 4032, 8128, 16320, 32704, 65472, 131008, 262080, 524224, 524224, 2097088, 4194240, 524224, 8912832, 25690048, 67108800, 134217664, 268435392, 536870848, 1073741760, 2147483584, 4294967232, 8589934528, 17179869120, 17179869120, 68719476672, 137438953408, 17179869120, 17179869120, 566935683008, 1941325217728, 4398046511040, 8796093022144, 17592186044352, 35184372088831, 70368744177663] 16 (ceOf 1 v97) H_12 (
                    optW (rdRow false 1 v97 h_22) fun v98_1 =>
                    k_13 v98_1 h_22 H_12 ((16, (ceOf 1 v97)) :: S_12))) h_22 H_12 S_12 fun v98 h_23 H_13 S_13 =>
                gopD (gB v95 false) (fun k_14 =>
                  optW (pBin Try.prog .eql 3 v98 (.int .i64 3)) fun v99_1 =>
                  k_14 v99_1 h_23 H_13 S_13) h_23 H_13 S_13 fun v99 h_24 H_14 S_14 =>
                gopD (gB v95 false) (fun k_15 =>
                  k_15 v99 h_24 H_14 S_14) h_24 H_14 S_14 fun v100 h_25 H_15 S_15 =>
                gopD (gB v100 true) (fun k_16 =>
                  k_16 (e_1 2) h_25 H_15 S_15) h_25 H_15 S_15 fun v101 h_26 H_16 S_16 =>
                gopD (gB v100 true) (fun k_17 =>
                  k_17 (e_1 9) h_26 H_16 S_16) h_26 H_16 S_16 fun v102 h_27 H_17 S_17 =>
                gopD (gB v100 true) (fun k_18 =>
                  optW (pIdxS 1 v101 v102) fun v103_1 =>
                  k_18 v103_1 h_27 H_17 S_17) h_27 H_17 S_17 fun v103 h_28 H_18 S_18 =>
                gopD (gB v100 true) (fun k_19 =>
                  histC #[0, 0, 3, 7, 0, 16, 0, 0, 192, 448, 0, 1024, 4032, 8128, 16320, 32704, 65472, 131008, 262080, 524224, 524224, 2097088, 4194240, 524224, 8912832, 25690048, 67108800, 134217664, 268435392, 536870848, 1073741760, 2147483584, 4294967232, 8589934528, 17179869120, 17179869120, 68719476672, 137438953408, 17179869120, 17179869120, 566935683008, 1941325217728, 4398046511040, 8796093022144, 17592186044352, 35184372088831, 70368744177663] 22 (ceOf 1 v103) H_18 (
                    optW (rdRow false 1 v103 h_28) fun v104_1 =>
                    k_19 v104_1 h_28 H_18 ((22, (ceOf 1 v103)) :: S_18))) h_28 H_18 S_18 fun v104 h_29 H_19 S_19 =>
                gopD (gB v100 true) (fun k_20 =>
                  optW (pOff 1 (e_1 3)) fun v105_1 =>
                  k_20 v105_1 h_29 H_19 S_19) h_29 H_19 S_19 fun v105 h_30 H_20 S_20 =>
                gopD (gB v100 true) (fun k_21 =>
                  histC #[0, 0, 3, 7, 0, 16, 0, 0, 192, 448, 0, 1024, 4032, 8128, 16320, 32704, 65472, 131008, 262080, 524224, 524224, 2097088, 4194240, 524224, 8912832, 25690048, 67108800, 134217664, 268435392, 536870848, 1073741760, 2147483584, 4294967232, 8589934528, 17179869120, 17179869120, 68719476672, 137438953408, 17179869120, 17179869120, 566935683008, 1941325217728, 4398046511040, 8796093022144, 17592186044352, 35184372088831, 70368744177663] 24 (ceOf 1 v105) H_20 (
                    optW (rdRow false 1 v105 h_30) fun v106_1 =>
                    k_21 v106_1 h_30 H_20 ((24, (ceOf 1 v105)) :: S_20))) h_30 H_20 S_20 fun v106 h_31 H_21 S_21 =>
                gopD (gB v100 true) (fun k_22 =>
                  optW (lenSl v106) fun v107_1 =>
                  k_22 v107_1 h_31 H_21 S_21) h_31 H_21 S_21 fun v107 h_32 H_22 S_22 =>
                gopD (gB v100 true) (fun k_23 =>
                  optW (pBin Try.prog .eql 3 v104 v107) fun v108_1 =>
                  k_23 v108_1 h_32 H_22 S_22) h_32 H_22 S_22 fun v108 h_33 H_23 S_23 =>
                gopD (gB v95 false) (fun k_24 =>
                  optW (pPick v100 v108 (.bool false)) fun v109_1 =>
                  k_24 v109_1 h_33 H_23 S_23) h_33 H_23 S_23 fun v109 h_34 H_24 S_24 =>
                optW (pPick v95 (.bool true) v109) fun v110 =>
                gopD (gB v110 false) (fun k_25 =>
                  optW (pOff 0 (e_1 4)) fun v112_1 =>
                  k_25 v112_1 h_34 H_24 S_24) h_34 H_24 S_24 fun v112 h_35 H_25 S_25 =>
                gopD (gB v110 false) (fun k_26 =>
                  histC #[0, 0, 3, 7, 0, 16, 0, 0, 192, 448, 0, 1024, 4032, 8128, 16320, 32704, 65472, 131008, 262080, 524224, 524224, 2097088, 4194240, 524224, 8912832, 25690048, 67108800, 134217664, 268435392, 536870848, 1073741760, 2147483584, 4294967232, 8589934528, 17179869120, 17179869120, 68719476672, 137438953408, 17179869120, 17179869120, 566935683008, 1941325217728, 4398046511040, 8796093022144, 17592186044352, 35184372088831, 70368744177663] 31 (ceOf 1 v112) H_25 (
                    optW (rdRow false 1 v112 h_35) fun v113_1 =>
                    k_26 v113_1 h_35 H_25 ((31, (ceOf 1 v112)) :: S_25))) h_35 H_25 S_25 fun v113 h_36 H_26 S_26 =>
                gopD (gB v110 false) (fun k_27 =>
                  optW (pBin Try.prog .eql 3 v113 (.int .i64 4)) fun v114_1 =>
                  k_27 v114_1 h_36 H_26 S_26) h_36 H_26 S_26 fun v114 h_37 H_27 S_27 =>
                gopD (gB v110 false) (fun k_28 =>
                  k_28 v114 h_37 H_27 S_27) h_37 H_27 S_27 fun v115 h_38 H_28 S_28 =>
                gopD (gB v115 true) (fun k_29 =>
                  k_29 (e_1 2) h_38 H_28 S_28) h_38 H_28 S_28 fun v116 h_39 H_29 S_29 =>
                gopD (gB v115 true) (fun k_30 =>
                  k_30 (e_1 9) h_39 H_29 S_29) h_39 H_29 S_29 fun v117 h_40 H_30 S_30 =>
                gopD (gB v115 true) (fun k_31 =>
                  optW (pIdxS 1 v116 v117) fun v118_1 =>
                  k_31 v118_1 h_40 H_30 S_30) h_40 H_30 S_30 fun v118 h_41 H_31 S_31 =>
                gopD (gB v115 true) (fun k_32 =>
                  histC #[0, 0, 3, 7, 0, 16, 0, 0, 192, 448, 0, 1024, 4032, 8128, 16320, 32704, 65472, 131008, 262080, 524224, 524224, 2097088, 4194240, 524224, 8912832, 25690048, 67108800, 134217664, 268435392, 536870848, 1073741760, 2147483584, 4294967232, 8589934528, 17179869120, 17179869120, 68719476672, 137438953408, 17179869120, 17179869120, 566935683008, 1941325217728, 4398046511040, 8796093022144, 17592186044352, 35184372088831, 70368744177663] 37 (ceOf 1 v118) H_31 (
                    optW (rdRow false 1 v118 h_41) fun v119_1 =>
                    k_32 v119_1 h_41 H_31 ((37, (ceOf 1 v118)) :: S_31))) h_41 H_31 S_31 fun v119 h_42 H_32 S_32 =>
                gopD (gB v115 true) (fun k_33 =>
                  histC #[0, 0, 3, 7, 0, 16, 0, 0, 192, 448, 0, 1024, 4032, 8128, 16320, 32704, 65472, 131008, 262080, 524224, 524224, 2097088, 4194240, 524224, 8912832, 25690048, 67108800, 134217664, 268435392, 536870848, 1073741760, 2147483584, 4294967232, 8589934528, 17179869120, 17179869120, 68719476672, 137438953408, 17179869120, 17179869120, 566935683008, 1941325217728, 4398046511040, 8796093022144, 17592186044352, 35184372088831, 70368744177663] 38 (ceOf 2 (e_1 3)) H_32 (
                    optW (rdRow true 2 (e_1 3) h_42) fun v120_1 =>
                    k_33 v120_1 h_42 H_32 ((38, (ceOf 2 (e_1 3))) :: S_32))) h_42 H_32 S_32 fun v120 h_43 H_33 S_33 =>
                gopD (gB v115 true) (fun k_34 =>
                  optW (pOff 1 (e_1 4)) fun v121_1 =>
                  k_34 v121_1 h_43 H_33 S_33) h_43 H_33 S_33 fun v121 h_44 H_34 S_34 =>
                gopD (gB v115 true) (fun k_35 =>
                  histC #[0, 0, 3, 7, 0, 16, 0, 0, 192, 448, 0, 1024, 4032, 8128, 16320, 32704, 65472, 131008, 262080, 524224, 524224, 2097088, 4194240, 524224, 8912832, 25690048, 67108800, 134217664, 268435392, 536870848, 1073741760, 2147483584, 4294967232, 8589934528, 17179869120, 17179869120, 68719476672, 137438953408, 17179869120, 17179869120, 566935683008, 1941325217728, 4398046511040, 8796093022144, 17592186044352, 35184372088831, 70368744177663] 40 (ceOf 1 v121) H_34 (
                    optW (rdRow false 1 v121 h_44) fun v122_1 =>
                    k_35 v122_1 h_44 H_34 ((40, (ceOf 1 v121)) :: S_34))) h_44 H_34 S_34 fun v122 h_45 H_35 S_35 =>
                gopD (gB v115 true) (fun k_36 =>
                  X 44 [v120, v122] h_45 fun v123_1 h_47 =>
                  readC #[0, 0, 3, 7, 0, 16, 0, 0, 192, 448, 0, 1024, 4032, 8128, 16320, 32704, 65472, 131008, 262080, 524224, 524224, 2097088, 4194240, 524224, 8912832, 25690048, 67108800, 134217664, 268435392, 536870848, 1073741760, 2147483584, 4294967232, 8589934528, 17179869120, 17179869120, 68719476672, 137438953408, 17179869120, 17179869120, 566935683008, 1941325217728, 4398046511040, 8796093022144, 17592186044352, 35184372088831, 70368744177663] 41 h_45 h_47 S_35 (
                    k_36 v123_1 h_47 ((41, h_45, h_47) :: H_35) S_35)) h_45 H_35 S_35 fun v123 h_46 H_36 S_36 =>
                gopD (gB v115 true) (fun k_37 =>
                  optW (pBin Try.prog .eql 3 v119 v123) fun v124_1 =>
                  k_37 v124_1 h_46 H_36 S_36) h_46 H_36 S_36 fun v124 h_48 H_37 S_37 =>
                gopD (gB v110 false) (fun k_38 =>
                  optW (pPick v115 v124 (.bool false)) fun v125_1 =>
                  k_38 v125_1 h_48 H_37 S_37) h_48 H_37 S_37 fun v125 h_49 H_38 S_38 =>
                optW (pPick v110 (.bool true) v125) fun v126 =>
                optW (pIdxS 1 v85 v87) fun v127 =>
                histC #[0, 0, 3, 7, 0, 16, 0, 0, 192, 448, 0, 1024, 4032, 8128, 16320, 32704, 65472, 131008, 262080, 524224, 524224, 2097088, 4194240, 524224, 8912832, 25690048, 67108800, 134217664, 268435392, 536870848, 1073741760, 2147483584, 4294967232, 8589934528, 17179869120, 17179869120, 68719476672, 137438953408, 17179869120, 17179869120, 566935683008, 1941325217728, 4398046511040, 8796093022144, 17592186044352, 35184372088831, 70368744177663] 46 (obOf v127) H_38 (
                  optW (pStore 1 v127 v126 h_49) fun h_50 =>
                  readC #[0, 0, 3, 7, 0, 16, 0, 0, 192, 448, 0, 1024, 4032, 8128, 16320, 32704, 65472, 131008, 262080, 524224, 524224, 2097088, 4194240, 524224, 8912832, 25690048, 67108800, 134217664, 268435392, 536870848, 1073741760, 2147483584, 4294967232, 8589934528, 17179869120, 17179869120, 68719476672, 137438953408, 17179869120, 17179869120, 566935683008, 1941325217728, 4398046511040, 8796093022144, 17592186044352, 35184372088831, 70368744177663] 46 h_49 h_50 S_38 (
                    optW (pBin Try.prog .add 3 (e_1 9) (.int .i64 1)) fun v24 =>
                    I (pt (pt (pt (pt (pt (pt (pt (pt (pt (pt (pt (pt (pt (pt (pt (pt (pt (pt (pt (pt (pt (pt (pt (pt (pt (pt (pt (pt (pt (pt (pt (pt (pt (pt (pt (pt (pt (pt (pt (pt (pt (pt (pt (pt (pt (pt (pt (pt (pt (pt (pt (pt (pt (pt (pt e_1 56 (e_1 10)) 57 (e_1 7)) 58 v58) 79 (e_1 9)) 80 (e_1 7)) 81 v81) 82 (e_1 8)) 83 (e_1 9)) 84 v84) 85 v85) 86 (e_1 9)) 87 v87) 88 (e_1 8)) 89 (e_1 9)) 90 v90) 91 v91) 92 (e_1 9)) 93 v93) 94 v94) 95 v95) 96 v95) 97 v97) 98 v98) 99 v99) 100 v100) 101 v101) 102 v102) 103 v103) 104 v104) 105 v105) 106 v106) 107 v107) 108 v108) 109 v109) 110 v110) 111 v110) 112 v112) 113 v113) 114 v114) 115 v115) 116 v116) 117 v117) 118 v118) 119 v119) 120 v120) 121 v121) 122 v122) 123 v123) 124 v124) 125 v125) 126 v126) 127 v127) 23 (e_1 9)) 24 v24) 9 v24) h_50))
              ) (
                optW (pBin Try.prog .add 3 (e_1 9) (.int .i64 1)) fun v24_1 =>
                I (pt (pt (pt (pt (pt (pt (pt (pt (pt e_1 56 (e_1 10)) 57 (e_1 7)) 58 v58) 79 (e_1 9)) 80 (e_1 7)) 81 v81) 23 (e_1 9)) 24 v24_1) 9 v24_1) h_17)))
          (pt (pt (pt (pt (pt (pt (pt (pt (pt (pt (pt (pt (pt (pt (pt (pt (pt (pt (pt (pt (pt (pt (pt (pt (pt (pt (pt (pt (pt (pt (pt (pt (pt (pt (pt e 20 (e 9)) 21 (e 7)) 22 v22) 25 (e 8)) 26 (e 9)) 27 (e 7)) 28 v28) 29 (.slice (some ⟨i_1, 0, none⟩) c_1.1 c_1.2.1)) 30 v30) 31 (e 8)) 32 (e 9)) 33 v33) 34 v34) 35 (e 9)) 36 v36) 37 v37) 38 v38) 39 v38) 40 v40) 41 v41) 42 v42) 43 v43) 44 v43) 45 v45) 46 v46) 47 v47) 48 v48) 49 v48) 50 v50) 51 v51) 52 v52) 53 v53) 54 v54) 55 (e 9)) 10 (e 9)) h_16))
    ) (
      optW (pOff 0 (e 4)) fun v128 =>
      optW (rdRow false 1 v128 h_4) fun v129 =>
      optW (pBin Try.prog .eql 3 v129 (.int .i64 5)) fun v131 =>
      condW v131 (
        loopE (fun I_2 e_2 h_51 =>
          optW (pOff 2 (e_2 4)) fun v133 =>
          optW (rdRow false 1 v133 h_51) fun v134 =>
          optW (lenSl v134) fun v135 =>
          optW (pBin Try.prog .lss 3 (e_2 11) v135) fun v136 =>
          condW v136 (
            optW (rdRow true 2 (e_2 3) h_51) fun v140 =>
            optW (pOff 2 (e_2 4)) fun v141 =>
            optW (rdRow false 1 v141 h_51) fun v142 =>
            optW (pIdxS 3 v142 (e_2 11)) fun v144 =>
            optW (rdRow true 3 v144 h_51) fun v145 =>
            X 68 [v140, v145, (e_2 2)] h_51 fun v147 h_52 =>
            X 85 [(e_2 8), v147] h_52 fun v148 h_53 =>
            optW (pBin Try.prog .add 3 (e_2 11) (.int .i64 1)) fun v138 =>
            I_2 (pt (pt (pt (pt (pt (pt (pt (pt (pt (pt (pt (pt (pt (pt (pt (pt (pt (pt (pt e_2 132 (e_2 11)) 133 v133) 134 v134) 135 v135) 136 v136) 139 (e_2 8)) 140 v140) 141 v141) 142 v142) 143 (e_2 11)) 144 v144) 145 v145) 146 (e_2 2)) 147 v147) 148 v148) 8 v148) 137 (e_2 11)) 138 v138) 11 v138) h_53
          ) (
            K (e_2 8) h_51))
        (pt (pt (pt (pt (pt (pt (pt (pt e 20 (e 9)) 21 (e 7)) 22 v22) 128 v128) 129 v129) 131 v131) 130 v131) 11 (.int .i64 0)) h_4
      ) (
        optW (pBin Try.prog .eql 3 v129 (.int .i64 6)) fun v150 =>
        condW v150 (
          loopE (fun I_3 e_3 h_54 =>
            optW (pOff 2 (e_3 4)) fun v152 =>
            optW (rdRow false 1 v152 h_54) fun v153 =>
            optW (lenSl v153) fun v154 =>
            optW (pBin Try.prog .lss 3 (e_3 12) v154) fun v155 =>
            condW v155 (
              optW (rdRow true 2 (e_3 3) h_54) fun v159 =>
              optW (pOff 2 (e_3 4)) fun v160 =>
              optW (rdRow false 1 v160 h_54) fun v161 =>
              optW (pIdxS 3 v161 (e_3 12)) fun v163 =>
              optW (rdRow true 3 v163 h_54) fun v164 =>
              X 68 [v159, v164, (e_3 2)] h_54 fun v166 h_55 =>
              X 86 [(e_3 8), v166] h_55 fun v167 h_56 =>
              optW (pBin Try.prog .add 3 (e_3 12) (.int .i64 1)) fun v157 =>
              I_3 (pt (pt (pt (pt (pt (pt (pt (pt (pt (pt (pt (pt (pt (pt (pt (pt (pt (pt (pt e_3 151 (e_3 12)) 152 v152) 153 v153) 154 v154) 155 v155) 158 (e_3 8)) 159 v159) 160 v160) 161 v161) 162 (e_3 12)) 163 v163) 164 v164) 165 (e_3 2)) 166 v166) 167 v167) 8 v167) 156 (e_3 12)) 157 v157) 12 v157) h_56
            ) (
              K (e_3 8) h_54))
          (pt (pt (pt (pt (pt (pt (pt (pt (pt (pt e 20 (e 9)) 21 (e 7)) 22 v22) 128 v128) 129 v129) 131 v131) 130 v131) 150 v150) 149 v150) 12 (.int .i64 0)) h_4
        ) (
          optW (pBin Try.prog .eql 3 v129 (.int .i64 9)) fun v169 =>
          condW v169 (
            optW (rdRow true 2 (e 3) h_4) fun v171 =>
            optW (pOff 2 (e 4)) fun v172 =>
            optW (rdRow false 1 v172 h_4) fun v173 =>
            optW (pIdxS 3 v173 (.int .i64 0)) fun v174 =>
            optW (rdRow true 3 v174 h_4) fun v175 =>
            X 68 [v171, v175, (e 2)] h_4 fun v177 h_57 =>
            X 86 [(e 8), v177] h_57 fun v178 h_58 =>
            K v178 h_58
          ) (
            optW (pBin Try.prog .eql 3 v129 (.int .i64 7)) fun v180 =>
            condW v180 (
              condW v180 (
                optW (rdRow true 2 (e 3) h_4) fun v182 =>
                optW (pOff 2 (e 4)) fun v183 =>
                optW (rdRow false 1 v183 h_4) fun v184 =>
                optW (pIdxS 3 v184 (.int .i64 0)) fun v185 =>
                optW (rdRow true 3 v185 h_4) fun v186 =>
                X 68 [v182, v186, (e 2)] h_4 fun v188 h_59 =>
                X 86 [(e 8), v188] h_59 fun v191 h_60 =>
                loopE (fun I_4 e_4 h_61 =>
                  optW (pBin Try.prog .lss 3 (e_4 14) (e_4 7)) fun v194 =>
                  condW v194 (
                    X 85 [(e_4 8), (e_4 13)] h_61 fun v200 h_62 =>
                    X 86 [(e_4 8), v200] h_62 fun v201 h_63 =>
                    optW (pBin Try.prog .add 3 (e_4 14) (.int .i64 1)) fun v196 =>
                    I_4 (pt (pt (pt (pt (pt (pt (pt (pt (pt (pt (pt (pt e_4 192 (e_4 14)) 193 (e_4 7)) 194 v194) 197 (e_4 8)) 198 (e_4 8)) 199 (e_4 13)) 200 v200) 201 v201) 8 v201) 195 (e_4 14)) 196 v196) 14 v196) h_63
                  ) (
                    K (e_4 8) h_61))
                (pt (pt (pt (pt (pt (pt (pt (pt (pt (pt (pt (pt (pt (pt (pt (pt (pt (pt (pt (pt (pt (pt (pt (pt (pt (pt e 20 (e 9)) 21 (e 7)) 22 v22) 128 v128) 129 v129) 131 v131) 130 v131) 150 v150) 149 v150) 169 v169) 168 v169) 180 v180) 179 v180) 182 v182) 183 v183) 184 v184) 185 v185) 186 v186) 187 (e 2)) 188 v188) 13 v188) 189 (e 8)) 190 v188) 191 v191) 8 v191) 14 (.int .i64 0)) h_60
              ) (
                K (e 8) h_4)
            ) (
              optW (pBin Try.prog .eql 3 v129 (.int .i64 8)) fun v181 =>
              condW v181 (
                optW (rdRow true 2 (e 3) h_4) fun v182_1 =>
                optW (pOff 2 (e 4)) fun v183_1 =>
                optW (rdRow false 1 v183_1 h_4) fun v184_1 =>
                optW (pIdxS 3 v184_1 (.int .i64 0)) fun v185_1 =>
                optW (rdRow true 3 v185_1 h_4) fun v186_1 =>
                X 68 [v182_1, v186_1, (e 2)] h_4 fun v188_1 h_64 =>
                X 86 [(e 8), v188_1] h_64 fun v191_1 h_65 =>
                loopE (fun I_5 e_5 h_66 =>
                  optW (pBin Try.prog .lss 3 (e_5 14) (e_5 7)) fun v194_1 =>
                  condW v194_1 (
                    X 85 [(e_5 8), (e_5 13)] h_66 fun v200_1 h_67 =>
                    X 86 [(e_5 8), v200_1] h_67 fun v201_1 h_68 =>
                    optW (pBin Try.prog .add 3 (e_5 14) (.int .i64 1)) fun v196_1 =>
                    I_5 (pt (pt (pt (pt (pt (pt (pt (pt (pt (pt (pt (pt e_5 192 (e_5 14)) 193 (e_5 7)) 194 v194_1) 197 (e_5 8)) 198 (e_5 8)) 199 (e_5 13)) 200 v200_1) 201 v201_1) 8 v201_1) 195 (e_5 14)) 196 v196_1) 14 v196_1) h_68
                  ) (
                    K (e_5 8) h_66))
                (pt (pt (pt (pt (pt (pt (pt (pt (pt (pt (pt (pt (pt (pt (pt (pt (pt (pt (pt (pt (pt (pt (pt (pt (pt (pt (pt (pt e 20 (e 9)) 21 (e 7)) 22 v22) 128 v128) 129 v129) 131 v131) 130 v131) 150 v150) 149 v150) 169 v169) 168 v169) 180 v180) 179 v180) 181 v181) 179 v181) 182 v182_1) 183 v183_1) 184 v184_1) 185 v185_1) 186 v186_1) 187 (e 2)) 188 v188_1) 13 v188_1) 189 (e 8)) 190 v188_1) 191 v191_1) 8 v191_1) 14 (.int .i64 0)) h_65
              ) (
                K (e 8) h_4)))))))
  (pt (pt (pt (pt (pt (pt (pt (pt (pt (pt (pt (envOf [a0, a1, a2]) 3 v3) 4 v4) 6 (.slice none 0 0)) 15 a2) 16 v16) 7 v16) 17 v16) 18 v18) 19 (.slice (some ⟨i, 0, none⟩) c.1 c.2.1)) 8 (.slice (some ⟨i, 0, none⟩) c.1 c.2.1)) 9 (.int .i64 0)) h_3
theorem e68 (X : CallT) (a0 a1 a2 : Value) (h : AH) (K : Value → AH → Prop) : cwp2 Try.prog X (Try.f68.body.getD .skip) (endW Try.prog Try.f68 K) (envOf [a0, a1, a2]) h = s68 X a0 a1 a2 h K := by kernel_rfl
theorem c68 {a0 a1 a2 : Value} {h : AH} {K : Value → AH → Prop} (hs : s68 (callW Try.prog) a0 a1 a2 h K) : callW Try.prog 68 [a0, a1, a2] h K := callW_of Try.func68 (by kernel_rfl) (Eq.mpr (e68 _ a0 a1 a2 _ _) hs)

/-- canopy/schema.parts (I at e: live [2, 7, 11, 12, 13], writes [7, 9, 13, 14, 15, 16, 17, 18, 19, 20, 21, 22, 23]) -/
def s69 (X : CallT) (a0 a1 a2 : Value) (h : AH) (K : Value → AH → Prop) : Prop :=
  aBox a0 none h fun v3 h_1 =>
  optW (pOff 2 v3) fun v10 =>
  optW (rdRow false 1 v10 h_1) fun v11 =>
  optW (lenSl v11) fun v12 =>
  loopE (fun I e h_2 =>
    optW (pBin Try.prog .lss 3 (e 13) (e 12)) fun v14 =>
    condW v14 (
      optW (pIdxS 3 (e 11) (e 13)) fun v15 =>
      optW (rdRow true 3 v15 h_2) fun v16 =>
      newR none [(.int .i64 0), (.string (bs [])), (.slice none 0 0)] h_2 fun v9 h_3 =>
      optW (pStore 3 v9 v16 h_3) fun h_4 =>
      optW (rdRow true 3 v9 h_4) fun v18 =>
      X 87 [v18, (e 2)] h_4 fun v20 h_5 =>
      optW (bldSl 1 [(.string (bs []))] 1 [(0, v20)]) fun c =>
      newW none (.row c true) h_5 fun i h_6 =>
      appSl 1 (e 7) (.slice (some ⟨i, 0, none⟩) 1 1) h_6 fun v22 h_7 =>
      optW (pBin Try.prog .add 3 (e 13) (.int .i64 1)) fun v23 =>
      I (pt (pt (pt (pt (pt (pt (pt (pt (pt (pt (pt (pt (pt e 14 v14) 15 v15) 16 v16) 9 v9) 17 (e 7)) 18 v18) 19 (e 2)) 20 v20) 21 (.slice (some ⟨i, 0, none⟩) 1 1)) 22 v22) 7 v22) 23 v23) 13 v23) h_7
    ) (
      X 88 [(e 7), (e 1)] h_2 fun v26 h_8 =>
      K v26 h_8))
  (pt (pt (pt (pt (pt (pt (pt (envOf [a0, a1, a2]) 3 v3) 6 (.string (bs []))) 7 (.slice none 0 0)) 10 v10) 11 v11) 12 v12) 13 (.int .i64 0)) h_1
theorem e69 (X : CallT) (a0 a1 a2 : Value) (h : AH) (K : Value → AH → Prop) : cwp2 Try.prog X (Try.f69.body.getD .skip) (endW Try.prog Try.f69 K) (envOf [a0, a1, a2]) h = s69 X a0 a1 a2 h K := by kernel_rfl
theorem c69 {a0 a1 a2 : Value} {h : AH} {K : Value → AH → Prop} (hs : s69 (callW Try.prog) a0 a1 a2 h K) : callW Try.prog 69 [a0, a1, a2] h K := callW_of Try.func69 (by kernel_rfl) (Eq.mpr (e69 _ a0 a1 a2 _ _) hs)

/-- strings.indexFunc (I at e: live [1, 2, 10], writes [6, 7, 8, 11, 12, 13, 14, 15, 16, 17, 18, 19, 20]) -/
def s70 (X : CallT) (a0 a1 a2 : Value) (h : AH) (K : Value → AH → Prop) : Prop :=
  aRange Try.prog 9 a0 none h fun v10 h_1 =>
  loopE (fun I e h_2 =>
    aNext (e 10) true h_2 fun v11 h_3 =>
    optW (pExtract v11 0) fun v12 =>
    condW v12 (
      optW (pExtract v11 1) fun v13 =>
      optW (pExtract v11 2) fun v14 =>
      callV X (e 1) [v14] h_3 fun v17 h_4 =>
      optW (pBin Try.prog .eql 4 v17 (e 2)) fun v19 =>
      condW v19 (
        K v13 h_4
      ) (
        I (pt (pt (pt (pt (pt (pt (pt (pt (pt (pt (pt e 11 v11) 12 v12) 13 v13) 14 v14) 7 v13) 8 v14) 15 (e 1)) 16 v14) 17 v17) 18 (e 2)) 19 v19) h_4)
    ) (
      K (.int .i64 (-1)) h_3))
  (pt (pt (pt (envOf [a0, a1, a2]) 6 (.int .i64 0)) 9 a0) 10 v10) h_1
theorem e70 (X : CallT) (a0 a1 a2 : Value) (h : AH) (K : Value → AH → Prop) : cwp2 Try.prog X (Try.f70.body.getD .skip) (endW Try.prog Try.f70 K) (envOf [a0, a1, a2]) h = s70 X a0 a1 a2 h K := by kernel_rfl
theorem c70 {a0 a1 a2 : Value} {h : AH} {K : Value → AH → Prop} (hs : s70 (callW Try.prog) a0 a1 a2 h K) : callW Try.prog 70 [a0, a1, a2] h K := callW_of Try.func70 (by kernel_rfl) (Eq.mpr (e70 _ a0 a1 a2 _ _) hs)

/-- slices.Contains[[]string,string] () -/
def s71 (X : CallT) (a0 a1 : Value) (h : AH) (K : Value → AH → Prop) : Prop :=
  X 89 [a0, a1] h fun v7 h_1 =>
  optW (pBin Try.prog .geq 3 v7 (.int .i64 0)) fun v8 =>
  K v8 h_1
theorem e71 (X : CallT) (a0 a1 : Value) (h : AH) (K : Value → AH → Prop) : cwp2 Try.prog X (Try.f71.body.getD .skip) (endW Try.prog Try.f71 K) (envOf [a0, a1]) h = s71 X a0 a1 h K := by kernel_rfl
theorem c71 {a0 a1 : Value} {h : AH} {K : Value → AH → Prop} (hs : s71 (callW Try.prog) a0 a1 h K) : callW Try.prog 71 [a0, a1] h K := callW_of Try.func71 (by kernel_rfl) (Eq.mpr (e71 _ a0 a1 _ _) hs)

/-- (*canopy/schema.parser).seq (I at e: live [0, 3], writes [3, 7, 8, 9, 10, 11, 12, 13, 14]) -/
def s72 (X : CallT) (a0 : Value) (h : AH) (K : Value → AH → Prop) : Prop :=
  newR none [(.int .i64 0), (.string (bs [])), (.slice none 0 0)] h fun v2 h_1 =>
  X 90 [a0] h_1 fun v5 h_2 =>
  optW (bldSl 3 [(.int .i64 0), (.string (bs [])), (.slice none 0 0)] 1 [(0, v5)]) fun c =>
  newW none (.row c true) h_2 fun i h_3 =>
  loopE (fun I e h_4 =>
    optW (bld [(.string (bs [])), (.int .u8 0)] [(0, 1), (1, 1)] [(1, (.int .u8 44))]) fun v8 =>
    X 35 [(e 0), v8] h_4 fun v9 h_5 =>
    condW v9 (
      X 90 [(e 0)] h_5 fun v12 h_6 =>
      optW (bldSl 3 [(.int .i64 0), (.string (bs [])), (.slice none 0 0)] 1 [(0, v12)]) fun c_1 =>
      newW none (.row c_1 true) h_6 fun i_1 h_7 =>
      appSl 3 (e 3) (.slice (some ⟨i_1, 0, none⟩) 1 1) h_7 fun v14 h_8 =>
      I (pt (pt (pt (pt (pt (pt (pt (pt (pt e 7 (e 0)) 8 v8) 9 v9) 10 (e 3)) 11 (e 0)) 12 v12) 13 (.slice (some ⟨i_1, 0, none⟩) 1 1)) 14 v14) 3 v14) h_8
    ) (
      X 73 [(.int .i64 5), (e 3)] h_5 fun v16 h_9 =>
      optW (pStore 3 (e 2) v16 h_9) fun h_10 =>
      optW (resList Try.prog (pt (pt (pt (pt (pt e 7 (e 0)) 8 v8) 9 v9) 15 (e 3)) 16 v16) h_10 Try.f72.results.toList) fun vs => K (resOf vs) h_10))
  (pt (pt (pt (pt (pt (envOf [a0]) 2 v2) 4 a0) 5 v5) 6 (.slice (some ⟨i, 0, none⟩) 1 1)) 3 (.slice (some ⟨i, 0, none⟩) 1 1)) h_3
theorem e72 (X : CallT) (a0 : Value) (h : AH) (K : Value → AH → Prop) : cwp2 Try.prog X (Try.f72.body.getD .skip) (endW Try.prog Try.f72 K) (envOf [a0]) h = s72 X a0 h K := by kernel_rfl
theorem c72 {a0 : Value} {h : AH} {K : Value → AH → Prop} (hs : s72 (callW Try.prog) a0 h K) : callW Try.prog 72 [a0] h K := callW_of Try.func72 (by kernel_rfl) (Eq.mpr (e72 _ a0 _ _) hs)

/-- canopy/schema.several () -/
def s73 (X : CallT) (a0 a1 : Value) (h : AH) (K : Value → AH → Prop) : Prop :=
  newR none [(.int .i64 0), (.string (bs [])), (.slice none 0 0)] h fun v4 h_1 =>
  optW (lenSl a1) fun v6 =>
  optW (pBin Try.prog .eql 3 v6 (.int .i64 1)) fun v7 =>
  condW v7 (
    optW (pIdxS 3 a1 (.int .i64 0)) fun v9 =>
    optW (rdRow true 3 v9 h_1) fun v10 =>
    optW (pStore 3 v4 v10 h_1) fun h_2 =>
    optW (resList Try.prog (pt (pt (pt (pt (pt (pt (pt (envOf [a0, a1]) 4 v4) 5 a1) 6 v6) 7 v7) 8 a1) 9 v9) 10 v10) h_2 Try.f73.results.toList) fun vs => K (resOf vs) h_2
  ) (
    X 91 [a1] h_1 fun v13 h_3 =>
    optW (bld [(.int .i64 0), (.string (bs [])), (.slice none 0 0)] [(0, 1), (1, 1), (2, 1)] [(0, a0), (2, v13)]) fun v14 =>
    optW (pStore 3 v4 v14 h_3) fun h_4 =>
    optW (resList Try.prog (pt (pt (pt (pt (pt (pt (pt (pt (envOf [a0, a1]) 4 v4) 5 a1) 6 v6) 7 v7) 11 a0) 12 a1) 13 v13) 14 v14) h_4 Try.f73.results.toList) fun vs => K (resOf vs) h_4)
theorem e73 (X : CallT) (a0 a1 : Value) (h : AH) (K : Value → AH → Prop) : cwp2 Try.prog X (Try.f73.body.getD .skip) (endW Try.prog Try.f73 K) (envOf [a0, a1]) h = s73 X a0 a1 h K := by kernel_rfl
theorem c73 {a0 a1 : Value} {h : AH} {K : Value → AH → Prop} (hs : s73 (callW Try.prog) a0 a1 h K) : callW Try.prog 73 [a0, a1] h K := callW_of Try.func73 (by kernel_rfl) (Eq.mpr (e73 _ a0 a1 _ _) hs)

/-- slices.IndexFunc[[]canopy/api.Element,canopy/api.Element] (I at e: live [0, 1, 7, 8], writes [4, 5, 8, 9, 10, 11, 12, 13, 14, 15, 16, 17, 18]) -/
def s74 (X : CallT) (a0 a1 : Value) (h : AH) (K : Value → AH → Prop) : Prop :=
  optW (lenSl a0) fun v7 =>
  loopE (fun I e h_1 =>
    optW (pBin Try.prog .lss 3 (e 8) (e 7)) fun v9 =>
    condW v9 (
      optW (pIdxS 4 (e 0) (e 8)) fun v14 =>
      optW (rdRow true 4 v14 h_1) fun v15 =>
      callV X (e 1) [v15] h_1 fun v16 h_2 =>
      condW v16 (
        K (e 8) h_2
      ) (
        optW (pBin Try.prog .add 3 (e 8) (.int .i64 1)) fun v18 =>
        I (pt (pt (pt (pt (pt (pt (pt (pt (pt (pt (pt e 9 v9) 10 (e 8)) 5 (e 8)) 11 (e 1)) 12 (e 0)) 13 (e 8)) 14 v14) 15 v15) 16 v16) 18 v18) 8 v18) h_2)
    ) (
      K (.int .i64 (-1)) h_1))
  (pt (pt (pt (pt (envOf [a0, a1]) 4 (.int .i64 0)) 6 a0) 7 v7) 8 (.int .i64 0)) h
theorem e74 (X : CallT) (a0 a1 : Value) (h : AH) (K : Value → AH → Prop) : cwp2 Try.prog X (Try.f74.body.getD .skip) (endW Try.prog Try.f74 K) (envOf [a0, a1]) h = s74 X a0 a1 h K := by kernel_rfl
theorem c74 {a0 a1 : Value} {h : AH} {K : Value → AH → Prop} (hs : s74 (callW Try.prog) a0 a1 h K) : callW Try.prog 74 [a0, a1] h K := callW_of Try.func74 (by kernel_rfl) (Eq.mpr (e74 _ a0 a1 _ _) hs)

end Go.Proofs.Ytlenlhlipmkeeaa.W
end

section
/- Go functions, printed by a program as predicates on what may come behind; each is the function. Conditions: none. -/
namespace Go.Proofs.Ytlenlhlipmkeeaa.W
open Go Go.AM
set_option linter.unusedVariables false
set_option maxRecDepth 100000


/-- (*canopy/schema.reader).model$1 () -/
def s77 (X : CallT) (a0 a1 : Value) (h : AH) (K : Value → AH → Prop) : Prop :=
  aBox a0 none h fun v2 h_1 =>
  K (.func (.func 78) #[] #[a1, v2]) h_1
theorem e77 (X : CallT) (a0 a1 : Value) (h : AH) (K : Value → AH → Prop) : cwp2 Try.prog X (Try.f77.body.getD .skip) (endW Try.prog Try.f77 K) (envOf [a0, a1]) h = s77 X a0 a1 h K := by kernel_rfl
theorem c77 {a0 a1 : Value} {h : AH} {K : Value → AH → Prop} (hs : s77 (callW Try.prog) a0 a1 h K) : callW Try.prog 77 [a0, a1] h K := callW_of Try.func77 (by kernel_rfl) (Eq.mpr (e77 _ a0 a1 _ _) hs)

/-- (*canopy/schema.reader).model$1$1 () -/
def s78 (X : CallT) (a0 a1 a2 : Value) (h : AH) (K : Value → AH → Prop) : Prop :=
  optW (rdRow false 1 a1 h) fun v5 =>
  optW (rdRow false 1 a2 h) fun v6 =>
  X 67 [v5, v6, a0] h fun v8 h_1 =>
  K v8 h_1
theorem e78 (X : CallT) (a0 a1 a2 : Value) (h : AH) (K : Value → AH → Prop) : cwp2 Try.prog X (Try.f78.body.getD .skip) (endW Try.prog Try.f78 K) (envOf [a0, a1, a2]) h = s78 X a0 a1 a2 h K := by kernel_rfl
theorem c78 {a0 a1 a2 : Value} {h : AH} {K : Value → AH → Prop} (hs : s78 (callW Try.prog) a0 a1 a2 h K) : callW Try.prog 78 [a0, a1, a2] h K := callW_of Try.func78 (by kernel_rfl) (Eq.mpr (e78 _ a0 a1 a2 _ _) hs)

/-- (*canopy/schema.reader).often (I at e: live [2, 7, 12, 13], writes [8, 13, 14, 15, 16, 17, 18, 19, 20, 21, 22, 23, 24, 25]) -/
def s79 (X : CallT) (a0 a1 a2 : Value) (h : AH) (K : Value → AH → Prop) : Prop :=
  X 84 [a1] h fun v10 h_1 =>
  optW (lenSl v10) fun v12 =>
  loopE (fun I e h_2 =>
    optW (pBin Try.prog .lss 3 (e 13) (e 12)) fun v14 =>
    condW v14 (
      optW (pIdxS 1 (e 7) (e 13)) fun v18 =>
      optW (rdRow false 1 v18 h_2) fun v19 =>
      condW v19 (
        callV X (e 2) [(e 13)] h_2 fun v23 h_3 =>
        X 83 [(e 7), v23] h_3 fun v24 h_4 =>
        optW (pBin Try.prog .add 3 (e 13) (.int .i64 1)) fun v25 =>
        I (pt (pt (pt (pt (pt (pt (pt (pt (pt (pt (pt (pt (pt (pt e 14 v14) 15 (e 13)) 8 (e 13)) 16 (e 7)) 17 (e 13)) 18 v18) 19 v19) 20 (e 7)) 21 (e 2)) 22 (e 13)) 23 v23) 24 v24) 25 v25) 13 v25) h_4
      ) (
        optW (pBin Try.prog .add 3 (e 13) (.int .i64 1)) fun v25_1 =>
        I (pt (pt (pt (pt (pt (pt (pt (pt (pt e 14 v14) 15 (e 13)) 8 (e 13)) 16 (e 7)) 17 (e 13)) 18 v18) 19 v19) 25 v25_1) 13 v25_1) h_2)
    ) (
      K (e 7) h_2))
  (pt (pt (pt (pt (pt (pt (pt (envOf [a0, a1, a2]) 6 (.slice none 0 0)) 9 a1) 10 v10) 7 v10) 11 v10) 12 v12) 13 (.int .i64 0)) h_1
theorem e79 (X : CallT) (a0 a1 a2 : Value) (h : AH) (K : Value → AH → Prop) : cwp2 Try.prog X (Try.f79.body.getD .skip) (endW Try.prog Try.f79 K) (envOf [a0, a1, a2]) h = s79 X a0 a1 a2 h K := by kernel_rfl
theorem c79 {a0 a1 a2 : Value} {h : AH} {K : Value → AH → Prop} (hs : s79 (callW Try.prog) a0 a1 a2 h K) : callW Try.prog 79 [a0, a1, a2] h K := callW_of Try.func79 (by kernel_rfl) (Eq.mpr (e79 _ a0 a1 a2 _ _) hs)

/-- (*canopy/schema.reader).any (I at e: live [0, 1, 5, 15, 16], writes [6, 16, 17, 18, 19, 20, 21, 22, 23, 24, 25]) -/
def s80 (X : CallT) (a0 a1 : Value) (h : AH) (K : Value → AH → Prop) : Prop :=
  X 81 [a0, a1] h fun v9 h_1 =>
  optW (pNilCheck a0) fun v11 =>
  optW (pOff 0 v11) fun v12 =>
  optW (pOff 1 v12) fun v13 =>
  optW (rdRow false 1 v13 h_1) fun v14 =>
  optW (lenSl v14) fun v15 =>
  loopE (fun I e h_2 =>
    optW (pBin Try.prog .lss 3 (e 16) (e 15)) fun v17 =>
    condW v17 (
      X 48 [(e 0), (e 16), (e 1)] h_2 fun v23 h_3 =>
      X 83 [(e 5), v23] h_3 fun v24 h_4 =>
      optW (pBin Try.prog .add 3 (e 16) (.int .i64 1)) fun v25 =>
      I (pt (pt (pt (pt (pt (pt (pt (pt (pt (pt (pt e 17 v17) 18 (e 16)) 6 (e 16)) 19 (e 5)) 20 (e 0)) 21 (e 16)) 22 (e 1)) 23 v23) 24 v24) 25 v25) 16 v25) h_4
    ) (
      K (e 5) h_2))
  (pt (pt (pt (pt (pt (pt (pt (pt (pt (pt (pt (pt (envOf [a0, a1]) 4 (.slice none 0 0)) 7 a0) 8 a1) 9 v9) 5 v9) 10 a0) 11 v11) 12 v12) 13 v13) 14 v14) 15 v15) 16 (.int .i64 0)) h_1
theorem e80 (X : CallT) (a0 a1 : Value) (h : AH) (K : Value → AH → Prop) : cwp2 Try.prog X (Try.f80.body.getD .skip) (endW Try.prog Try.f80 K) (envOf [a0, a1]) h = s80 X a0 a1 h K := by kernel_rfl
theorem c80 {a0 a1 : Value} {h : AH} {K : Value → AH → Prop} (hs : s80 (callW Try.prog) a0 a1 h K) : callW Try.prog 80 [a0, a1] h K := callW_of Try.func80 (by kernel_rfl) (Eq.mpr (e80 _ a0 a1 _ _) hs)

/-- (*canopy/schema.reader).words () -/
def s81 (X : CallT) (a0 a1 : Value) (h : AH) (K : Value → AH → Prop) : Prop :=
  X 66 [a0] h fun v7 h_1 =>
  optW (pNilCheck a0) fun v10 =>
  optW (pOff 2 v10) fun v11 =>
  optW (rdRow false 1 v11 h_1) fun v12 =>
  optW (lenSl v12) fun v13 =>
  optW (pBin Try.prog .lss 3 a1 v13) fun v14 =>
  gopD (gB v14 true) (fun k =>
    k a0 h_1 [] ((4, (ceOf 1 v11)) :: [])) h_1 [] ((4, (ceOf 1 v11)) :: []) fun v16 h_2 H S =>
  gopD (gB v14 true) (fun k_1 =>
    optW (pNilCheck v16) fun v17_1 =>
    k_1 v17_1 h_2 H S) h_2 H S fun v17 h_3 H_1 S_1 =>
  gopD (gB v14 true) (fun k_2 =>
    optW (pOff 2 v17) fun v18_1 =>
    k_2 v18_1 h_3 H_1 S_1) h_3 H_1 S_1 fun v18 h_4 H_2 S_2 =>
  gopD (gB v14 true) (fun k_3 =>
    histC #[0, 0, 2, 6, 14, 30, 63, 127, 255, 511, 1023, 2047, 255, 8191, 16383, 255, 33023, 98559, 229631, 491775, 1016063, 2064639, 4194303, 8388607] 11 (ceOf 1 v18) H_2 (
      optW (rdRow false 1 v18 h_4) fun v19_1 =>
      k_3 v19_1 h_4 H_2 ((11, (ceOf 1 v18)) :: S_2))) h_4 H_2 S_2 fun v19 h_5 H_3 S_3 =>
  gopD (gB v14 true) (fun k_4 =>
    k_4 a1 h_5 H_3 S_3) h_5 H_3 S_3 fun v20 h_6 H_4 S_4 =>
  gopD (gB v14 true) (fun k_5 =>
    optW (pIdxS 1 v19 v20) fun v21_1 =>
    k_5 v21_1 h_6 H_4 S_4) h_6 H_4 S_4 fun v21 h_7 H_5 S_5 =>
  gopD (gB v14 true) (fun k_6 =>
    histC #[0, 0, 2, 6, 14, 30, 63, 127, 255, 511, 1023, 2047, 255, 8191, 16383, 255, 33023, 98559, 229631, 491775, 1016063, 2064639, 4194303, 8388607] 14 (ceOf 1 v21) H_5 (
      optW (rdRow false 1 v21 h_7) fun v22_1 =>
      k_6 v22_1 h_7 H_5 ((14, (ceOf 1 v21)) :: S_5))) h_7 H_5 S_5 fun v22 h_8 H_6 S_6 =>
  gopD (gB v14 true) (fun k_7 =>
    k_7 a0 h_8 H_6 S_6) h_8 H_6 S_6 fun v23 h_9 H_7 S_7 =>
  gopD (gB v14 true) (fun k_8 =>
    optW (pNilCheck v23) fun v24_1 =>
    k_8 v24_1 h_9 H_7 S_7) h_9 H_7 S_7 fun v24 h_10 H_8 S_8 =>
  gopD (gB v14 true) (fun k_9 =>
    optW (pOff 0 v24) fun v25_1 =>
    k_9 v25_1 h_10 H_8 S_8) h_10 H_8 S_8 fun v25 h_11 H_9 S_9 =>
  gopD (gB v14 true) (fun k_10 =>
    optW (pOff 1 v25) fun v26_1 =>
    k_10 v26_1 h_11 H_9 S_9) h_11 H_9 S_9 fun v26 h_12 H_10 S_10 =>
  gopD (gB v14 true) (fun k_11 =>
    histC #[0, 0, 2, 6, 14, 30, 63, 127, 255, 511, 1023, 2047, 255, 8191, 16383, 255, 33023, 98559, 229631, 491775, 1016063, 2064639, 4194303, 8388607] 19 (ceOf 1 v26) H_10 (
      optW (rdRow false 1 v26 h_12) fun v27_1 =>
      k_11 v27_1 h_12 H_10 ((19, (ceOf 1 v26)) :: S_10))) h_12 H_10 S_10 fun v27 h_13 H_11 S_11 =>
  gopD (gB v14 true) (fun k_12 =>
    optW (lenSl v27) fun v28_1 =>
    k_12 v28_1 h_13 H_11 S_11) h_13 H_11 S_11 fun v28 h_14 H_12 S_12 =>
  gopD (gB v14 true) (fun k_13 =>
    optW (pBin Try.prog .mul 3 (.int .i64 2) v28) fun v29_1 =>
    k_13 v29_1 h_14 H_12 S_12) h_14 H_12 S_12 fun v29 h_15 H_13 S_13 =>
  gopD (gB v14 true) (fun k_14 =>
    optW (pBin Try.prog .eql 3 v22 v29) fun v30_1 =>
    k_14 v30_1 h_15 H_13 S_13) h_15 H_13 S_13 fun v30 h_16 H_14 S_14 =>
  optW (pPick v14 v30 (.bool false)) fun v31 =>
  condW v31 (
    optW (pBin Try.prog .add 3 a1 (.int .i64 1)) fun v34 =>
    optW (pIdxS 1 v7 v34) fun v35 =>
    optW (pStore 1 v35 (.bool true) h_16) fun h_17 =>
    K v7 h_17
  ) (
    K v7 h_16)
theorem e81 (X : CallT) (a0 a1 : Value) (h : AH) (K : Value → AH → Prop) : cwp2 Try.prog X (Try.f81.body.getD .skip) (endW Try.prog Try.f81 K) (envOf [a0, a1]) h = s81 X a0 a1 h K := by kernel_rfl
theorem c81 {a0 a1 : Value} {h : AH} {K : Value → AH → Prop} (hs : s81 (callW Try.prog) a0 a1 h K) : callW Try.prog 81 [a0, a1] h K := callW_of Try.func81 (by kernel_rfl) (Eq.mpr (e81 _ a0 a1 _ _) hs)

/-- (*canopy/schema.reader).on (I at e: live [2, 7, 12, 13, 14], writes [8, 9, 14, 15, 16, 17, 18, 19, 20, 21, 22, 23, 24, 25]) -/
def s82 (X : CallT) (a0 a1 a2 : Value) (h : AH) (K : Value → AH → Prop) : Prop :=
  X 66 [a0] h fun v11 h_1 =>
  optW (lenSl a1) fun v13 =>
  loopE (fun I e h_2 =>
    optW (pBin Try.prog .lss 3 (e 14) (e 13)) fun v15 =>
    condW v15 (
      optW (pIdxS 1 (e 12) (e 14)) fun v17 =>
      optW (rdRow false 1 v17 h_2) fun v18 =>
      condW v18 (
        callV X (e 2) [(e 14)] h_2 fun v23 h_3 =>
        X 83 [(e 7), v23] h_3 fun v24 h_4 =>
        optW (pBin Try.prog .add 3 (e 14) (.int .i64 1)) fun v25 =>
        I (pt (pt (pt (pt (pt (pt (pt (pt (pt (pt (pt (pt (pt (pt e 15 v15) 16 (e 14)) 17 v17) 18 v18) 8 (e 14)) 9 v18) 19 v18) 20 (e 7)) 21 (e 2)) 22 (e 14)) 23 v23) 24 v24) 25 v25) 14 v25) h_4
      ) (
        optW (pBin Try.prog .add 3 (e 14) (.int .i64 1)) fun v25_1 =>
        I (pt (pt (pt (pt (pt (pt (pt (pt (pt e 15 v15) 16 (e 14)) 17 v17) 18 v18) 8 (e 14)) 9 v18) 19 v18) 25 v25_1) 14 v25_1) h_2)
    ) (
      K (e 7) h_2))
  (pt (pt (pt (pt (pt (pt (pt (envOf [a0, a1, a2]) 6 (.slice none 0 0)) 10 a0) 11 v11) 7 v11) 12 a1) 13 v13) 14 (.int .i64 0)) h_1
theorem e82 (X : CallT) (a0 a1 a2 : Value) (h : AH) (K : Value → AH → Prop) : cwp2 Try.prog X (Try.f82.body.getD .skip) (endW Try.prog Try.f82 K) (envOf [a0, a1, a2]) h = s82 X a0 a1 a2 h K := by kernel_rfl
theorem c82 {a0 a1 a2 : Value} {h : AH} {K : Value → AH → Prop} (hs : s82 (callW Try.prog) a0 a1 a2 h K) : callW Try.prog 82 [a0, a1, a2] h K := callW_of Try.func82 (by kernel_rfl) (Eq.mpr (e82 _ a0 a1 a2 _ _) hs)

/-- canopy/schema.join (I at e: live [0, 6, 7, 8], writes [4, 5, 8, 9, 10, 11, 12, 13, 14, 15, 16, 17, 18, 19, 20, 21, 22, 23]) -/
def s83 (X : CallT) (a0 a1 : Value) (h : AH) (K : Value → AH → Prop) : Prop :=
  optW (lenSl a1) fun v7 =>
  loopE (fun I e h_1 =>
    optW (pBin Try.prog .lss 3 (e 8) (e 7)) fun v9 =>
    condW v9 (
      optW (pIdxS 1 (e 6) (e 8)) fun v11 =>
      optW (rdRow false 1 v11 h_1) fun v12 =>
      optW (pIdxS 1 (e 0) (e 8)) fun v17 =>
      optW (rdRow false 1 v17 h_1) fun v18 =>
      gopW (gB v18 false) (fun k =>
        k v12 h_1) h_1 fun v20 h_2 =>
      optW (pPick v18 (.bool true) v20) fun v21 =>
      optW (pIdxS 1 (e 0) (e 8)) fun v22 =>
      optW (pStore 1 v22 v21 h_2) fun h_3 =>
      optW (pBin Try.prog .add 3 (e 8) (.int .i64 1)) fun v23 =>
      I (pt (pt (pt (pt (pt (pt (pt (pt (pt (pt (pt (pt (pt (pt (pt (pt (pt (pt e 9 v9) 10 (e 8)) 11 v11) 12 v12) 4 (e 8)) 5 v12) 13 (e 0)) 14 (e 8)) 15 (e 0)) 16 (e 8)) 17 v17) 18 v18) 19 v18) 20 v20) 21 v21) 22 v22) 23 v23) 8 v23) h_3
    ) (
      K (.tuple #[]) h_1))
  (pt (pt (pt (envOf [a0, a1]) 6 a1) 7 v7) 8 (.int .i64 0)) h
theorem e83 (X : CallT) (a0 a1 : Value) (h : AH) (K : Value → AH → Prop) : cwp2 Try.prog X (Try.f83.body.getD .skip) (endW Try.prog Try.f83 K) (envOf [a0, a1]) h = s83 X a0 a1 h K := by kernel_rfl
theorem c83 {a0 a1 : Value} {h : AH} {K : Value → AH → Prop} (hs : s83 (callW Try.prog) a0 a1 h K) : callW Try.prog 83 [a0, a1] h K := callW_of Try.func83 (by kernel_rfl) (Eq.mpr (e83 _ a0 a1 _ _) hs)

/-- slices.Clone[[]bool,bool] () -/
def s84 (X : CallT) (a0 : Value) (h : AH) (K : Value → AH → Prop) : Prop :=
  optW (pBin Try.prog .eql 52 a0 (.slice none 0 0)) fun v4 =>
  condW v4 (
    K (.slice none 0 0) h
  ) (
    optW (bldSl 1 [(.bool false)] 0 []) fun c =>
    newW none (.row c true) h fun i h_1 =>
    appSl 1 (.slice (some ⟨i, 0, none⟩) 0 0) a0 h_1 fun v7 h_2 =>
    K v7 h_2)
theorem e84 (X : CallT) (a0 : Value) (h : AH) (K : Value → AH → Prop) : cwp2 Try.prog X (Try.f84.body.getD .skip) (endW Try.prog Try.f84 K) (envOf [a0]) h = s84 X a0 h K := by kernel_rfl
theorem c84 {a0 : Value} {h : AH} {K : Value → AH → Prop} (hs : s84 (callW Try.prog) a0 h K) : callW Try.prog 84 [a0] h K := callW_of Try.func84 (by kernel_rfl) (Eq.mpr (e84 _ a0 _ _) hs)

/-- canopy/canopyref8.behind (I at e: live [0, 1, 5, 6], writes [6, 7, 8, 12, 13, 14, 15, 16, 17, 18, 19, 20, 21, 22, 23, 24, 25, 26, 27, 28, 29, 30, 31, 32, 33, 34, 35, 36, 37, 38, 39, 40, 41, 42, 43, 44, 45, 46, 47, 48, 49, 50, 51, 52, 53, 54, 55, 56, 57, 58, 59, 60, 61, 62, 63, 64, 65, 66, 67, 68]; I_1 at e_1: live [0, 1, 5, 6, 7], writes [7, 8, 25, 26, 27, 28, 29, 30, 31, 32, 33, 34, 35, 36, 37, 38, 39, 40, 41, 42, 43, 44, 45, 46, 47, 48, 49, 50, 51, 52, 53, 54, 55, 56, 57, 58, 59, 60, 61, 62, 63, 64, 65, 66, 67, 68]; I_2 at e_2: live [0, 1, 5, 6, 7, 8], writes [8, 32, 33, 34, 35, 36, 37, 38, 39, 40, 41, 42, 43, 44, 45, 46, 47, 48, 49, 50, 51, 52, 53, 54, 55, 56, 57, 58, 59, 60, 61, 62, 63, 64, 65, 66, 67, 68]) -/
def s85 (X : CallT) (a0 a1 : Value) (h : AH) (K : Value → AH → Prop) : Prop :=
  optW (lenSl a0) fun v10 =>
  optW (mkSl 1 24 [(.slice none 0 0)] v10 v10) fun c =>
  newW none (.row c.2.2 true) h fun i h_1 =>
  loopE (fun I e h_2 =>
    optW (lenSl (e 0)) fun v14 =>
    optW (pBin Try.prog .lss 3 (e 6) v14) fun v15 =>
    condW v15 (
      optW (lenSl (e 0)) fun v21 =>
      optW (mkSl 1 1 [(.bool false)] v21 v21) fun c_1 =>
      newW none (.row c_1.2.2 true) h_2 fun i_1 h_3 =>
      optW (pIdxS 1 (e 5) (e 6)) fun v23 =>
      optW (pStore 1 v23 (.slice (some ⟨i_1, 0, none⟩) c_1.1 c_1.2.1) h_3) fun h_4 =>
      loopE (fun I_1 e_1 h_5 =>
        optW (lenSl (e_1 0)) fun v27 =>
        optW (pBin Try.prog .lss 3 (e_1 7) v27) fun v28 =>
        condW v28 (
          loopE (fun I_2 e_2 h_6 =>
            optW (lenSl (e_2 0)) fun v34 =>
            optW (pBin Try.prog .lss 3 (e_2 8) v34) fun v35 =>
            gopW (gB v35 true) (fun k =>
              k (e_2 0) h_6) h_6 fun v37 h_7 =>
            gopW (gB v35 true) (fun k_1 =>
              k_1 (e_2 6) h_7) h_7 fun v38 h_8 =>
            gopW (gB v35 true) (fun k_2 =>
              optW (pIdxS 1 v37 v38) fun v39_1 =>
              k_2 v39_1 h_8) h_8 fun v39 h_9 =>
            gopW (gB v35 true) (fun k_3 =>
              optW (rdRow false 1 v39 h_9) fun v40_1 =>
              k_3 v40_1 h_9) h_9 fun v40 h_10 =>
            gopW (gB v35 true) (fun k_4 =>
              k_4 (e_2 7) h_10) h_10 fun v41 h_11 =>
            gopW (gB v35 true) (fun k_5 =>
              optW (pIdxS 1 v40 v41) fun v42_1 =>
              k_5 v42_1 h_11) h_11 fun v42 h_12 =>
            gopW (gB v35 true) (fun k_6 =>
              optW (rdRow false 1 v42 h_12) fun v43_1 =>
              k_6 v43_1 h_12) h_12 fun v43 h_13 =>
            optW (pPick v35 v43 (.bool false)) fun v44 =>
            condW v44 (
              optW (pIdxS 1 (e_2 5) (e_2 6)) fun v49 =>
              optW (rdRow false 1 v49 h_13) fun v50 =>
              optW (pIdxS 1 (e_2 5) (e_2 6)) fun v54 =>
              optW (rdRow false 1 v54 h_13) fun v55 =>
              optW (pIdxS 1 v55 (e_2 8)) fun v57 =>
              optW (rdRow false 1 v57 h_13) fun v58 =>
              gopD (gB v58 false) (fun k_7 =>
                k_7 (e_2 1) h_13 [] ((11, (ceOf 1 v57)) :: ((8, (ceOf 1 v54)) :: ((3, (ceOf 1 v49)) :: [])))) h_13 [] ((11, (ceOf 1 v57)) :: ((8, (ceOf 1 v54)) :: ((3, (ceOf 1 v49)) :: []))) fun v60 h_14 H S =>
              gopD (gB v58 false) (fun k_8 =>
                k_8 (e_2 7) h_14 H S) h_14 H S fun v61 h_15 H_1 S_1 =>
              gopD (gB v58 false) (fun k_9 =>
                optW (pIdxS 1 v60 v61) fun v62_1 =>
                k_9 v62_1 h_15 H_1 S_1) h_15 H_1 S_1 fun v62 h_16 H_2 S_2 =>
              gopD (gB v58 false) (fun k_10 =>
                histC #[0, 0, 3, 7, 0, 0, 0, 96, 224, 0, 992, 2016, 4064, 8160, 8160, 32736, 65504, 8160, 262112, 524256, 1048544, 2097151, 4194303] 16 (ceOf 1 v62) H_2 (
                  optW (rdRow false 1 v62 h_16) fun v63_1 =>
                  k_10 v63_1 h_16 H_2 ((16, (ceOf 1 v62)) :: S_2))) h_16 H_2 S_2 fun v63 h_17 H_3 S_3 =>
              gopD (gB v58 false) (fun k_11 =>
                k_11 (e_2 8) h_17 H_3 S_3) h_17 H_3 S_3 fun v64 h_18 H_4 S_4 =>
              gopD (gB v58 false) (fun k_12 =>
                optW (pIdxS 1 v63 v64) fun v65_1 =>
                k_12 v65_1 h_18 H_4 S_4) h_18 H_4 S_4 fun v65 h_19 H_5 S_5 =>
              gopD (gB v58 false) (fun k_13 =>
                histC #[0, 0, 3, 7, 0, 0, 0, 96, 224, 0, 992, 2016, 4064, 8160, 8160, 32736, 65504, 8160, 262112, 524256, 1048544, 2097151, 4194303] 19 (ceOf 1 v65) H_5 (
                  optW (rdRow false 1 v65 h_19) fun v66_1 =>
                  k_13 v66_1 h_19 H_5 ((19, (ceOf 1 v65)) :: S_5))) h_19 H_5 S_5 fun v66 h_20 H_6 S_6 =>
              optW (pPick v58 (.bool true) v66) fun v67 =>
              optW (pIdxS 1 v50 (e_2 8)) fun v68 =>
              histC #[0, 0, 3, 7, 0, 0, 0, 96, 224, 0, 992, 2016, 4064, 8160, 8160, 32736, 65504, 8160, 262112, 524256, 1048544, 2097151, 4194303] 22 (obOf v68) H_6 (
                optW (pStore 1 v68 v67 h_20) fun h_21 =>
                readC #[0, 0, 3, 7, 0, 0, 0, 96, 224, 0, 992, 2016, 4064, 8160, 8160, 32736, 65504, 8160, 262112, 524256, 1048544, 2097151, 4194303] 22 h_20 h_21 S_6 (
                  optW (pBin Try.prog .add 3 (e_2 8) (.int .i64 1)) fun v46 =>
                  I_2 (pt (pt (pt (pt (pt (pt (pt (pt (pt (pt (pt (pt (pt (pt (pt (pt (pt (pt (pt (pt (pt (pt (pt (pt (pt (pt (pt (pt (pt (pt (pt (pt (pt (pt (pt (pt (pt (pt e_2 32 (e_2 8)) 33 (e_2 0)) 34 v34) 35 v35) 36 v35) 37 v37) 38 v38) 39 v39) 40 v40) 41 v41) 42 v42) 43 v43) 44 v44) 47 (e_2 5)) 48 (e_2 6)) 49 v49) 50 v50) 51 (e_2 8)) 52 (e_2 5)) 53 (e_2 6)) 54 v54) 55 v55) 56 (e_2 8)) 57 v57) 58 v58) 59 v58) 60 v60) 61 v61) 62 v62) 63 v63) 64 v64) 65 v65) 66 v66) 67 v67) 68 v68) 45 (e_2 8)) 46 v46) 8 v46) h_21))
            ) (
              optW (pBin Try.prog .add 3 (e_2 7) (.int .i64 1)) fun v30 =>
              I_1 (pt (pt (pt (pt (pt (pt (pt (pt (pt (pt (pt (pt (pt (pt (pt (pt e_2 32 (e_2 8)) 33 (e_2 0)) 34 v34) 35 v35) 36 v35) 37 v37) 38 v38) 39 v39) 40 v40) 41 v41) 42 v42) 43 v43) 44 v44) 29 (e_2 7)) 30 v30) 7 v30) h_13))
          (pt (pt (pt (pt (pt (pt e_1 25 (e_1 7)) 26 (e_1 0)) 27 v27) 28 v28) 31 (e_1 7)) 8 (e_1 7)) h_5
        ) (
          optW (pBin Try.prog .add 3 (e_1 6) (.int .i64 1)) fun v17 =>
          I (pt (pt (pt (pt (pt (pt (pt e_1 25 (e_1 7)) 26 (e_1 0)) 27 v27) 28 v28) 16 (e_1 6)) 17 v17) 6 v17) h_5))
      (pt (pt (pt (pt (pt (pt (pt (pt (pt (pt (pt (pt e 12 (e 6)) 13 (e 0)) 14 v14) 15 v15) 18 (e 5)) 19 (e 6)) 20 (e 0)) 21 v21) 22 (.slice (some ⟨i_1, 0, none⟩) c_1.1 c_1.2.1)) 23 v23) 24 (e 6)) 7 (e 6)) h_4
    ) (
      K (e 5) h_2))
  (pt (pt (pt (pt (pt (pt (envOf [a0, a1]) 4 (.slice none 0 0)) 9 a0) 10 v10) 11 (.slice (some ⟨i, 0, none⟩) c.1 c.2.1)) 5 (.slice (some ⟨i, 0, none⟩) c.1 c.2.1)) 6 (.int .i64 0)) h_1
theorem e85 (X : CallT) (a0 a1 : Value) (h : AH) (K : Value → AH → Prop) : cwp2 Try.prog X (Try.f85.body.getD .skip) (endW Try.prog Try.f85 K) (envOf [a0, a1]) h = s85 X a0 a1 h K := by kernel_rfl
theorem c85 {a0 a1 : Value} {h : AH} {K : Value → AH → Prop} (hs : s85 (callW Try.prog) a0 a1 h K) : callW Try.prog 85 [a0, a1] h K := callW_of Try.func85 (by kernel_rfl) (Eq.mpr (e85 _ a0 a1 _ _) hs)

/-- canopy/canopyref8.either (I at e: live [0, 1, 5, 6], writes [6, 7, 11, 12, 13, 14, 15, 16, 17, 18, 19, 20, 21, 22, 23, 24, 25, 26, 27, 28, 29, 30, 31, 32, 33, 34, 35, 36, 37, 38, 39, 40, 41, 42, 43, 44, 45, 46, 47, 48, 49, 50]; I_1 at e_1: live [0, 1, 5, 6, 7], writes [7, 23, 24, 25, 26, 27, 28, 29, 30, 31, 32, 33, 34, 35, 36, 37, 38, 39, 40, 41, 42, 43, 44, 45, 46, 47, 48, 49, 50]) -/
def s86 (X : CallT) (a0 a1 : Value) (h : AH) (K : Value → AH → Prop) : Prop :=
  optW (lenSl a0) fun v9 =>
  optW (mkSl 1 24 [(.slice none 0 0)] v9 v9) fun c =>
  newW none (.row c.2.2 true) h fun i h_1 =>
  loopE (fun I e h_2 =>
    optW (lenSl (e 0)) fun v13 =>
    optW (pBin Try.prog .lss 3 (e 6) v13) fun v14 =>
    condW v14 (
      optW (lenSl (e 0)) fun v20 =>
      optW (mkSl 1 1 [(.bool false)] v20 v20) fun c_1 =>
      newW none (.row c_1.2.2 true) h_2 fun i_1 h_3 =>
      optW (pIdxS 1 (e 5) (e 6)) fun v22 =>
      optW (pStore 1 v22 (.slice (some ⟨i_1, 0, none⟩) c_1.1 c_1.2.1) h_3) fun h_4 =>
      loopE (fun I_1 e_1 h_5 =>
        optW (lenSl (e_1 0)) fun v25 =>
        optW (pBin Try.prog .lss 3 (e_1 7) v25) fun v26 =>
        condW v26 (
          optW (pIdxS 1 (e_1 5) (e_1 6)) fun v31 =>
          optW (rdRow false 1 v31 h_5) fun v32 =>
          optW (pIdxS 1 (e_1 0) (e_1 6)) fun v36 =>
          optW (rdRow false 1 v36 h_5) fun v37 =>
          optW (pIdxS 1 v37 (e_1 7)) fun v39 =>
          optW (rdRow false 1 v39 h_5) fun v40 =>
          gopD (gB v40 false) (fun k =>
            k (e_1 1) h_5 [] ((11, (ceOf 1 v39)) :: ((8, (ceOf 1 v36)) :: ((3, (ceOf 1 v31)) :: [])))) h_5 [] ((11, (ceOf 1 v39)) :: ((8, (ceOf 1 v36)) :: ((3, (ceOf 1 v31)) :: []))) fun v42 h_6 H S =>
          gopD (gB v40 false) (fun k_1 =>
            k_1 (e_1 6) h_6 H S) h_6 H S fun v43 h_7 H_1 S_1 =>
          gopD (gB v40 false) (fun k_2 =>
            optW (pIdxS 1 v42 v43) fun v44_1 =>
            k_2 v44_1 h_7 H_1 S_1) h_7 H_1 S_1 fun v44 h_8 H_2 S_2 =>
          gopD (gB v40 false) (fun k_3 =>
            histC #[0, 0, 3, 7, 0, 0, 0, 96, 224, 0, 992, 2016, 4064, 8160, 8160, 32736, 65504, 8160, 262112, 524256, 1048544, 2097151, 4194303] 16 (ceOf 1 v44) H_2 (
              optW (rdRow false 1 v44 h_8) fun v45_1 =>
              k_3 v45_1 h_8 H_2 ((16, (ceOf 1 v44)) :: S_2))) h_8 H_2 S_2 fun v45 h_9 H_3 S_3 =>
          gopD (gB v40 false) (fun k_4 =>
            k_4 (e_1 7) h_9 H_3 S_3) h_9 H_3 S_3 fun v46 h_10 H_4 S_4 =>
          gopD (gB v40 false) (fun k_5 =>
            optW (pIdxS 1 v45 v46) fun v47_1 =>
            k_5 v47_1 h_10 H_4 S_4) h_10 H_4 S_4 fun v47 h_11 H_5 S_5 =>
          gopD (gB v40 false) (fun k_6 =>
            histC #[0, 0, 3, 7, 0, 0, 0, 96, 224, 0, 992, 2016, 4064, 8160, 8160, 32736, 65504, 8160, 262112, 524256, 1048544, 2097151, 4194303] 19 (ceOf 1 v47) H_5 (
              optW (rdRow false 1 v47 h_11) fun v48_1 =>
              k_6 v48_1 h_11 H_5 ((19, (ceOf 1 v47)) :: S_5))) h_11 H_5 S_5 fun v48 h_12 H_6 S_6 =>
          optW (pPick v40 (.bool true) v48) fun v49 =>
          optW (pIdxS 1 v32 (e_1 7)) fun v50 =>
          histC #[0, 0, 3, 7, 0, 0, 0, 96, 224, 0, 992, 2016, 4064, 8160, 8160, 32736, 65504, 8160, 262112, 524256, 1048544, 2097151, 4194303] 22 (obOf v50) H_6 (
            optW (pStore 1 v50 v49 h_12) fun h_13 =>
            readC #[0, 0, 3, 7, 0, 0, 0, 96, 224, 0, 992, 2016, 4064, 8160, 8160, 32736, 65504, 8160, 262112, 524256, 1048544, 2097151, 4194303] 22 h_12 h_13 S_6 (
              optW (pBin Try.prog .add 3 (e_1 7) (.int .i64 1)) fun v28 =>
              I_1 (pt (pt (pt (pt (pt (pt (pt (pt (pt (pt (pt (pt (pt (pt (pt (pt (pt (pt (pt (pt (pt (pt (pt (pt (pt (pt (pt (pt (pt e_1 23 (e_1 7)) 24 (e_1 0)) 25 v25) 26 v26) 29 (e_1 5)) 30 (e_1 6)) 31 v31) 32 v32) 33 (e_1 7)) 34 (e_1 0)) 35 (e_1 6)) 36 v36) 37 v37) 38 (e_1 7)) 39 v39) 40 v40) 41 v40) 42 v42) 43 v43) 44 v44) 45 v45) 46 v46) 47 v47) 48 v48) 49 v49) 50 v50) 27 (e_1 7)) 28 v28) 7 v28) h_13))
        ) (
          optW (pBin Try.prog .add 3 (e_1 6) (.int .i64 1)) fun v16 =>
          I (pt (pt (pt (pt (pt (pt (pt e_1 23 (e_1 7)) 24 (e_1 0)) 25 v25) 26 v26) 15 (e_1 6)) 16 v16) 6 v16) h_5))
      (pt (pt (pt (pt (pt (pt (pt (pt (pt (pt (pt e 11 (e 6)) 12 (e 0)) 13 v13) 14 v14) 17 (e 5)) 18 (e 6)) 19 (e 0)) 20 v20) 21 (.slice (some ⟨i_1, 0, none⟩) c_1.1 c_1.2.1)) 22 v22) 7 (.int .i64 0)) h_4
    ) (
      K (e 5) h_2))
  (pt (pt (pt (pt (pt (pt (envOf [a0, a1]) 4 (.slice none 0 0)) 8 a0) 9 v9) 10 (.slice (some ⟨i, 0, none⟩) c.1 c.2.1)) 5 (.slice (some ⟨i, 0, none⟩) c.1 c.2.1)) 6 (.int .i64 0)) h_1
theorem e86 (X : CallT) (a0 a1 : Value) (h : AH) (K : Value → AH → Prop) : cwp2 Try.prog X (Try.f86.body.getD .skip) (endW Try.prog Try.f86 K) (envOf [a0, a1]) h = s86 X a0 a1 h K := by kernel_rfl
theorem c86 {a0 a1 : Value} {h : AH} {K : Value → AH → Prop} (hs : s86 (callW Try.prog) a0 a1 h K) : callW Try.prog 86 [a0, a1] h K := callW_of Try.func86 (by kernel_rfl) (Eq.mpr (e86 _ a0 a1 _ _) hs)

/-- canopy/schema.part () -/
def s87 (X : CallT) (a0 a1 : Value) (h : AH) (K : Value → AH → Prop) : Prop :=
  aBox a0 none h fun v2 h_1 =>
  optW (rdRow true 3 v2 h_1) fun v6 =>
  X 52 [v6] h_1 fun v7 h_2 =>
  optW (pOff 0 v2) fun v9 =>
  optW (rdRow false 1 v9 h_2) fun v10 =>
  X 93 [a1, v10] h_2 fun v11 h_3 =>
  condW v11 (
    optW (pBin Try.prog .add 9 (.string (bs [40])) v7) fun v13 =>
    optW (pBin Try.prog .add 9 v13 (.string (bs [41]))) fun v14 =>
    K v14 h_3
  ) (
    K v7 h_3)
theorem e87 (X : CallT) (a0 a1 : Value) (h : AH) (K : Value → AH → Prop) : cwp2 Try.prog X (Try.f87.body.getD .skip) (endW Try.prog Try.f87 K) (envOf [a0, a1]) h = s87 X a0 a1 h K := by kernel_rfl
theorem c87 {a0 a1 : Value} {h : AH} {K : Value → AH → Prop} (hs : s87 (callW Try.prog) a0 a1 h K) : callW Try.prog 87 [a0, a1] h K := callW_of Try.func87 (by kernel_rfl) (Eq.mpr (e87 _ a0 a1 _ _) hs)

/-- slices.Index[[]string,string] (I at e: live [0, 1, 7, 8], writes [4, 5, 8, 9, 10, 11, 12, 13, 14, 15, 16, 17, 18]) -/
def s89 (X : CallT) (a0 a1 : Value) (h : AH) (K : Value → AH → Prop) : Prop :=
  optW (lenSl a0) fun v7 =>
  loopE (fun I e h_1 =>
    optW (pBin Try.prog .lss 3 (e 8) (e 7)) fun v9 =>
    condW v9 (
      optW (pIdxS 1 (e 0) (e 8)) fun v14 =>
      optW (rdRow false 1 v14 h_1) fun v15 =>
      optW (pBin Try.prog .eql 9 (e 1) v15) fun v16 =>
      condW v16 (
        K (e 8) h_1
      ) (
        optW (pBin Try.prog .add 3 (e 8) (.int .i64 1)) fun v18 =>
        I (pt (pt (pt (pt (pt (pt (pt (pt (pt (pt (pt e 9 v9) 10 (e 8)) 5 (e 8)) 11 (e 1)) 12 (e 0)) 13 (e 8)) 14 v14) 15 v15) 16 v16) 18 v18) 8 v18) h_1)
    ) (
      K (.int .i64 (-1)) h_1))
  (pt (pt (pt (pt (envOf [a0, a1]) 4 (.int .i64 0)) 6 a0) 7 v7) 8 (.int .i64 0)) h
theorem e89 (X : CallT) (a0 a1 : Value) (h : AH) (K : Value → AH → Prop) : cwp2 Try.prog X (Try.f89.body.getD .skip) (endW Try.prog Try.f89 K) (envOf [a0, a1]) h = s89 X a0 a1 h K := by kernel_rfl
theorem c89 {a0 a1 : Value} {h : AH} {K : Value → AH → Prop} (hs : s89 (callW Try.prog) a0 a1 h K) : callW Try.prog 89 [a0, a1] h K := callW_of Try.func89 (by kernel_rfl) (Eq.mpr (e89 _ a0 a1 _ _) hs)

/-- (*canopy/schema.parser).rep () -/
def s90 (X : CallT) (a0 : Value) (h : AH) (K : Value → AH → Prop) : Prop :=
  newR none [(.int .i64 0), (.string (bs [])), (.slice none 0 0)] h fun v2 h_1 =>
  X 97 [a0] h_1 fun v5 h_2 =>
  newR none [(.int .i64 0), (.string (bs [])), (.slice none 0 0)] h_2 fun v3 h_3 =>
  optW (pStore 3 v3 v5 h_3) fun h_4 =>
  optW (bld [(.string (bs [])), (.int .u8 0)] [(0, 1), (1, 1)] [(1, (.int .u8 42))]) fun v8 =>
  X 35 [a0, v8] h_4 fun v9 h_5 =>
  condW v9 (
    optW (rdRow true 3 v3 h_5) fun v10 =>
    optW (bldSl 3 [(.int .i64 0), (.string (bs [])), (.slice none 0 0)] 1 [(0, v10)]) fun c =>
    newW none (.row c true) h_5 fun i h_6 =>
    optW (bld [(.int .i64 0), (.string (bs [])), (.slice none 0 0)] [(0, 1), (1, 1), (2, 1)] [(0, (.int .i64 7)), (2, (.slice (some ⟨i, 0, none⟩) 1 1))]) fun v12 =>
    optW (pStore 3 v2 v12 h_6) fun h_7 =>
    optW (resList Try.prog (pt (pt (pt (pt (pt (pt (pt (pt (pt (pt (pt (envOf [a0]) 2 v2) 4 a0) 5 v5) 3 v3) 7 a0) 8 v8) 9 v9) 6 v9) 10 v10) 11 (.slice (some ⟨i, 0, none⟩) 1 1)) 12 v12) h_7 Try.f90.results.toList) fun vs => K (resOf vs) h_7
  ) (
    optW (bld [(.string (bs [])), (.int .u8 0)] [(0, 1), (1, 1)] [(1, (.int .u8 43))]) fun v15 =>
    X 35 [a0, v15] h_5 fun v16 h_8 =>
    condW v16 (
      optW (rdRow true 3 v3 h_8) fun v17 =>
      optW (bldSl 3 [(.int .i64 0), (.string (bs [])), (.slice none 0 0)] 1 [(0, v17)]) fun c_1 =>
      newW none (.row c_1 true) h_8 fun i_1 h_9 =>
      optW (bld [(.int .i64 0), (.string (bs [])), (.slice none 0 0)] [(0, 1), (1, 1), (2, 1)] [(0, (.int .i64 8)), (2, (.slice (some ⟨i_1, 0, none⟩) 1 1))]) fun v19 =>
      optW (pStore 3 v2 v19 h_9) fun h_10 =>
      optW (resList Try.prog (pt (pt (pt (pt (pt (pt (pt (pt (pt (pt (pt (pt (pt (pt (pt (envOf [a0]) 2 v2) 4 a0) 5 v5) 3 v3) 7 a0) 8 v8) 9 v9) 6 v9) 14 a0) 15 v15) 16 v16) 13 v16) 17 v17) 18 (.slice (some ⟨i_1, 0, none⟩) 1 1)) 19 v19) h_10 Try.f90.results.toList) fun vs => K (resOf vs) h_10
    ) (
      optW (bld [(.string (bs [])), (.int .u8 0)] [(0, 1), (1, 1)] [(1, (.int .u8 63))]) fun v22 =>
      X 35 [a0, v22] h_8 fun v23 h_11 =>
      condW v23 (
        optW (rdRow true 3 v3 h_11) fun v24 =>
        optW (bldSl 3 [(.int .i64 0), (.string (bs [])), (.slice none 0 0)] 1 [(0, v24)]) fun c_2 =>
        newW none (.row c_2 true) h_11 fun i_2 h_12 =>
        optW (bld [(.int .i64 0), (.string (bs [])), (.slice none 0 0)] [(0, 1), (1, 1), (2, 1)] [(0, (.int .i64 9)), (2, (.slice (some ⟨i_2, 0, none⟩) 1 1))]) fun v26 =>
        optW (pStore 3 v2 v26 h_12) fun h_13 =>
        optW (resList Try.prog (pt (pt (pt (pt (pt (pt (pt (pt (pt (pt (pt (pt (pt (pt (pt (pt (pt (pt (pt (envOf [a0]) 2 v2) 4 a0) 5 v5) 3 v3) 7 a0) 8 v8) 9 v9) 6 v9) 14 a0) 15 v15) 16 v16) 13 v16) 21 a0) 22 v22) 23 v23) 20 v23) 24 v24) 25 (.slice (some ⟨i_2, 0, none⟩) 1 1)) 26 v26) h_13 Try.f90.results.toList) fun vs => K (resOf vs) h_13
      ) (
        optW (rdRow true 3 v3 h_11) fun v27 =>
        optW (pStore 3 v2 v27 h_11) fun h_14 =>
        optW (resList Try.prog (pt (pt (pt (pt (pt (pt (pt (pt (pt (pt (pt (pt (pt (pt (pt (pt (pt (envOf [a0]) 2 v2) 4 a0) 5 v5) 3 v3) 7 a0) 8 v8) 9 v9) 6 v9) 14 a0) 15 v15) 16 v16) 13 v16) 21 a0) 22 v22) 23 v23) 20 v23) 27 v27) h_14 Try.f90.results.toList) fun vs => K (resOf vs) h_14)))
theorem e90 (X : CallT) (a0 : Value) (h : AH) (K : Value → AH → Prop) : cwp2 Try.prog X (Try.f90.body.getD .skip) (endW Try.prog Try.f90 K) (envOf [a0]) h = s90 X a0 h K := by kernel_rfl
theorem c90 {a0 : Value} {h : AH} {K : Value → AH → Prop} (hs : s90 (callW Try.prog) a0 h K) : callW Try.prog 90 [a0] h K := callW_of Try.func90 (by kernel_rfl) (Eq.mpr (e90 _ a0 _ _) hs)

/-- slices.Clip[[]canopy/api.Model,canopy/api.Model] () -/
def s91 (X : CallT) (a0 : Value) (h : AH) (K : Value → AH → Prop) : Prop :=
  optW (lenSl a0) fun v5 =>
  optW (lenSl a0) fun v7 =>
  optW (pSliceSl 3 a0 none (some v5) (some v7)) fun v8 =>
  K v8 h
theorem e91 (X : CallT) (a0 : Value) (h : AH) (K : Value → AH → Prop) : cwp2 Try.prog X (Try.f91.body.getD .skip) (endW Try.prog Try.f91 K) (envOf [a0]) h = s91 X a0 h K := by kernel_rfl
theorem c91 {a0 : Value} {h : AH} {K : Value → AH → Prop} (hs : s91 (callW Try.prog) a0 h K) : callW Try.prog 91 [a0] h K := callW_of Try.func91 (by kernel_rfl) (Eq.mpr (e91 _ a0 _ _) hs)

end Go.Proofs.Ytlenlhlipmkeeaa.W
end

section
/- Go functions, printed by a program as predicates on what may come behind; each is the function. Conditions: none. -/
namespace Go.Proofs.Ytlenlhlipmkeeaa.W
open Go Go.AM
set_option linter.unusedVariables false
set_option maxRecDepth 100000


/-- slices.Contains[[]int,int] () -/
def s93 (X : CallT) (a0 a1 : Value) (h : AH) (K : Value → AH → Prop) : Prop :=
  X 99 [a0, a1] h fun v7 h_1 =>
  optW (pBin Try.prog .geq 3 v7 (.int .i64 0)) fun v8 =>
  K v8 h_1
theorem e93 (X : CallT) (a0 a1 : Value) (h : AH) (K : Value → AH → Prop) : cwp2 Try.prog X (Try.f93.body.getD .skip) (endW Try.prog Try.f93 K) (envOf [a0, a1]) h = s93 X a0 a1 h K := by kernel_rfl
theorem c93 {a0 a1 : Value} {h : AH} {K : Value → AH → Prop} (hs : s93 (callW Try.prog) a0 a1 h K) : callW Try.prog 93 [a0, a1] h K := callW_of Try.func93 (by kernel_rfl) (Eq.mpr (e93 _ a0 a1 _ _) hs)

/-- (*canopy/schema.parser).atom () -/
def s97 (X : CallT) (a0 : Value) (h : AH) (K : Value → AH → Prop) : Prop :=
  newR none [(.int .i64 0), (.string (bs [])), (.slice none 0 0)] h fun v2 h_1 =>
  optW (bld [(.string (bs [])), (.int .u8 0)] [(0, 1), (1, 1)] [(0, (.string (bs [101, 109, 112, 116, 121])))]) fun v7 =>
  X 35 [a0, v7] h_1 fun v8 h_2 =>
  condW v8 (
    optW (bld [(.int .i64 0), (.string (bs [])), (.slice none 0 0)] [(0, 1), (1, 1), (2, 1)] [(0, (.int .i64 1))]) fun v9 =>
    optW (pStore 3 v2 v9 h_2) fun h_3 =>
    optW (resList Try.prog (pt (pt (pt (pt (pt (pt (envOf [a0]) 2 v2) 6 a0) 7 v7) 8 v8) 5 v8) 9 v9) h_3 Try.f97.results.toList) fun vs => K (resOf vs) h_3
  ) (
    optW (bld [(.string (bs [])), (.int .u8 0)] [(0, 1), (1, 1)] [(0, (.string (bs [97, 110, 121])))]) fun v12 =>
    X 35 [a0, v12] h_2 fun v13 h_4 =>
    condW v13 (
      optW (bld [(.int .i64 0), (.string (bs [])), (.slice none 0 0)] [(0, 1), (1, 1), (2, 1)] [(0, (.int .i64 2))]) fun v14 =>
      optW (pStore 3 v2 v14 h_4) fun h_5 =>
      optW (resList Try.prog (pt (pt (pt (pt (pt (pt (pt (pt (pt (pt (envOf [a0]) 2 v2) 6 a0) 7 v7) 8 v8) 5 v8) 11 a0) 12 v12) 13 v13) 10 v13) 14 v14) h_5 Try.f97.results.toList) fun vs => K (resOf vs) h_5
    ) (
      optW (bld [(.string (bs [])), (.int .u8 0)] [(0, 1), (1, 1)] [(0, (.string (bs [116, 101, 120, 116])))]) fun v17 =>
      X 35 [a0, v17] h_4 fun v18 h_6 =>
      condW v18 (
        optW (bld [(.int .i64 0), (.string (bs [])), (.slice none 0 0)] [(0, 1), (1, 1), (2, 1)] [(0, (.int .i64 3))]) fun v19 =>
        optW (pStore 3 v2 v19 h_6) fun h_7 =>
        optW (resList Try.prog (pt (pt (pt (pt (pt (pt (pt (pt (pt (pt (pt (pt (pt (pt (envOf [a0]) 2 v2) 6 a0) 7 v7) 8 v8) 5 v8) 11 a0) 12 v12) 13 v13) 10 v13) 16 a0) 17 v17) 18 v18) 15 v18) 19 v19) h_7 Try.f97.results.toList) fun vs => K (resOf vs) h_7
      ) (
        optW (pNilCheck a0) fun v22 =>
        optW (pOff 3 v22) fun v23 =>
        optW (rdRow true 2 v23 h_6) fun v24 =>
        optW (bld [(.string (bs [])), (.int .u8 0)] [(0, 1), (1, 1)] [(1, (.int .u8 40))]) fun v25 =>
        optW (pBin Try.prog .eql 71 v24 v25) fun v26 =>
        condW v26 (
          optW (pNilCheck a0) fun v28 =>
          optW (pOff 5 v28) fun v29 =>
          optW (rdRow false 1 v29 h_6) fun v30 =>
          optW (pBin Try.prog .geq 3 v30 (.int .i64 20)) fun v31 =>
          condW v31 (
            X 37 [a0, (.int .i64 3)] h_6 fun v33 h_8 =>
            optW (bld [(.int .i64 0), (.string (bs [])), (.slice none 0 0)] [(0, 1), (1, 1), (2, 1)] []) fun v34 =>
            optW (pStore 3 v2 v34 h_8) fun h_9 =>
            optW (resList Try.prog (pt (pt (pt (pt (pt (pt (pt (pt (pt (pt (pt (pt (pt (pt (pt (pt (pt (pt (pt (pt (pt (pt (pt (pt (pt (pt (pt (pt (envOf [a0]) 2 v2) 6 a0) 7 v7) 8 v8) 5 v8) 11 a0) 12 v12) 13 v13) 10 v13) 16 a0) 17 v17) 18 v18) 15 v18) 21 a0) 22 v22) 23 v23) 24 v24) 25 v25) 26 v26) 20 v26) 27 a0) 28 v28) 29 v29) 30 v30) 31 v31) 32 a0) 33 v33) 34 v34) h_9 Try.f97.results.toList) fun vs => K (resOf vs) h_9
          ) (
            X 32 [a0] h_6 fun v36 h_10 =>
            optW (pNilCheck a0) fun v38 =>
            optW (pOff 5 v38) fun v39 =>
            optW (rdRow false 1 v39 h_10) fun v40 =>
            optW (pBin Try.prog .add 3 v40 (.int .i64 1)) fun v41 =>
            optW (pNilCheck a0) fun v42 =>
            optW (pOff 5 v42) fun v43 =>
            optW (pStore 1 v43 v41 h_10) fun h_11 =>
            X 58 [a0] h_11 fun v45 h_12 =>
            newR none [(.int .i64 0), (.string (bs [])), (.slice none 0 0)] h_12 fun v3 h_13 =>
            optW (pStore 3 v3 v45 h_13) fun h_14 =>
            optW (pNilCheck a0) fun v47 =>
            optW (pOff 5 v47) fun v48 =>
            optW (rdRow false 1 v48 h_14) fun v49 =>
            optW (pBin Try.prog .sub 3 v49 (.int .i64 1)) fun v50 =>
            optW (pNilCheck a0) fun v51 =>
            optW (pOff 5 v51) fun v52 =>
            optW (pStore 1 v52 v50 h_14) fun h_15 =>
            optW (bld [(.string (bs [])), (.int .u8 0)] [(0, 1), (1, 1)] [(1, (.int .u8 41))]) fun v54 =>
            X 33 [a0, v54] h_15 fun v55 h_16 =>
            optW (rdRow true 3 v3 h_16) fun v56 =>
            optW (pStore 3 v2 v56 h_16) fun h_17 =>
            optW (resList Try.prog (pt (pt (pt (pt (pt (pt (pt (pt (pt (pt (pt (pt (pt (pt (pt (pt (pt (pt (pt (pt (pt (pt (pt (pt (pt (pt (pt (pt (pt (pt (pt (pt (pt (pt (pt (pt (pt (pt (pt (pt (pt (pt (pt (pt (pt (pt (pt (pt (envOf [a0]) 2 v2) 6 a0) 7 v7) 8 v8) 5 v8) 11 a0) 12 v12) 13 v13) 10 v13) 16 a0) 17 v17) 18 v18) 15 v18) 21 a0) 22 v22) 23 v23) 24 v24) 25 v25) 26 v26) 20 v26) 27 a0) 28 v28) 29 v29) 30 v30) 31 v31) 35 a0) 36 v36) 37 a0) 38 v38) 39 v39) 40 v40) 41 v41) 42 v42) 43 v43) 44 a0) 45 v45) 3 v3) 46 a0) 47 v47) 48 v48) 49 v49) 50 v50) 51 v51) 52 v52) 53 a0) 54 v54) 55 v55) 56 v56) h_17 Try.f97.results.toList) fun vs => K (resOf vs) h_17)
        ) (
          X 34 [a0] h_6 fun v58 h_18 =>
          optW (pNilCheck a0) fun v60 =>
          optW (pOff 6 v60) fun v61 =>
          optW (rdRow false 1 v61 h_18) fun v62 =>
          optW (pBin Try.prog .eql 32 v62 (.int .i64 0)) fun v63 =>
          condW v63 (
            optW (pNilCheck a0) fun v66 =>
            optW (pOff 8 v66) fun v67 =>
            optW (rdRow false 1 v67 h_18) fun v68 =>
            optW (bldSl 1 [(.string (bs []))] 1 [(0, v58)]) fun c =>
            newW none (.row c true) h_18 fun i h_19 =>
            appSl 1 v68 (.slice (some ⟨i, 0, none⟩) 1 1) h_19 fun v71 h_20 =>
            optW (pNilCheck a0) fun v72 =>
            optW (pOff 8 v72) fun v73 =>
            optW (pStore 1 v73 v71 h_20) fun h_21 =>
            X 32 [a0] h_21 fun v75 h_22 =>
            optW (bld [(.int .i64 0), (.string (bs [])), (.slice none 0 0)] [(0, 1), (1, 1), (2, 1)] [(0, (.int .i64 4)), (1, v58)]) fun v77 =>
            optW (pStore 3 v2 v77 h_22) fun h_23 =>
            optW (resList Try.prog (pt (pt (pt (pt (pt (pt (pt (pt (pt (pt (pt (pt (pt (pt (pt (pt (pt (pt (pt (pt (pt (pt (pt (pt (pt (pt (pt (pt (pt (pt (pt (pt (pt (pt (pt (pt (pt (pt (pt (pt (pt (pt (envOf [a0]) 2 v2) 6 a0) 7 v7) 8 v8) 5 v8) 11 a0) 12 v12) 13 v13) 10 v13) 16 a0) 17 v17) 18 v18) 15 v18) 21 a0) 22 v22) 23 v23) 24 v24) 25 v25) 26 v26) 20 v26) 57 a0) 58 v58) 4 v58) 59 a0) 60 v60) 61 v61) 62 v62) 63 v63) 64 a0) 65 a0) 66 v66) 67 v67) 68 v68) 69 v58) 70 (.slice (some ⟨i, 0, none⟩) 1 1)) 71 v71) 72 v72) 73 v73) 74 a0) 75 v75) 76 v58) 77 v77) h_23 Try.f97.results.toList) fun vs => K (resOf vs) h_23
          ) (
            optW (bld [(.int .i64 0), (.string (bs [])), (.slice none 0 0)] [(0, 1), (1, 1), (2, 1)] [(0, (.int .i64 4)), (1, v58)]) fun v77_1 =>
            optW (pStore 3 v2 v77_1 h_18) fun h_24 =>
            optW (resList Try.prog (pt (pt (pt (pt (pt (pt (pt (pt (pt (pt (pt (pt (pt (pt (pt (pt (pt (pt (pt (pt (pt (pt (pt (pt (pt (pt (pt (pt (pt (pt (envOf [a0]) 2 v2) 6 a0) 7 v7) 8 v8) 5 v8) 11 a0) 12 v12) 13 v13) 10 v13) 16 a0) 17 v17) 18 v18) 15 v18) 21 a0) 22 v22) 23 v23) 24 v24) 25 v25) 26 v26) 20 v26) 57 a0) 58 v58) 4 v58) 59 a0) 60 v60) 61 v61) 62 v62) 63 v63) 76 v58) 77 v77_1) h_24 Try.f97.results.toList) fun vs => K (resOf vs) h_24)))))
theorem e97 (X : CallT) (a0 : Value) (h : AH) (K : Value → AH → Prop) : cwp2 Try.prog X (Try.f97.body.getD .skip) (endW Try.prog Try.f97 K) (envOf [a0]) h = s97 X a0 h K := by kernel_rfl
theorem c97 {a0 : Value} {h : AH} {K : Value → AH → Prop} (hs : s97 (callW Try.prog) a0 h K) : callW Try.prog 97 [a0] h K := callW_of Try.func97 (by kernel_rfl) (Eq.mpr (e97 _ a0 _ _) hs)

/-- slices.Index[[]int,int] (I at e: live [0, 1, 7, 8], writes [4, 5, 8, 9, 10, 11, 12, 13, 14, 15, 16, 17, 18]) -/
def s99 (X : CallT) (a0 a1 : Value) (h : AH) (K : Value → AH → Prop) : Prop :=
  optW (lenSl a0) fun v7 =>
  loopE (fun I e h_1 =>
    optW (pBin Try.prog .lss 3 (e 8) (e 7)) fun v9 =>
    condW v9 (
      optW (pIdxS 1 (e 0) (e 8)) fun v14 =>
      optW (rdRow false 1 v14 h_1) fun v15 =>
      optW (pBin Try.prog .eql 3 (e 1) v15) fun v16 =>
      condW v16 (
        K (e 8) h_1
      ) (
        optW (pBin Try.prog .add 3 (e 8) (.int .i64 1)) fun v18 =>
        I (pt (pt (pt (pt (pt (pt (pt (pt (pt (pt (pt e 9 v9) 10 (e 8)) 5 (e 8)) 11 (e 1)) 12 (e 0)) 13 (e 8)) 14 v14) 15 v15) 16 v16) 18 v18) 8 v18) h_1)
    ) (
      K (.int .i64 (-1)) h_1))
  (pt (pt (pt (pt (envOf [a0, a1]) 4 (.int .i64 0)) 6 a0) 7 v7) 8 (.int .i64 0)) h
theorem e99 (X : CallT) (a0 a1 : Value) (h : AH) (K : Value → AH → Prop) : cwp2 Try.prog X (Try.f99.body.getD .skip) (endW Try.prog Try.f99 K) (envOf [a0, a1]) h = s99 X a0 a1 h K := by kernel_rfl
theorem c99 {a0 a1 : Value} {h : AH} {K : Value → AH → Prop} (hs : s99 (callW Try.prog) a0 a1 h K) : callW Try.prog 99 [a0, a1] h K := callW_of Try.func99 (by kernel_rfl) (Eq.mpr (e99 _ a0 a1 _ _) hs)

end Go.Proofs.Ytlenlhlipmkeeaa.W
end

section
/- Go functions, printed by a program as predicates on what may come behind; each is the function. Conditions: none. -/
namespace Go.Proofs.Ytlenlhlipmkeeaa.W
open Go Go.AM
set_option linter.unusedVariables false
set_option maxRecDepth 100000


/-- canopy/canopylaw8.SchemaOwn (I at e: live [10, 13], writes [13, 14, 37, 38, 39, 40, 41, 42, 43, 44, 45, 46, 47, 48, 49, 50, 51, 52, 53, 54, 55, 56, 57, 58, 59, 60, 61, 62, 63, 64, 65, 66, 67, 68, 69, 70]; I_1 at e_1: live [10, 13, 14], writes [14, 49, 50, 51, 52, 53, 54, 55, 56, 57, 58, 59, 60, 61, 62, 63, 64, 65, 66, 67, 68, 69, 70]; I_2 at e_2: live [18, 19], writes [19, 79, 80, 81, 82, 83, 84, 85, 86, 87, 88]) -/
def s11 (X : CallT) (a0 a1 a2 : Value) (h : AH) (K : Value → AH → Prop) : Prop :=
  X 12 [] h fun v21 h_1 =>
  optW (pUn .not v21) fun v22 =>
  condW v22 (
    K (.bool false) h_1
  ) (
    X 14 [a0, a1, (.int .i64 3)] h_1 fun v25 h_2 =>
    X 14 [a0, a1, (.int .i64 3)] h_2 fun v28 h_3 =>
    newR none [(.string (bs [])), (.slice none 0 0)] h_3 fun v7 h_4 =>
    newR none [(.string (bs [])), (.slice none 0 0)] h_4 fun v8 h_5 =>
    optW (pStore 2 v7 v25 h_5) fun h_6 =>
    optW (pStore 2 v8 v28 h_6) fun h_7 =>
    optW (rdRow true 2 v7 h_7) fun v29 =>
    X 26 [v29] h_7 fun v30 h_8 =>
    X 17 [v30] h_8 fun v33 h_9 =>
    optW (pExtract v33 0) fun v34 =>
    optW (pExtract v33 1) fun v35 =>
    optW (pExtract v33 2) fun v36 =>
    newR none [(.string (bs [])), (.slice none 0 0)] h_9 fun v10 h_10 =>
    optW (pStore 2 v10 v34 h_10) fun h_11 =>
    loopE (fun I e h_12 =>
      optW (pOff 1 (e 10)) fun v38 =>
      optW (rdRow false 1 v38 h_12) fun v39 =>
      optW (lenSl v39) fun v40 =>
      optW (pBin Try.prog .lss 3 (e 13) v40) fun v41 =>
      condW v41 (
        optW (pOff 1 (e 10)) fun v44 =>
        optW (rdRow false 1 v44 h_12) fun v45 =>
        optW (pIdxS 4 v45 (e 13)) fun v47 =>
        optW (pOff 0 v47) fun v48 =>
        optW (pStore 1 v48 (.string (bs [63])) h_12) fun h_13 =>
        loopE (fun I_1 e_1 h_14 =>
          optW (pOff 1 (e_1 10)) fun v50 =>
          optW (rdRow false 1 v50 h_14) fun v51 =>
          optW (pIdxS 4 v51 (e_1 13)) fun v53 =>
          optW (pOff 1 v53) fun v54 =>
          optW (pOff 2 v54) fun v55 =>
          optW (rdRow false 1 v55 h_14) fun v56 =>
          optW (lenSl v56) fun v57 =>
          optW (pBin Try.prog .lss 3 (e_1 14) v57) fun v58 =>
          condW v58 (
            optW (pOff 1 (e_1 10)) fun v61 =>
            optW (rdRow false 1 v61 h_14) fun v62 =>
            optW (pIdxS 4 v62 (e_1 13)) fun v64 =>
            optW (pOff 1 v64) fun v65 =>
            optW (pOff 2 v65) fun v66 =>
            optW (rdRow false 1 v66 h_14) fun v67 =>
            optW (pIdxS 3 v67 (e_1 14)) fun v69 =>
            optW (pOff 0 v69) fun v70 =>
            optW (pStore 1 v70 (.int .i64 99) h_14) fun h_15 =>
            optW (pBin Try.prog .add 3 (e_1 14) (.int .i64 1)) fun v60 =>
            I_1 (pt (pt (pt (pt (pt (pt (pt (pt (pt (pt (pt (pt (pt (pt (pt (pt (pt (pt (pt (pt (pt (pt (pt e_1 49 (e_1 14)) 50 v50) 51 v51) 52 (e_1 13)) 53 v53) 54 v54) 55 v55) 56 v56) 57 v57) 58 v58) 61 v61) 62 v62) 63 (e_1 13)) 64 v64) 65 v65) 66 v66) 67 v67) 68 (e_1 14)) 69 v69) 70 v70) 59 (e_1 14)) 60 v60) 14 v60) h_15
          ) (
            optW (pBin Try.prog .add 3 (e_1 13) (.int .i64 1)) fun v43 =>
            I (pt (pt (pt (pt (pt (pt (pt (pt (pt (pt (pt (pt (pt e_1 49 (e_1 14)) 50 v50) 51 v51) 52 (e_1 13)) 53 v53) 54 v54) 55 v55) 56 v56) 57 v57) 58 v58) 42 (e_1 13)) 43 v43) 13 v43) h_14))
        (pt (pt (pt (pt (pt (pt (pt (pt (pt (pt (pt e 37 (e 13)) 38 v38) 39 v39) 40 v40) 41 v41) 44 v44) 45 v45) 46 (e 13)) 47 v47) 48 v48) 14 (.int .i64 0)) h_13
      ) (
        X 17 [(e 9)] h_12 fun v73 h_16 =>
        optW (pExtract v73 0) fun v74 =>
        optW (pExtract v73 1) fun v75 =>
        optW (pExtract v73 2) fun v76 =>
        newR none [(.string (bs [])), (.slice none 0 0)] h_16 fun v15 h_17 =>
        optW (pStore 2 v15 v74 h_17) fun h_18 =>
        optW (rdRow true 2 (e 7) h_18) fun v77 =>
        X 27 [v77] h_18 fun v78 h_19 =>
        loopE (fun I_2 e_2 h_20 =>
          optW (lenSl (e_2 18)) fun v81 =>
          optW (pBin Try.prog .lss 3 (e_2 19) v81) fun v82 =>
          condW v82 (
            optW (pIdxS 2 (e_2 18) (e_2 19)) fun v87 =>
            optW (pOff 0 v87) fun v88 =>
            optW (pStore 1 v88 (.string (bs [63])) h_20) fun h_21 =>
            optW (pBin Try.prog .add 3 (e_2 19) (.int .i64 1)) fun v84 =>
            I_2 (pt (pt (pt (pt (pt (pt (pt (pt (pt (pt (pt e_2 79 (e_2 19)) 80 (e_2 18)) 81 v81) 82 v82) 85 (e_2 18)) 86 (e_2 19)) 87 v87) 88 v88) 83 (e_2 19)) 84 v84) 19 v84) h_21
          ) (
            optW (rdRow true 2 (e_2 8) h_20) fun v89 =>
            X 20 [v89] h_20 fun v90 h_22 =>
            X 24 [v90, (e_2 2), (.int .i64 5)] h_22 fun v92 h_23 =>
            optW (rdRow true 2 (e_2 7) h_23) fun v93 =>
            optW (rdRow true 2 (e_2 8) h_23) fun v94 =>
            X 19 [v93, v94] h_23 fun v95 h_24 =>
            gopD (gB v95 true) (fun k =>
              k (e_2 12) h_24 ((2, h_23, h_24) :: []) ((1, (ceOf 2 (e_2 8))) :: ((0, (ceOf 2 (e_2 7))) :: []))) h_24 ((2, h_23, h_24) :: []) ((1, (ceOf 2 (e_2 8))) :: ((0, (ceOf 2 (e_2 7))) :: [])) fun v97 h_25 H S =>
            gopD (gB v95 true) (fun k_1 =>
              k_1 (e_2 17) h_25 H S) h_25 H S fun v98 h_26 H_1 S_1 =>
            gopD (gB v95 true) (fun k_2 =>
              optW (pBin Try.prog .eql 32 v97 v98) fun v99_1 =>
              k_2 v99_1 h_26 H_1 S_1) h_26 H_1 S_1 fun v99 h_27 H_2 S_2 =>
            optW (pPick v95 v99 (.bool false)) fun v100 =>
            gopD (gB v100 true) (fun k_3 =>
              k_3 (e_2 12) h_27 H_2 S_2) h_27 H_2 S_2 fun v102 h_28 H_3 S_3 =>
            gopD (gB v100 true) (fun k_4 =>
              optW (pBin Try.prog .neq 32 v102 (.int .i64 0)) fun v103_1 =>
              k_4 v103_1 h_28 H_3 S_3) h_28 H_3 S_3 fun v103 h_29 H_4 S_4 =>
            gopD (gB v100 true) (fun k_5 =>
              k_5 v103 h_29 H_4 S_4) h_29 H_4 S_4 fun v104 h_30 H_5 S_5 =>
            gopD (gB v104 false) (fun k_6 =>
              histC #[0, 0, 3, 7, 15, 15, 63, 127, 255, 511, 1023, 2047, 4095, 4095, 16383, 32767, 65535, 131071, 262143, 262143, 1048575, 262143, 262143, 8388607, 16777215, 33554431, 67108863, 134217727, 268435455, 536870911, 1073741823, 2147483647, 4294967295] 12 (ceOf 2 (e_2 15)) H_5 (
                optW (rdRow true 2 (e_2 15) h_30) fun v105_1 =>
                k_6 v105_1 h_30 H_5 ((12, (ceOf 2 (e_2 15))) :: S_5))) h_30 H_5 S_5 fun v105 h_31 H_6 S_6 =>
            gopD (gB v104 false) (fun k_7 =>
              histC #[0, 0, 3, 7, 15, 15, 63, 127, 255, 511, 1023, 2047, 4095, 4095, 16383, 32767, 65535, 131071, 262143, 262143, 1048575, 262143, 262143, 8388607, 16777215, 33554431, 67108863, 134217727, 268435455, 536870911, 1073741823, 2147483647, 4294967295] 13 (ceOf 2 (e_2 8)) H_6 (
                optW (rdRow true 2 (e_2 8) h_31) fun v106_1 =>
                k_7 v106_1 h_31 H_6 ((13, (ceOf 2 (e_2 8))) :: S_6))) h_31 H_6 S_6 fun v106 h_32 H_7 S_7 =>
            gopD (gB v104 false) (fun k_8 =>
              X 19 [v105, v106] h_32 fun v107_1 h_34 =>
              readC #[0, 0, 3, 7, 15, 15, 63, 127, 255, 511, 1023, 2047, 4095, 4095, 16383, 32767, 65535, 131071, 262143, 262143, 1048575, 262143, 262143, 8388607, 16777215, 33554431, 67108863, 134217727, 268435455, 536870911, 1073741823, 2147483647, 4294967295] 14 h_32 h_34 S_7 (
                k_8 v107_1 h_34 ((14, h_32, h_34) :: H_7) S_7)) h_32 H_7 S_7 fun v107 h_33 H_8 S_8 =>
            gopD (gB v100 true) (fun k_9 =>
              optW (pPick v104 (.bool true) v107) fun v108_1 =>
              k_9 v108_1 h_33 H_8 S_8) h_33 H_8 S_8 fun v108 h_35 H_9 S_9 =>
            optW (pPick v100 v108 (.bool false)) fun v109 =>
            gopD (gB v109 true) (fun k_10 =>
              histC #[0, 0, 3, 7, 15, 15, 63, 127, 255, 511, 1023, 2047, 4095, 4095, 16383, 32767, 65535, 131071, 262143, 262143, 1048575, 262143, 262143, 8388607, 16777215, 33554431, 67108863, 134217727, 268435455, 536870911, 1073741823, 2147483647, 4294967295] 18 (ceOf 2 (e_2 7)) H_9 (
                optW (rdRow true 2 (e_2 7) h_35) fun v111_1 =>
                k_10 v111_1 h_35 H_9 ((18, (ceOf 2 (e_2 7))) :: S_9))) h_35 H_9 S_9 fun v111 h_36 H_10 S_10 =>
            gopD (gB v109 true) (fun k_11 =>
              k_11 v92 h_36 H_10 S_10) h_36 H_10 S_10 fun v112 h_37 H_11 S_11 =>
            gopD (gB v109 true) (fun k_12 =>
              X 22 [v111, v112] h_37 fun v113_1 h_39 =>
              readC #[0, 0, 3, 7, 15, 15, 63, 127, 255, 511, 1023, 2047, 4095, 4095, 16383, 32767, 65535, 131071, 262143, 262143, 1048575, 262143, 262143, 8388607, 16777215, 33554431, 67108863, 134217727, 268435455, 536870911, 1073741823, 2147483647, 4294967295] 20 h_37 h_39 S_11 (
                k_12 v113_1 h_39 ((20, h_37, h_39) :: H_11) S_11)) h_37 H_11 S_11 fun v113 h_38 H_12 S_12 =>
            gopD (gB v109 true) (fun k_13 =>
              histC #[0, 0, 3, 7, 15, 15, 63, 127, 255, 511, 1023, 2047, 4095, 4095, 16383, 32767, 65535, 131071, 262143, 262143, 1048575, 262143, 262143, 8388607, 16777215, 33554431, 67108863, 134217727, 268435455, 536870911, 1073741823, 2147483647, 4294967295] 21 (ceOf 2 (e_2 8)) H_12 (
                optW (rdRow true 2 (e_2 8) h_38) fun v114_1 =>
                k_13 v114_1 h_38 H_12 ((21, (ceOf 2 (e_2 8))) :: S_12))) h_38 H_12 S_12 fun v114 h_40 H_13 S_13 =>
            gopD (gB v109 true) (fun k_14 =>
              k_14 v92 h_40 H_13 S_13) h_40 H_13 S_13 fun v115 h_41 H_14 S_14 =>
            gopD (gB v109 true) (fun k_15 =>
              X 23 [v114, v115] h_41 fun v116_1 h_43 =>
              readC #[0, 0, 3, 7, 15, 15, 63, 127, 255, 511, 1023, 2047, 4095, 4095, 16383, 32767, 65535, 131071, 262143, 262143, 1048575, 262143, 262143, 8388607, 16777215, 33554431, 67108863, 134217727, 268435455, 536870911, 1073741823, 2147483647, 4294967295] 23 h_41 h_43 S_14 (
                k_15 v116_1 h_43 ((23, h_41, h_43) :: H_14) S_14)) h_41 H_14 S_14 fun v116 h_42 H_15 S_15 =>
            gopD (gB v109 true) (fun k_16 =>
              optW (pBin Try.prog .eql 4 v113 v116) fun v117_1 =>
              k_16 v117_1 h_42 H_15 S_15) h_42 H_15 S_15 fun v117 h_44 H_16 S_16 =>
            optW (pPick v109 v117 (.bool false)) fun v118 =>
            gopD (gB v118 true) (fun k_17 =>
              histC #[0, 0, 3, 7, 15, 15, 63, 127, 255, 511, 1023, 2047, 4095, 4095, 16383, 32767, 65535, 131071, 262143, 262143, 1048575, 262143, 262143, 8388607, 16777215, 33554431, 67108863, 134217727, 268435455, 536870911, 1073741823, 2147483647, 4294967295] 27 (ceOf 2 (e_2 7)) H_16 (
                optW (rdRow true 2 (e_2 7) h_44) fun v120_1 =>
                k_17 v120_1 h_44 H_16 ((27, (ceOf 2 (e_2 7))) :: S_16))) h_44 H_16 S_16 fun v120 h_45 H_17 S_17 =>
            gopD (gB v118 true) (fun k_18 =>
              X 27 [v120] h_45 fun v121_1 h_47 =>
              readC #[0, 0, 3, 7, 15, 15, 63, 127, 255, 511, 1023, 2047, 4095, 4095, 16383, 32767, 65535, 131071, 262143, 262143, 1048575, 262143, 262143, 8388607, 16777215, 33554431, 67108863, 134217727, 268435455, 536870911, 1073741823, 2147483647, 4294967295] 28 h_45 h_47 S_17 (
                k_18 v121_1 h_47 ((28, h_45, h_47) :: H_17) S_17)) h_45 H_17 S_17 fun v121 h_46 H_18 S_18 =>
            gopD (gB v118 true) (fun k_19 =>
              X 28 [v121] h_46 fun v122_1 h_49 =>
              readC #[0, 0, 3, 7, 15, 15, 63, 127, 255, 511, 1023, 2047, 4095, 4095, 16383, 32767, 65535, 131071, 262143, 262143, 1048575, 262143, 262143, 8388607, 16777215, 33554431, 67108863, 134217727, 268435455, 536870911, 1073741823, 2147483647, 4294967295] 29 h_46 h_49 S_18 (
                k_19 v122_1 h_49 ((29, h_46, h_49) :: H_18) S_18)) h_46 H_18 S_18 fun v122 h_48 H_19 S_19 =>
            gopD (gB v118 true) (fun k_20 =>
              optW (pBin Try.prog .eql 3 v122 (.int .i64 0)) fun v123_1 =>
              k_20 v123_1 h_48 H_19 S_19) h_48 H_19 S_19 fun v123 h_50 H_20 S_20 =>
            optW (pPick v118 v123 (.bool false)) fun v124 =>
            K v124 h_50))
        (pt (pt (pt (pt (pt (pt (pt (pt (pt (pt (pt (pt (pt (pt (pt (pt (pt (pt e 37 (e 13)) 38 v38) 39 v39) 40 v40) 41 v41) 72 (e 9)) 73 v73) 71 v73) 74 v74) 75 v75) 76 v76) 15 v15) 16 v75) 17 v76) 77 v77) 78 v78) 18 v78) 19 (.int .i64 0)) h_19))
    (pt (pt (pt (pt (pt (pt (pt (pt (pt (pt (pt (pt (pt (pt (pt (pt (pt (pt (pt (pt (pt (pt (pt (pt (envOf [a0, a1, a2]) 6 (.bool false)) 21 v21) 22 v22) 23 a0) 24 a1) 25 v25) 26 a0) 27 a1) 28 v28) 7 v7) 8 v8) 29 v29) 30 v30) 9 v30) 32 v30) 33 v33) 31 v33) 34 v34) 35 v35) 36 v36) 10 v10) 11 v35) 12 v36) 13 (.int .i64 0)) h_11)
theorem e11 (X : CallT) (a0 a1 a2 : Value) (h : AH) (K : Value → AH → Prop) : cwp2 Try.prog X (Try.f11.body.getD .skip) (endW Try.prog Try.f11 K) (envOf [a0, a1, a2]) h = s11 X a0 a1 a2 h K := by kernel_rfl
theorem c11 {a0 a1 a2 : Value} {h : AH} {K : Value → AH → Prop} (hs : s11 (callW Try.prog) a0 a1 a2 h K) : callW Try.prog 11 [a0, a1, a2] h K := callW_of Try.func11 (by kernel_rfl) (Eq.mpr (e11 _ a0 a1 a2 _ _) hs)

/-- canopy/canopylaw8.Make (I at e: live [2, 7, 8, 9], writes [9, 32, 33, 34, 35, 36, 37, 38, 39, 40, 41, 42, 43, 44, 45, 46, 47, 48, 49, 50, 51, 52, 53, 54, 55, 56]) -/
def s14 (X : CallT) (a0 a1 a2 : Value) (h : AH) (K : Value → AH → Prop) : Prop :=
  newR none [(.string (bs [])), (.slice none 0 0)] h fun v6 h_1 =>
  optW (bldSl 1 [(.string (bs []))] 5 [(0, (.string (bs [97]))), (1, (.string (bs [98, 98]))), (2, (.string (bs [99]))), (3, (.string (bs [122, 122, 122, 122, 122, 122, 122, 122]))), (4, (.string (bs [116, 101, 120, 116, 115])))]) fun c =>
  newW none (.row c true) h_1 fun i h_2 =>
  X 15 [a0, (.int .i64 5)] h_2 fun v12 h_3 =>
  optW (pBin Try.prog .add 3 (.int .i64 1) v12) fun v13 =>
  optW (pSliceSl 1 (.slice (some ⟨i, 0, none⟩) 5 5) none (some v13) none) fun v14 =>
  optW (bld [(.slice none 0 0), (.slice none 0 0), (.int .i64 0)] [(0, 1), (1, 1), (2, 1)] [(0, v14), (1, a1)]) fun v16 =>
  aBox v16 none h_3 fun v17 h_4 =>
  optW (pNilCheck v17) fun v19 =>
  optW (pOff 0 v19) fun v20 =>
  optW (rdRow false 1 v20 (reserve 1 h_4)) fun v21 =>
  optW (pNilCheck v17) fun v24 =>
  optW (pOff 0 v24) fun v25 =>
  optW (rdRow false 1 v25 (reserve 1 h_4)) fun v26 =>
  optW (lenSl v26) fun v27 =>
  X 30 [v17, v27] (reserve 1 h_4) fun v28 h_5 =>
  (∀ x ∈ (ceOf 1 v20), vw x (reserve 1 h_4) = vw x h_5) ∧
  optW (pIdxS 1 v21 v28) fun v29 =>
  optW (rdRow false 1 v29 h_5) fun v30 =>
  optW (bld [(.string (bs [])), (.slice none 0 0)] [(0, 1), (1, 1)] [(0, v30)]) fun v31 =>
  newR (some (h_4.length)) [(.string (bs [])), (.slice none 0 0)] h_5 fun v8 h_6 =>
  optW (pStore 2 v8 v31 h_6) fun h_7 =>
  loopE (fun I e h_8 =>
    optW (pNilCheck (e 7)) fun v34 =>
    optW (pOff 0 v34) fun v35 =>
    optW (rdRow false 1 v35 h_8) fun v36 =>
    optW (lenSl v36) fun v37 =>
    optW (pBin Try.prog .lss 3 (e 9) v37) fun v38 =>
    condW v38 (
      optW (pOff 1 (e 8)) fun v41 =>
      optW (rdRow false 1 v41 (reserve 1 h_8)) fun v42 =>
      optW (pNilCheck (e 7)) fun v44 =>
      optW (pOff 0 v44) fun v45 =>
      optW (rdRow false 1 v45 (reserve 1 h_8)) fun v46 =>
      optW (pIdxS 1 v46 (e 9)) fun v48 =>
      optW (rdRow false 1 v48 (reserve 1 h_8)) fun v49 =>
      X 31 [(e 7), (e 2)] (reserve 1 h_8) fun v52 h_9 =>
      (∀ x ∈ (ceOf 1 v48), vw x (reserve 1 h_8) = vw x h_9) ∧
      (∀ x ∈ (ceOf 1 v45), vw x (reserve 1 h_8) = vw x h_9) ∧
      (∀ x ∈ (ceOf 1 v41), vw x (reserve 1 h_8) = vw x h_9) ∧
      optW (bld [(.string (bs [])), (.int .i64 0), (.string (bs [])), (.slice none 0 0)] [(0, 1), (1, 3)] [(0, v49), (1, v52)]) fun v53 =>
      optW (bldSl 4 [(.string (bs [])), (.int .i64 0), (.string (bs [])), (.slice none 0 0)] 1 [(0, v53)]) fun c_1 =>
      newW (some (h_8.length)) (.row c_1 true) h_9 fun i_1 h_10 =>
      appSl 4 v42 (.slice (some ⟨i_1, 0, none⟩) 1 1) h_10 fun v55 h_11 =>
      optW (pOff 1 (e 8)) fun v56 =>
      optW (pStore 1 v56 v55 h_11) fun h_12 =>
      optW (pBin Try.prog .add 3 (e 9) (.int .i64 1)) fun v40 =>
      I (pt (pt (pt (pt (pt (pt (pt (pt (pt (pt (pt (pt (pt (pt (pt (pt (pt (pt (pt (pt (pt (pt (pt (pt (pt (pt e 32 (e 9)) 33 (e 7)) 34 v34) 35 v35) 36 v36) 37 v37) 38 v38) 41 v41) 42 v42) 43 (e 7)) 44 v44) 45 v45) 46 v46) 47 (e 9)) 48 v48) 49 v49) 50 (e 7)) 51 (e 2)) 52 v52) 53 v53) 54 (.slice (some ⟨i_1, 0, none⟩) 1 1)) 55 v55) 56 v56) 39 (e 9)) 40 v40) 9 v40) h_12
    ) (
      optW (rdRow true 2 (e 8) h_8) fun v57 =>
      optW (pStore 2 (e 6) v57 h_8) fun h_13 =>
      optW (resList Try.prog (pt (pt (pt (pt (pt (pt (pt (pt e 32 (e 9)) 33 (e 7)) 34 v34) 35 v35) 36 v36) 37 v37) 38 v38) 57 v57) h_13 Try.f14.results.toList) fun vs => K (resOf vs) h_13))
  (pt (pt (pt (pt (pt (pt (pt (pt (pt (pt (pt (pt (pt (pt (pt (pt (pt (pt (pt (pt (pt (pt (pt (pt (pt (pt (envOf [a0, a1, a2]) 6 v6) 10 (.slice (some ⟨i, 0, none⟩) 5 5)) 11 a0) 12 v12) 13 v13) 14 v14) 15 a1) 16 v16) 17 v17) 7 v17) 18 v17) 19 v19) 20 v20) 21 v21) 22 v17) 23 v17) 24 v24) 25 v25) 26 v26) 27 v27) 28 v28) 29 v29) 30 v30) 31 v31) 8 v8) 9 (.int .i64 0)) h_7
theorem e14 (X : CallT) (a0 a1 a2 : Value) (h : AH) (K : Value → AH → Prop) : cwp2 Try.prog X (Try.f14.body.getD .skip) (endW Try.prog Try.f14 K) (envOf [a0, a1, a2]) h = s14 X a0 a1 a2 h K := by kernel_rfl
theorem c14 {a0 a1 a2 : Value} {h : AH} {K : Value → AH → Prop} (hs : s14 (callW Try.prog) a0 a1 a2 h K) : callW Try.prog 14 [a0, a1, a2] h K := callW_of Try.func14 (by kernel_rfl) (Eq.mpr (e14 _ a0 a1 a2 _ _) hs)

/-- canopy/canopylaw8.within () -/
def s15 (X : CallT) (a0 a1 : Value) (h : AH) (K : Value → AH → Prop) : Prop :=
  optW (pBin Try.prog .rem 3 a0 a1) fun v8 =>
  optW (pBin Try.prog .lss 3 v8 (.int .i64 0)) fun v10 =>
  condW v10 (
    optW (pBin Try.prog .add 3 v8 a1) fun v13 =>
    K v13 h
  ) (
    K v8 h)
theorem e15 (X : CallT) (a0 a1 : Value) (h : AH) (K : Value → AH → Prop) : cwp2 Try.prog X (Try.f15.body.getD .skip) (endW Try.prog Try.f15 K) (envOf [a0, a1]) h = s15 X a0 a1 h K := by kernel_rfl
theorem c15 {a0 a1 : Value} {h : AH} {K : Value → AH → Prop} (hs : s15 (callW Try.prog) a0 a1 h K) : callW Try.prog 15 [a0, a1] h K := callW_of Try.func15 (by kernel_rfl) (Eq.mpr (e15 _ a0 a1 _ _) hs)

/-- canopy/schema.Parse (J at e: live [2, 5, 6]; J_1 at e_1: live [2, 5, 6]; I at e_2: live [5, 6], writes [50, 51, 52, 53, 54, 55, 56, 57, 58, 59, 60, 61]; I_1 at e_3: live [2, 6, 87, 88, 89], writes [3, 4, 8, 89, 90, 91, 92, 93, 94, 95, 96, 97, 98, 99]; I_2 at e_4: live [2, 6, 87, 88, 89], writes [3, 4, 8, 89, 90, 91, 92, 93, 94, 95, 96, 97, 98, 99]) -/
def s17 (X : CallT) (a0 : Value) (h : AH) (K : Value → AH → Prop) : Prop :=
  newR none [(.string (bs [])), (.slice none 0 0)] h fun v2 h_1 =>
  optW (lenStr a0) fun v10 =>
  optW (pBin Try.prog .gtr 3 v10 (.int .i64 2000)) fun v11 =>
  condW v11 (
    optW (bld [(.string (bs [])), (.slice none 0 0)] [(0, 1), (1, 1)] []) fun v12 =>
    optW (pStore 2 v2 v12 h_1) fun h_2 =>
    optW (resList Try.prog (pt (pt (pt (pt (pt (pt (pt (pt (pt (envOf [a0]) 2 v2) 3 (.int .i64 0)) 4 (.int .i64 0)) 9 a0) 10 v10) 11 v11) 12 v12) 3 (.int .i64 0)) 4 (.int .i64 2)) h_2 Try.f17.results.toList) fun vs => K (resOf vs) h_2
  ) (
    optW (bld [(.string (bs [])), (.int .i64 0), (.int .i64 0), (.string (bs [])), (.int .u8 0), (.int .i64 0), (.int .i64 0), (.int .i64 0), (.slice none 0 0)] [(0, 1), (1, 1), (2, 1), (3, 2), (5, 1), (6, 1), (7, 1), (8, 1)] [(0, a0)]) fun v14 =>
    aBox v14 none h_1 fun v15 h_3 =>
    newR none [(.string (bs [])), (.slice none 0 0)] h_3 fun v6 h_4 =>
    X 32 [v15] h_4 fun v17 h_5 =>
    optW (bld [(.string (bs [])), (.int .u8 0)] [(0, 1), (1, 1)] [(0, (.string (bs [114, 111, 111, 116])))]) fun v19 =>
    X 33 [v15, v19] h_5 fun v20 h_6 =>
    joinE (fun J =>
      optW (pNilCheck v15) fun v22 =>
      optW (pOff 6 v22) fun v23 =>
      optW (rdRow false 1 v23 h_6) fun v24 =>
      optW (pBin Try.prog .eql 32 v24 (.int .i64 0)) fun v25 =>
      condW v25 (
        X 34 [v15] h_6 fun v27 h_35 =>
        optW (pOff 0 v6) fun v28 =>
        optW (pStore 1 v28 v27 h_35) fun h_36 =>
        J (pt (pt (pt (pt (pt (pt (pt (pt (pt (pt (pt (pt (pt (pt (pt (pt (pt (pt (pt (pt (pt (pt (pt (pt (envOf [a0]) 2 v2) 3 (.int .i64 0)) 4 (.int .i64 0)) 9 a0) 10 v10) 11 v11) 13 a0) 14 v14) 15 v15) 5 v15) 6 v6) 16 v15) 17 v17) 18 v15) 19 v19) 20 v20) 21 v15) 22 v22) 23 v23) 24 v24) 25 v25) 26 v15) 27 v27) 28 v28) h_36
      ) (
        J (pt (pt (pt (pt (pt (pt (pt (pt (pt (pt (pt (pt (pt (pt (pt (pt (pt (pt (pt (pt (pt (envOf [a0]) 2 v2) 3 (.int .i64 0)) 4 (.int .i64 0)) 9 a0) 10 v10) 11 v11) 13 a0) 14 v14) 15 v15) 5 v15) 6 v6) 16 v15) 17 v17) 18 v15) 19 v19) 20 v20) 21 v15) 22 v22) 23 v23) 24 v24) 25 v25) h_6))
    (fun e h_7 =>
      joinE (fun J_1 =>
        optW (pNilCheck (e 5)) fun v30 =>
        optW (pOff 6 v30) fun v31 =>
        optW (rdRow false 1 v31 h_7) fun v32 =>
        optW (pBin Try.prog .eql 32 v32 (.int .i64 0)) fun v33 =>
        condW v33 (
          optW (pNilCheck (e 5)) fun v36 =>
          optW (pOff 8 v36) fun v37 =>
          optW (rdRow false 1 v37 (reserve 1 h_7)) fun v38 =>
          optW (pOff 0 (e 6)) fun v39 =>
          optW (rdRow false 1 v39 (reserve 1 h_7)) fun v40 =>
          optW (bldSl 1 [(.string (bs []))] 1 [(0, v40)]) fun c_1 =>
          newW (some (h_7.length)) (.row c_1 true) (reserve 1 h_7) fun i_1 h_31 =>
          appSl 1 v38 (.slice (some ⟨i_1, 0, none⟩) 1 1) h_31 fun v42 h_32 =>
          optW (pNilCheck (e 5)) fun v43 =>
          optW (pOff 8 v43) fun v44 =>
          optW (pStore 1 v44 v42 h_32) fun h_33 =>
          X 32 [(e 5)] h_33 fun v46 h_34 =>
          J_1 (pt (pt (pt (pt (pt (pt (pt (pt (pt (pt (pt (pt (pt (pt (pt (pt (pt (pt e 29 (e 5)) 30 v30) 31 v31) 32 v32) 33 v33) 34 (e 5)) 35 (e 5)) 36 v36) 37 v37) 38 v38) 39 v39) 40 v40) 41 (.slice (some ⟨i_1, 0, none⟩) 1 1)) 42 v42) 43 v43) 44 v44) 45 (e 5)) 46 v46) h_34
        ) (
          J_1 (pt (pt (pt (pt (pt e 29 (e 5)) 30 v30) 31 v31) 32 v32) 33 v33) h_7))
      (fun e_1 h_8 =>
        optW (bld [(.string (bs [])), (.int .u8 0)] [(0, 1), (1, 1)] [(1, (.int .u8 59))]) fun v48 =>
        X 33 [(e_1 5), v48] h_8 fun v49 h_9 =>
        loopE (fun I e_2 h_10 =>
          optW (bld [(.string (bs [])), (.int .u8 0)] [(0, 1), (1, 1)] [(0, (.string (bs [101, 108, 101, 109, 101, 110, 116])))]) fun v51 =>
          X 35 [(e_2 5), v51] h_10 fun v52 h_11 =>
          condW v52 (
            optW (pOff 1 (e_2 6)) fun v53 =>
            optW (rdRow false 1 v53 (reserve 1 h_11)) fun v54 =>
            optW (pOff 1 (e_2 6)) fun v56 =>
            optW (rdRow false 1 v56 (reserve 1 h_11)) fun v57 =>
            X 36 [(e_2 5), v57] (reserve 1 h_11) fun v58 h_12 =>
            (∀ x ∈ (ceOf 1 v53), vw x (reserve 1 h_11) = vw x h_12) ∧
            optW (bldSl 4 [(.string (bs [])), (.int .i64 0), (.string (bs [])), (.slice none 0 0)] 1 [(0, v58)]) fun c =>
            newW (some (h_11.length)) (.row c true) h_12 fun i h_13 =>
            appSl 4 v54 (.slice (some ⟨i, 0, none⟩) 1 1) h_13 fun v60 h_14 =>
            optW (pOff 1 (e_2 6)) fun v61 =>
            optW (pStore 1 v61 v60 h_14) fun h_15 =>
            I (pt (pt (pt (pt (pt (pt (pt (pt (pt (pt (pt (pt e_2 50 (e_2 5)) 51 v51) 52 v52) 53 v53) 54 v54) 55 (e_2 5)) 56 v56) 57 v57) 58 v58) 59 (.slice (some ⟨i, 0, none⟩) 1 1)) 60 v60) 61 v61) h_15
          ) (
            optW (pNilCheck (e_2 5)) fun v63 =>
            optW (pOff 3 v63) fun v64 =>
            optW (rdRow true 2 v64 h_11) fun v65 =>
            optW (bld [(.string (bs [])), (.int .u8 0)] [(0, 1), (1, 1)] []) fun v66 =>
            optW (pBin Try.prog .neq 71 v65 v66) fun v67 =>
            condW v67 (
              X 37 [(e_2 5), (.int .i64 1)] h_11 fun v69 h_16 =>
              optW (pNilCheck (e_2 5)) fun v71 =>
              optW (pOff 6 v71) fun v72 =>
              optW (rdRow false 1 v72 h_16) fun v73 =>
              optW (pBin Try.prog .neq 32 v73 (.int .i64 0)) fun v74 =>
              condW v74 (
                optW (bld [(.string (bs [])), (.slice none 0 0)] [(0, 1), (1, 1)] []) fun v75 =>
                optW (pNilCheck (e_2 5)) fun v77 =>
                optW (pOff 7 v77) fun v78 =>
                optW (rdRow false 1 v78 h_16) fun v79 =>
                optW (pNilCheck (e_2 5)) fun v81 =>
                optW (pOff 6 v81) fun v82 =>
                optW (rdRow false 1 v82 h_16) fun v83 =>
                optW (pStore 2 (e_2 2) v75 h_16) fun h_17 =>
                (∀ x ∈ (ceOf 1 v82), vw x h_16 = vw x h_17) ∧
                (∀ x ∈ (ceOf 1 v78), vw x h_16 = vw x h_17) ∧
                optW (resList Try.prog (pt (pt (pt (pt (pt (pt (pt (pt (pt (pt (pt (pt (pt (pt (pt (pt (pt (pt (pt (pt (pt (pt (pt (pt (pt (pt (pt e_2 50 (e_2 5)) 51 v51) 52 v52) 62 (e_2 5)) 63 v63) 64 v64) 65 v65) 66 v66) 67 v67) 68 (e_2 5)) 69 v69) 70 (e_2 5)) 71 v71) 72 v72) 73 v73) 74 v74) 75 v75) 76 (e_2 5)) 77 v77) 78 v78) 79 v79) 80 (e_2 5)) 81 v81) 82 v82) 83 v83) 3 v79) 4 v83) h_17 Try.f17.results.toList) fun vs => K (resOf vs) h_17
              ) (
                optW (pNilCheck (e_2 5)) fun v85 =>
                optW (pOff 8 v85) fun v86 =>
                optW (rdRow false 1 v86 h_16) fun v87 =>
                optW (lenSl v87) fun v88 =>
                loopE (fun I_1 e_3 h_18 =>
                  optW (pBin Try.prog .lss 3 (e_3 89) (e_3 88)) fun v90 =>
                  condW v90 (
                    optW (pIdxS 1 (e_3 87) (e_3 89)) fun v91 =>
                    optW (rdRow false 1 v91 h_18) fun v92 =>
                    optW (pOff 1 (e_3 6)) fun v93 =>
                    optW (rdRow false 1 v93 h_18) fun v94 =>
                    X 38 [v94, v92] h_18 fun v96 h_19 =>
                    optW (pUn .not v96) fun v97 =>
                    condW v97 (
                      optW (bld [(.string (bs [])), (.slice none 0 0)] [(0, 1), (1, 1)] []) fun v98 =>
                      optW (pStore 2 (e_3 2) v98 h_19) fun h_20 =>
                      optW (resList Try.prog (pt (pt (pt (pt (pt (pt (pt (pt (pt (pt (pt (pt e_3 90 v90) 91 v91) 92 v92) 8 v92) 93 v93) 94 v94) 95 v92) 96 v96) 97 v97) 98 v98) 3 (.int .i64 0)) 4 (.int .i64 6)) h_20 Try.f17.results.toList) fun vs => K (resOf vs) h_20
                    ) (
                      optW (pBin Try.prog .add 3 (e_3 89) (.int .i64 1)) fun v99 =>
                      I_1 (pt (pt (pt (pt (pt (pt (pt (pt (pt (pt (pt e_3 90 v90) 91 v91) 92 v92) 8 v92) 93 v93) 94 v94) 95 v92) 96 v96) 97 v97) 99 v99) 89 v99) h_19)
                  ) (
                    optW (pOff 1 (e_3 6)) fun v100 =>
                    optW (rdRow false 1 v100 h_18) fun v101 =>
                    X 39 [v101] h_18 fun v102 h_21 =>
                    optW (pOff 1 (e_3 6)) fun v103 =>
                    optW (pStore 1 v103 v102 h_21) fun h_22 =>
                    optW (rdRow true 2 (e_3 6) h_22) fun v104 =>
                    optW (pStore 2 (e_3 2) v104 h_22) fun h_23 =>
                    optW (resList Try.prog (pt (pt (pt (pt (pt (pt (pt (pt e_3 90 v90) 100 v100) 101 v101) 102 v102) 103 v103) 104 v104) 3 (.int .i64 0)) 4 (.int .i64 0)) h_23 Try.f17.results.toList) fun vs => K (resOf vs) h_23))
                (pt (pt (pt (pt (pt (pt (pt (pt (pt (pt (pt (pt (pt (pt (pt (pt (pt (pt (pt (pt (pt (pt e_2 50 (e_2 5)) 51 v51) 52 v52) 62 (e_2 5)) 63 v63) 64 v64) 65 v65) 66 v66) 67 v67) 68 (e_2 5)) 69 v69) 70 (e_2 5)) 71 v71) 72 v72) 73 v73) 74 v74) 84 (e_2 5)) 85 v85) 86 v86) 87 v87) 88 v88) 89 (.int .i64 0)) h_16)
            ) (
              optW (pNilCheck (e_2 5)) fun v71_1 =>
              optW (pOff 6 v71_1) fun v72_1 =>
              optW (rdRow false 1 v72_1 h_11) fun v73_1 =>
              optW (pBin Try.prog .neq 32 v73_1 (.int .i64 0)) fun v74_1 =>
              condW v74_1 (
                optW (bld [(.string (bs [])), (.slice none 0 0)] [(0, 1), (1, 1)] []) fun v75_1 =>
                optW (pNilCheck (e_2 5)) fun v77_1 =>
                optW (pOff 7 v77_1) fun v78_1 =>
                optW (rdRow false 1 v78_1 h_11) fun v79_1 =>
                optW (pNilCheck (e_2 5)) fun v81_1 =>
                optW (pOff 6 v81_1) fun v82_1 =>
                optW (rdRow false 1 v82_1 h_11) fun v83_1 =>
                optW (pStore 2 (e_2 2) v75_1 h_11) fun h_24 =>
                (∀ x ∈ (ceOf 1 v82_1), vw x h_11 = vw x h_24) ∧
                (∀ x ∈ (ceOf 1 v78_1), vw x h_11 = vw x h_24) ∧
                optW (resList Try.prog (pt (pt (pt (pt (pt (pt (pt (pt (pt (pt (pt (pt (pt (pt (pt (pt (pt (pt (pt (pt (pt (pt (pt (pt (pt e_2 50 (e_2 5)) 51 v51) 52 v52) 62 (e_2 5)) 63 v63) 64 v64) 65 v65) 66 v66) 67 v67) 70 (e_2 5)) 71 v71_1) 72 v72_1) 73 v73_1) 74 v74_1) 75 v75_1) 76 (e_2 5)) 77 v77_1) 78 v78_1) 79 v79_1) 80 (e_2 5)) 81 v81_1) 82 v82_1) 83 v83_1) 3 v79_1) 4 v83_1) h_24 Try.f17.results.toList) fun vs => K (resOf vs) h_24
              ) (
                optW (pNilCheck (e_2 5)) fun v85_1 =>
                optW (pOff 8 v85_1) fun v86_1 =>
                optW (rdRow false 1 v86_1 h_11) fun v87_1 =>
                optW (lenSl v87_1) fun v88_1 =>
                loopE (fun I_2 e_4 h_25 =>
                  optW (pBin Try.prog .lss 3 (e_4 89) (e_4 88)) fun v90_1 =>
                  condW v90_1 (
                    optW (pIdxS 1 (e_4 87) (e_4 89)) fun v91_1 =>
                    optW (rdRow false 1 v91_1 h_25) fun v92_1 =>
                    optW (pOff 1 (e_4 6)) fun v93_1 =>
                    optW (rdRow false 1 v93_1 h_25) fun v94_1 =>
                    X 38 [v94_1, v92_1] h_25 fun v96_1 h_26 =>
                    optW (pUn .not v96_1) fun v97_1 =>
                    condW v97_1 (
                      optW (bld [(.string (bs [])), (.slice none 0 0)] [(0, 1), (1, 1)] []) fun v98_1 =>
                      optW (pStore 2 (e_4 2) v98_1 h_26) fun h_27 =>
                      optW (resList Try.prog (pt (pt (pt (pt (pt (pt (pt (pt (pt (pt (pt (pt e_4 90 v90_1) 91 v91_1) 92 v92_1) 8 v92_1) 93 v93_1) 94 v94_1) 95 v92_1) 96 v96_1) 97 v97_1) 98 v98_1) 3 (.int .i64 0)) 4 (.int .i64 6)) h_27 Try.f17.results.toList) fun vs => K (resOf vs) h_27
                    ) (
                      optW (pBin Try.prog .add 3 (e_4 89) (.int .i64 1)) fun v99_1 =>
                      I_2 (pt (pt (pt (pt (pt (pt (pt (pt (pt (pt (pt e_4 90 v90_1) 91 v91_1) 92 v92_1) 8 v92_1) 93 v93_1) 94 v94_1) 95 v92_1) 96 v96_1) 97 v97_1) 99 v99_1) 89 v99_1) h_26)
                  ) (
                    optW (pOff 1 (e_4 6)) fun v100_1 =>
                    optW (rdRow false 1 v100_1 h_25) fun v101_1 =>
                    X 39 [v101_1] h_25 fun v102_1 h_28 =>
                    optW (pOff 1 (e_4 6)) fun v103_1 =>
                    optW (pStore 1 v103_1 v102_1 h_28) fun h_29 =>
                    optW (rdRow true 2 (e_4 6) h_29) fun v104_1 =>
                    optW (pStore 2 (e_4 2) v104_1 h_29) fun h_30 =>
                    optW (resList Try.prog (pt (pt (pt (pt (pt (pt (pt (pt e_4 90 v90_1) 100 v100_1) 101 v101_1) 102 v102_1) 103 v103_1) 104 v104_1) 3 (.int .i64 0)) 4 (.int .i64 0)) h_30 Try.f17.results.toList) fun vs => K (resOf vs) h_30))
                (pt (pt (pt (pt (pt (pt (pt (pt (pt (pt (pt (pt (pt (pt (pt (pt (pt (pt (pt (pt e_2 50 (e_2 5)) 51 v51) 52 v52) 62 (e_2 5)) 63 v63) 64 v64) 65 v65) 66 v66) 67 v67) 70 (e_2 5)) 71 v71_1) 72 v72_1) 73 v73_1) 74 v74_1) 84 (e_2 5)) 85 v85_1) 86 v86_1) 87 v87_1) 88 v88_1) 89 (.int .i64 0)) h_11))))
        (pt (pt (pt e_1 47 (e_1 5)) 48 v48) 49 v49) h_9)))
theorem e17 (X : CallT) (a0 : Value) (h : AH) (K : Value → AH → Prop) : cwp2 Try.prog X (Try.f17.body.getD .skip) (endW Try.prog Try.f17 K) (envOf [a0]) h = s17 X a0 h K := by kernel_rfl
theorem c17 {a0 : Value} {h : AH} {K : Value → AH → Prop} (hs : s17 (callW Try.prog) a0 h K) : callW Try.prog 17 [a0] h K := callW_of Try.func17 (by kernel_rfl) (Eq.mpr (e17 _ a0 _ _) hs)

end Go.Proofs.Ytlenlhlipmkeeaa.W
end

section
/- Go functions, printed by a program as predicates on what may come behind; each is the function. Conditions: none. -/
namespace Go.Proofs.Ytlenlhlipmkeeaa.W
open Go Go.AM
set_option linter.unusedVariables false
set_option maxRecDepth 100000


/-- canopy/canopyref8.Find (I at e: live [1, 2, 5], writes [4, 5, 6, 7, 8, 9, 10, 11, 12, 13, 14, 15, 16, 17, 18, 19, 20, 21]) -/
def s44 (X : CallT) (a0 a1 : Value) (h : AH) (K : Value → AH → Prop) : Prop :=
  aBox a0 none h fun v2 h_1 =>
  loopE (fun I e h_2 =>
    optW (pOff 1 (e 2)) fun v7 =>
    optW (rdRow false 1 v7 h_2) fun v8 =>
    optW (lenSl v8) fun v9 =>
    optW (pBin Try.prog .lss 3 (e 5) v9) fun v10 =>
    condW v10 (
      optW (pOff 1 (e 2)) fun v13 =>
      optW (rdRow false 1 v13 h_2) fun v14 =>
      optW (pIdxS 4 v14 (e 5)) fun v16 =>
      optW (pOff 0 v16) fun v17 =>
      optW (rdRow false 1 v17 h_2) fun v18 =>
      optW (pBin Try.prog .eql 9 v18 (e 1)) fun v20 =>
      condW v20 (
        K (e 5) h_2
      ) (
        optW (pBin Try.prog .add 3 (e 5) (.int .i64 1)) fun v12 =>
        I (pt (pt (pt (pt (pt (pt (pt (pt (pt (pt (pt (pt (pt (pt (pt (pt e 6 (e 5)) 7 v7) 8 v8) 9 v9) 10 v10) 13 v13) 14 v14) 15 (e 5)) 16 v16) 17 v17) 18 v18) 19 (e 1)) 20 v20) 11 (e 5)) 12 v12) 5 v12) h_2)
    ) (
      K (.int .i64 (-1)) h_2))
  (pt (pt (pt (envOf [a0, a1]) 2 v2) 4 (.int .i64 0)) 5 (.int .i64 0)) h_1
theorem e44 (X : CallT) (a0 a1 : Value) (h : AH) (K : Value → AH → Prop) : cwp2 Try.prog X (Try.f44.body.getD .skip) (endW Try.prog Try.f44 K) (envOf [a0, a1]) h = s44 X a0 a1 h K := by kernel_rfl
theorem c44 {a0 a1 : Value} {h : AH} {K : Value → AH → Prop} (hs : s44 (callW Try.prog) a0 a1 h K) : callW Try.prog 44 [a0, a1] h K := callW_of Try.func44 (by kernel_rfl) (Eq.mpr (e44 _ a0 a1 _ _) hs)

/-- canopy/canopyref8.One (I at e: live [2, 3, 5], writes [4, 5, 27, 28, 29, 30, 31, 32, 33, 34, 35, 36, 37, 38, 39, 40, 41, 42, 43, 44, 45]) -/
def s46 (X : CallT) (a0 a1 : Value) (h : AH) (K : Value → AH → Prop) : Prop :=
  aBox a0 none h fun v2 h_1 =>
  aBox a1 none h_1 fun v3 h_2 =>
  optW (pOff 0 v2) fun v6 =>
  optW (rdRow false 1 v6 h_2) fun v7 =>
  optW (pOff 0 v3) fun v8 =>
  optW (rdRow false 1 v8 h_2) fun v9 =>
  optW (pBin Try.prog .neq 3 v7 v9) fun v10 =>
  gopW (gB v10 false) (fun k =>
    optW (pOff 1 v2) fun v12_1 =>
    k v12_1 h_2) h_2 fun v12 h_3 =>
  gopW (gB v10 false) (fun k_1 =>
    optW (rdRow false 1 v12 h_3) fun v13_1 =>
    k_1 v13_1 h_3) h_3 fun v13 h_4 =>
  gopW (gB v10 false) (fun k_2 =>
    optW (pOff 1 v3) fun v14_1 =>
    k_2 v14_1 h_4) h_4 fun v14 h_5 =>
  gopW (gB v10 false) (fun k_3 =>
    optW (rdRow false 1 v14 h_5) fun v15_1 =>
    k_3 v15_1 h_5) h_5 fun v15 h_6 =>
  gopW (gB v10 false) (fun k_4 =>
    optW (pBin Try.prog .neq 9 v13 v15) fun v16_1 =>
    k_4 v16_1 h_6) h_6 fun v16 h_7 =>
  optW (pPick v10 (.bool true) v16) fun v17 =>
  gopW (gB v17 false) (fun k_5 =>
    optW (pOff 2 v2) fun v19_1 =>
    k_5 v19_1 h_7) h_7 fun v19 h_8 =>
  gopW (gB v17 false) (fun k_6 =>
    optW (rdRow false 1 v19 h_8) fun v20_1 =>
    k_6 v20_1 h_8) h_8 fun v20 h_9 =>
  gopW (gB v17 false) (fun k_7 =>
    optW (lenSl v20) fun v21_1 =>
    k_7 v21_1 h_9) h_9 fun v21 h_10 =>
  gopW (gB v17 false) (fun k_8 =>
    optW (pOff 2 v3) fun v22_1 =>
    k_8 v22_1 h_10) h_10 fun v22 h_11 =>
  gopW (gB v17 false) (fun k_9 =>
    optW (rdRow false 1 v22 h_11) fun v23_1 =>
    k_9 v23_1 h_11) h_11 fun v23 h_12 =>
  gopW (gB v17 false) (fun k_10 =>
    optW (lenSl v23) fun v24_1 =>
    k_10 v24_1 h_12) h_12 fun v24 h_13 =>
  gopW (gB v17 false) (fun k_11 =>
    optW (pBin Try.prog .neq 3 v21 v24) fun v25_1 =>
    k_11 v25_1 h_13) h_13 fun v25 h_14 =>
  optW (pPick v17 (.bool true) v25) fun v26 =>
  condW v26 (
    K (.bool false) h_14
  ) (
    loopE (fun I e h_15 =>
      optW (pOff 2 (e 2)) fun v28 =>
      optW (rdRow false 1 v28 h_15) fun v29 =>
      optW (lenSl v29) fun v30 =>
      optW (pBin Try.prog .lss 3 (e 5) v30) fun v31 =>
      condW v31 (
        optW (pOff 2 (e 2)) fun v34 =>
        optW (rdRow false 1 v34 h_15) fun v35 =>
        optW (pIdxS 3 v35 (e 5)) fun v37 =>
        optW (rdRow true 3 v37 h_15) fun v38 =>
        optW (pOff 2 (e 3)) fun v39 =>
        optW (rdRow false 1 v39 h_15) fun v40 =>
        optW (pIdxS 3 v40 (e 5)) fun v42 =>
        optW (rdRow true 3 v42 h_15) fun v43 =>
        X 46 [v38, v43] h_15 fun v44 h_16 =>
        optW (pUn .not v44) fun v45 =>
        condW v45 (
          K (.bool false) h_16
        ) (
          optW (pBin Try.prog .add 3 (e 5) (.int .i64 1)) fun v33 =>
          I (pt (pt (pt (pt (pt (pt (pt (pt (pt (pt (pt (pt (pt (pt (pt (pt (pt (pt (pt (pt e 27 (e 5)) 28 v28) 29 v29) 30 v30) 31 v31) 34 v34) 35 v35) 36 (e 5)) 37 v37) 38 v38) 39 v39) 40 v40) 41 (e 5)) 42 v42) 43 v43) 44 v44) 45 v45) 32 (e 5)) 33 v33) 5 v33) h_16)
      ) (
        K (.bool true) h_15))
    (pt (pt (pt (pt (pt (pt (pt (pt (pt (pt (pt (pt (pt (pt (pt (pt (pt (pt (pt (pt (pt (pt (pt (pt (pt (envOf [a0, a1]) 2 v2) 3 v3) 4 (.bool false)) 6 v6) 7 v7) 8 v8) 9 v9) 10 v10) 11 v10) 12 v12) 13 v13) 14 v14) 15 v15) 16 v16) 17 v17) 18 v17) 19 v19) 20 v20) 21 v21) 22 v22) 23 v23) 24 v24) 25 v25) 26 v26) 5 (.int .i64 0)) h_14)
theorem e46 (X : CallT) (a0 a1 : Value) (h : AH) (K : Value → AH → Prop) : cwp2 Try.prog X (Try.f46.body.getD .skip) (endW Try.prog Try.f46 K) (envOf [a0, a1]) h = s46 X a0 a1 h K := by kernel_rfl
theorem c46 {a0 a1 : Value} {h : AH} {K : Value → AH → Prop} (hs : s46 (callW Try.prog) a0 a1 h K) : callW Try.prog 46 [a0, a1] h K := callW_of Try.func46 (by kernel_rfl) (Eq.mpr (e46 _ a0 a1 _ _) hs)

/-- (*canopy/schema.reader).element (I at e: live [0, 1, 7, 43, 44, 45], writes [8, 9, 45, 46, 47, 48, 49, 50, 51, 52, 53, 54, 55, 56, 57, 58, 59, 60, 61, 62, 63, 64, 65, 66, 67, 68, 69, 70, 71, 72, 73, 74, 75, 76, 77]) -/
def s48 (X : CallT) (a0 a1 a2 : Value) (h : AH) (K : Value → AH → Prop) : Prop :=
  X 66 [a0] h fun v11 h_1 =>
  optW (pNilCheck a0) fun v14 =>
  optW (pOff 2 v14) fun v15 =>
  optW (rdRow false 1 v15 h_1) fun v16 =>
  optW (lenSl v16) fun v17 =>
  optW (pBin Try.prog .geq 3 a2 v17) fun v18 =>
  gopW (gB v18 false) (fun k =>
    k a0 h_1) h_1 fun v20 h_2 =>
  gopW (gB v18 false) (fun k_1 =>
    optW (pNilCheck v20) fun v21_1 =>
    k_1 v21_1 h_2) h_2 fun v21 h_3 =>
  gopW (gB v18 false) (fun k_2 =>
    optW (pOff 2 v21) fun v22_1 =>
    k_2 v22_1 h_3) h_3 fun v22 h_4 =>
  gopW (gB v18 false) (fun k_3 =>
    optW (rdRow false 1 v22 h_4) fun v23_1 =>
    k_3 v23_1 h_4) h_4 fun v23 h_5 =>
  gopW (gB v18 false) (fun k_4 =>
    k_4 a2 h_5) h_5 fun v24 h_6 =>
  gopW (gB v18 false) (fun k_5 =>
    optW (pIdxS 1 v23 v24) fun v25_1 =>
    k_5 v25_1 h_6) h_6 fun v25 h_7 =>
  gopW (gB v18 false) (fun k_6 =>
    optW (rdRow false 1 v25 h_7) fun v26_1 =>
    k_6 v26_1 h_7) h_7 fun v26 h_8 =>
  gopW (gB v18 false) (fun k_7 =>
    k_7 a1 h_8) h_8 fun v27 h_9 =>
  gopW (gB v18 false) (fun k_8 =>
    optW (pBin Try.prog .mul 3 (.int .i64 2) v27) fun v28_1 =>
    k_8 v28_1 h_9) h_9 fun v28 h_10 =>
  gopW (gB v18 false) (fun k_9 =>
    optW (pBin Try.prog .neq 3 v26 v28) fun v29_1 =>
    k_9 v29_1 h_10) h_10 fun v29 h_11 =>
  optW (pPick v18 (.bool true) v29) fun v30 =>
  condW v30 (
    K v11 h_11
  ) (
    optW (pNilCheck a0) fun v34 =>
    optW (pOff 0 v34) fun v35 =>
    optW (pOff 1 v35) fun v36 =>
    optW (rdRow false 1 v36 h_11) fun v37 =>
    optW (pIdxS 4 v37 a1) fun v39 =>
    optW (pOff 1 v39) fun v40 =>
    optW (pBin Try.prog .add 3 a2 (.int .i64 1)) fun v42 =>
    X 67 [a0, v40, v42] h_11 fun v43 h_12 =>
    optW (lenSl v43) fun v44 =>
    loopE (fun I e h_13 =>
      optW (pBin Try.prog .lss 3 (e 45) (e 44)) fun v46 =>
      condW v46 (
        optW (pIdxS 1 (e 43) (e 45)) fun v48 =>
        optW (rdRow false 1 v48 h_13) fun v49 =>
        gopW (gB v49 true) (fun k_10 =>
          k_10 (e 45) h_13) h_13 fun v52 h_14 =>
        gopW (gB v49 true) (fun k_11 =>
          k_11 (e 0) h_14) h_14 fun v53 h_15 =>
        gopW (gB v49 true) (fun k_12 =>
          optW (pNilCheck v53) fun v54_1 =>
          k_12 v54_1 h_15) h_15 fun v54 h_16 =>
        gopW (gB v49 true) (fun k_13 =>
          optW (pOff 2 v54) fun v55_1 =>
          k_13 v55_1 h_16) h_16 fun v55 h_17 =>
        gopW (gB v49 true) (fun k_14 =>
          optW (rdRow false 1 v55 h_17) fun v56_1 =>
          k_14 v56_1 h_17) h_17 fun v56 h_18 =>
        gopW (gB v49 true) (fun k_15 =>
          optW (lenSl v56) fun v57_1 =>
          k_15 v57_1 h_18) h_18 fun v57 h_19 =>
        gopW (gB v49 true) (fun k_16 =>
          optW (pBin Try.prog .lss 3 v52 v57) fun v58_1 =>
          k_16 v58_1 h_19) h_19 fun v58 h_20 =>
        optW (pPick v49 v58 (.bool false)) fun v59 =>
        gopW (gB v59 true) (fun k_17 =>
          k_17 (e 0) h_20) h_20 fun v61 h_21 =>
        gopW (gB v59 true) (fun k_18 =>
          optW (pNilCheck v61) fun v62_1 =>
          k_18 v62_1 h_21) h_21 fun v62 h_22 =>
        gopW (gB v59 true) (fun k_19 =>
          optW (pOff 2 v62) fun v63_1 =>
          k_19 v63_1 h_22) h_22 fun v63 h_23 =>
        gopW (gB v59 true) (fun k_20 =>
          optW (rdRow false 1 v63 h_23) fun v64_1 =>
          k_20 v64_1 h_23) h_23 fun v64 h_24 =>
        gopW (gB v59 true) (fun k_21 =>
          k_21 (e 45) h_24) h_24 fun v65 h_25 =>
        gopW (gB v59 true) (fun k_22 =>
          optW (pIdxS 1 v64 v65) fun v66_1 =>
          k_22 v66_1 h_25) h_25 fun v66 h_26 =>
        gopW (gB v59 true) (fun k_23 =>
          optW (rdRow false 1 v66 h_26) fun v67_1 =>
          k_23 v67_1 h_26) h_26 fun v67 h_27 =>
        gopW (gB v59 true) (fun k_24 =>
          k_24 (e 1) h_27) h_27 fun v68 h_28 =>
        gopW (gB v59 true) (fun k_25 =>
          optW (pBin Try.prog .mul 3 (.int .i64 2) v68) fun v69_1 =>
          k_25 v69_1 h_28) h_28 fun v69 h_29 =>
        gopW (gB v59 true) (fun k_26 =>
          optW (pBin Try.prog .add 3 v69 (.int .i64 1)) fun v70_1 =>
          k_26 v70_1 h_29) h_29 fun v70 h_30 =>
        gopW (gB v59 true) (fun k_27 =>
          optW (pBin Try.prog .eql 3 v67 v70) fun v71_1 =>
          k_27 v71_1 h_30) h_30 fun v71 h_31 =>
        optW (pPick v59 v71 (.bool false)) fun v72 =>
        condW v72 (
          optW (pBin Try.prog .add 3 (e 45) (.int .i64 1)) fun v75 =>
          optW (pIdxS 1 (e 7) v75) fun v76 =>
          optW (pStore 1 v76 (.bool true) h_31) fun h_32 =>
          optW (pBin Try.prog .add 3 (e 45) (.int .i64 1)) fun v77 =>
          I (pt (pt (pt (pt (pt (pt (pt (pt (pt (pt (pt (pt (pt (pt (pt (pt (pt (pt (pt (pt (pt (pt (pt (pt (pt (pt (pt (pt (pt (pt (pt (pt (pt (pt (pt e 46 v46) 47 (e 45)) 48 v48) 49 v49) 8 (e 45)) 9 v49) 50 v49) 51 v49) 52 v52) 53 v53) 54 v54) 55 v55) 56 v56) 57 v57) 58 v58) 59 v59) 60 v59) 61 v61) 62 v62) 63 v63) 64 v64) 65 v65) 66 v66) 67 v67) 68 v68) 69 v69) 70 v70) 71 v71) 72 v72) 73 (e 7)) 74 (e 45)) 75 v75) 76 v76) 77 v77) 45 v77) h_32
        ) (
          optW (pBin Try.prog .add 3 (e 45) (.int .i64 1)) fun v77_1 =>
          I (pt (pt (pt (pt (pt (pt (pt (pt (pt (pt (pt (pt (pt (pt (pt (pt (pt (pt (pt (pt (pt (pt (pt (pt (pt (pt (pt (pt (pt (pt (pt e 46 v46) 47 (e 45)) 48 v48) 49 v49) 8 (e 45)) 9 v49) 50 v49) 51 v49) 52 v52) 53 v53) 54 v54) 55 v55) 56 v56) 57 v57) 58 v58) 59 v59) 60 v59) 61 v61) 62 v62) 63 v63) 64 v64) 65 v65) 66 v66) 67 v67) 68 v68) 69 v69) 70 v70) 71 v71) 72 v72) 77 v77_1) 45 v77_1) h_31)
      ) (
        K (e 7) h_13))
    (pt (pt (pt (pt (pt (pt (pt (pt (pt (pt (pt (pt (pt (pt (pt (pt (pt (pt (pt (pt (pt (pt (pt (pt (pt (pt (pt (pt (pt (pt (pt (pt (pt (pt (pt (pt (pt (envOf [a0, a1, a2]) 6 (.slice none 0 0)) 10 a0) 11 v11) 7 v11) 12 a2) 13 a0) 14 v14) 15 v15) 16 v16) 17 v17) 18 v18) 19 v18) 20 v20) 21 v21) 22 v22) 23 v23) 24 v24) 25 v25) 26 v26) 27 v27) 28 v28) 29 v29) 30 v30) 32 a0) 33 a0) 34 v34) 35 v35) 36 v36) 37 v37) 38 a1) 39 v39) 40 v40) 41 a2) 42 v42) 43 v43) 44 v44) 45 (.int .i64 0)) h_12)
theorem e48 (X : CallT) (a0 a1 a2 : Value) (h : AH) (K : Value → AH → Prop) : cwp2 Try.prog X (Try.f48.body.getD .skip) (endW Try.prog Try.f48 K) (envOf [a0, a1, a2]) h = s48 X a0 a1 a2 h K := by kernel_rfl
theorem c48 {a0 a1 a2 : Value} {h : AH} {K : Value → AH → Prop} (hs : s48 (callW Try.prog) a0 a1 a2 h K) : callW Try.prog 48 [a0, a1, a2] h K := callW_of Try.func48 (by kernel_rfl) (Eq.mpr (e48 _ a0 a1 a2 _ _) hs)

/-- canopy/canopyref8.tree (I at e: live [1, 2, 4, 5, 12, 13], writes [10, 12, 13, 14, 57, 58, 59, 60, 61, 62, 63, 64, 65, 66, 67, 68, 69, 70, 71, 72, 73, 74, 75, 76, 77, 78, 79, 80, 81, 82, 83, 84, 85, 86, 87, 88, 89, 90, 91, 92, 93, 94, 95, 96, 97, 98, 99, 100, 101, 102, 103, 104, 105, 106, 107, 108, 109]) -/
def s49 (X : CallT) (a0 a1 a2 a3 a4 : Value) (h : AH) (K : Value → AH → Prop) : Prop :=
  aBox a0 none h fun v5 h_1 =>
  optW (pIdxS 1 a1 a3) fun v17 =>
  optW (rdRow false 1 v17 h_1) fun v18 =>
  optW (pBin Try.prog .quo 3 v18 (.int .i64 2)) fun v19 =>
  optW (pIdxS 1 a1 a3) fun v22 =>
  optW (rdRow false 1 v22 h_1) fun v23 =>
  optW (pBin Try.prog .rem 3 v23 (.int .i64 2)) fun v24 =>
  optW (pBin Try.prog .neq 3 v24 (.int .i64 0)) fun v25 =>
  gopD (gB v25 false) (fun k =>
    k v19 h_1 [] ((3, (ceOf 1 v22)) :: [])) h_1 [] ((3, (ceOf 1 v22)) :: []) fun v27 h_2 H S =>
  gopD (gB v25 false) (fun k_1 =>
    optW (pOff 1 v5) fun v28_1 =>
    k_1 v28_1 h_2 H S) h_2 H S fun v28 h_3 H_1 S_1 =>
  gopD (gB v25 false) (fun k_2 =>
    histC #[0, 0, 3, 7, 15, 31, 63, 127, 127, 383, 895, 2047, 4095, 8191, 16383, 16383, 65535, 131071, 16383, 278527, 1048575, 2097151, 4194303, 8388607, 8388607, 25165823, 67108863, 134217727, 8388607, 8388607, 813694975, 1887436799, 4034920447, 8589934591, 17179869183] 9 (ceOf 1 v28) H_1 (
      optW (rdRow false 1 v28 h_3) fun v29_1 =>
      k_2 v29_1 h_3 H_1 ((9, (ceOf 1 v28)) :: S_1))) h_3 H_1 S_1 fun v29 h_4 H_2 S_2 =>
  gopD (gB v25 false) (fun k_3 =>
    optW (lenSl v29) fun v30_1 =>
    k_3 v30_1 h_4 H_2 S_2) h_4 H_2 S_2 fun v30 h_5 H_3 S_3 =>
  gopD (gB v25 false) (fun k_4 =>
    optW (pBin Try.prog .geq 3 v27 v30) fun v31_1 =>
    k_4 v31_1 h_5 H_3 S_3) h_5 H_3 S_3 fun v31 h_6 H_4 S_4 =>
  optW (pPick v25 (.bool true) v31) fun v32 =>
  gopD (gB v32 false) (fun k_5 =>
    k_5 a2 h_6 H_4 S_4) h_6 H_4 S_4 fun v34 h_7 H_5 S_5 =>
  gopD (gB v32 false) (fun k_6 =>
    k_6 a3 h_7 H_5 S_5) h_7 H_5 S_5 fun v35 h_8 H_6 S_6 =>
  gopD (gB v32 false) (fun k_7 =>
    optW (pIdxS 1 v34 v35) fun v36_1 =>
    k_7 v36_1 h_8 H_6 S_6) h_8 H_6 S_6 fun v36 h_9 H_7 S_7 =>
  gopD (gB v32 false) (fun k_8 =>
    histC #[0, 0, 3, 7, 15, 31, 63, 127, 127, 383, 895, 2047, 4095, 8191, 16383, 16383, 65535, 131071, 16383, 278527, 1048575, 2097151, 4194303, 8388607, 8388607, 25165823, 67108863, 134217727, 8388607, 8388607, 813694975, 1887436799, 4034920447, 8589934591, 17179869183] 17 (ceOf 1 v36) H_7 (
      optW (rdRow false 1 v36 h_9) fun v37_1 =>
      k_8 v37_1 h_9 H_7 ((17, (ceOf 1 v36)) :: S_7))) h_9 H_7 S_7 fun v37 h_10 H_8 S_8 =>
  gopD (gB v32 false) (fun k_9 =>
    k_9 a4 h_10 H_8 S_8) h_10 H_8 S_8 fun v38 h_11 H_9 S_9 =>
  gopD (gB v32 false) (fun k_10 =>
    optW (pBin Try.prog .sub 3 v38 (.int .i64 1)) fun v39_1 =>
    k_10 v39_1 h_11 H_9 S_9) h_11 H_9 S_9 fun v39 h_12 H_10 S_10 =>
  gopD (gB v32 false) (fun k_11 =>
    optW (pBin Try.prog .neq 3 v37 v39) fun v40_1 =>
    k_11 v40_1 h_12 H_10 S_10) h_12 H_10 S_10 fun v40 h_13 H_11 S_11 =>
  optW (pPick v32 (.bool true) v40) fun v41 =>
  gopD (gB v41 false) (fun k_12 =>
    k_12 a1 h_13 H_11 S_11) h_13 H_11 S_11 fun v43 h_14 H_12 S_12 =>
  gopD (gB v41 false) (fun k_13 =>
    k_13 a4 h_14 H_12 S_12) h_14 H_12 S_12 fun v44 h_15 H_13 S_13 =>
  gopD (gB v41 false) (fun k_14 =>
    optW (pBin Try.prog .sub 3 v44 (.int .i64 1)) fun v45_1 =>
    k_14 v45_1 h_15 H_13 S_13) h_15 H_13 S_13 fun v45 h_16 H_14 S_14 =>
  gopD (gB v41 false) (fun k_15 =>
    optW (pIdxS 1 v43 v45) fun v46_1 =>
    k_15 v46_1 h_16 H_14 S_14) h_16 H_14 S_14 fun v46 h_17 H_15 S_15 =>
  gopD (gB v41 false) (fun k_16 =>
    histC #[0, 0, 3, 7, 15, 31, 63, 127, 127, 383, 895, 2047, 4095, 8191, 16383, 16383, 65535, 131071, 16383, 278527, 1048575, 2097151, 4194303, 8388607, 8388607, 25165823, 67108863, 134217727, 8388607, 8388607, 813694975, 1887436799, 4034920447, 8589934591, 17179869183] 27 (ceOf 1 v46) H_15 (
      optW (rdRow false 1 v46 h_17) fun v47_1 =>
      k_16 v47_1 h_17 H_15 ((27, (ceOf 1 v46)) :: S_15))) h_17 H_15 S_15 fun v47 h_18 H_16 S_16 =>
  gopD (gB v41 false) (fun k_17 =>
    k_17 a1 h_18 H_16 S_16) h_18 H_16 S_16 fun v48 h_19 H_17 S_17 =>
  gopD (gB v41 false) (fun k_18 =>
    k_18 a3 h_19 H_17 S_17) h_19 H_17 S_17 fun v49 h_20 H_18 S_18 =>
  gopD (gB v41 false) (fun k_19 =>
    optW (pIdxS 1 v48 v49) fun v50_1 =>
    k_19 v50_1 h_20 H_18 S_18) h_20 H_18 S_18 fun v50 h_21 H_19 S_19 =>
  gopD (gB v41 false) (fun k_20 =>
    histC #[0, 0, 3, 7, 15, 31, 63, 127, 127, 383, 895, 2047, 4095, 8191, 16383, 16383, 65535, 131071, 16383, 278527, 1048575, 2097151, 4194303, 8388607, 8388607, 25165823, 67108863, 134217727, 8388607, 8388607, 813694975, 1887436799, 4034920447, 8589934591, 17179869183] 31 (ceOf 1 v50) H_19 (
      optW (rdRow false 1 v50 h_21) fun v51_1 =>
      k_20 v51_1 h_21 H_19 ((31, (ceOf 1 v50)) :: S_19))) h_21 H_19 S_19 fun v51 h_22 H_20 S_20 =>
  gopD (gB v41 false) (fun k_21 =>
    optW (pBin Try.prog .add 3 v51 (.int .i64 1)) fun v52_1 =>
    k_21 v52_1 h_22 H_20 S_20) h_22 H_20 S_20 fun v52 h_23 H_21 S_21 =>
  gopD (gB v41 false) (fun k_22 =>
    optW (pBin Try.prog .neq 3 v47 v52) fun v53_1 =>
    k_22 v53_1 h_23 H_21 S_21) h_23 H_21 S_21 fun v53 h_24 H_22 S_22 =>
  optW (pPick v41 (.bool true) v53) fun v54 =>
  condW v54 (
    K (.bool false) h_24
  ) (
    optW (pBin Try.prog .add 3 a3 (.int .i64 1)) fun v56 =>
    loopE (fun I e h_25 =>
      optW (pBin Try.prog .sub 3 (e 4) (.int .i64 1)) fun v59 =>
      optW (pBin Try.prog .lss 3 (e 13) v59) fun v60 =>
      condW v60 (
        optW (pIdxS 1 (e 1) (e 13)) fun v63 =>
        optW (rdRow false 1 v63 h_25) fun v64 =>
        optW (pOff 1 (e 5)) fun v65 =>
        optW (rdRow false 1 v65 h_25) fun v66 =>
        optW (lenSl v66) fun v67 =>
        optW (pBin Try.prog .mul 3 (.int .i64 2) v67) fun v68 =>
        optW (pBin Try.prog .eql 3 v64 v68) fun v69 =>
        condW v69 (
          optW (pOff 1 (e 5)) fun v71 =>
          optW (rdRow false 1 v71 h_25) fun v72 =>
          optW (lenSl v72) fun v73 =>
          optW (bldSl 1 [(.int .i64 0)] 1 [(0, v73)]) fun c =>
          newW none (.row c true) h_25 fun i h_26 =>
          appSl 1 (e 12) (.slice (some ⟨i, 0, none⟩) 1 1) h_26 fun v75 h_27 =>
          optW (pBin Try.prog .add 3 (e 13) (.int .i64 1)) fun v77 =>
          I (pt (pt (pt (pt (pt (pt (pt (pt (pt (pt (pt (pt (pt (pt (pt (pt (pt (pt (pt (pt (pt (pt (pt e 57 (e 13)) 58 (e 4)) 59 v59) 60 v60) 61 (e 1)) 62 (e 13)) 63 v63) 64 v64) 65 v65) 66 v66) 67 v67) 68 v68) 69 v69) 70 (e 12)) 71 v71) 72 v72) 73 v73) 74 (.slice (some ⟨i, 0, none⟩) 1 1)) 75 v75) 12 v75) 76 (e 13)) 77 v77) 13 v77) h_27
        ) (
          optW (pIdxS 1 (e 2) (e 13)) fun v80 =>
          optW (rdRow false 1 v80 h_25) fun v81 =>
          optW (pBin Try.prog .add 3 v81 (.int .i64 1)) fun v82 =>
          optW (pBin Try.prog .leq 3 v82 (e 13)) fun v85 =>
          gopW (gB v85 false) (fun k_23 =>
            k_23 v82 h_25) h_25 fun v87 h_28 =>
          gopW (gB v85 false) (fun k_24 =>
            k_24 (e 4) h_28) h_28 fun v88 h_29 =>
          gopW (gB v85 false) (fun k_25 =>
            optW (pBin Try.prog .sub 3 v88 (.int .i64 1)) fun v89_1 =>
            k_25 v89_1 h_29) h_29 fun v89 h_30 =>
          gopW (gB v85 false) (fun k_26 =>
            optW (pBin Try.prog .gtr 3 v87 v89) fun v90_1 =>
            k_26 v90_1 h_30) h_30 fun v90 h_31 =>
          optW (pPick v85 (.bool true) v90) fun v91 =>
          gopW (gB v91 false) (fun k_27 =>
            optW (rdRow true 2 (e 5) h_31) fun v93_1 =>
            k_27 v93_1 h_31) h_31 fun v93 h_32 =>
          gopW (gB v91 false) (fun k_28 =>
            k_28 (e 1) h_32) h_32 fun v94 h_33 =>
          gopW (gB v91 false) (fun k_29 =>
            k_29 (e 2) h_33) h_33 fun v95 h_34 =>
          gopW (gB v91 false) (fun k_30 =>
            k_30 (e 13) h_34) h_34 fun v96 h_35 =>
          gopW (gB v91 false) (fun k_31 =>
            k_31 v82 h_35) h_35 fun v97 h_36 =>
          gopW (gB v91 false) (fun k_32 =>
            X 49 [v93, v94, v95, v96, v97] h_36 fun v98_1 h_38 =>
            k_32 v98_1 h_38) h_36 fun v98 h_37 =>
          gopW (gB v91 false) (fun k_33 =>
            optW (pUn .not v98) fun v99_1 =>
            k_33 v99_1 h_37) h_37 fun v99 h_39 =>
          optW (pPick v91 (.bool true) v99) fun v100 =>
          condW v100 (
            K (.bool false) h_39
          ) (
            optW (pIdxS 1 (e 1) (e 13)) fun v104 =>
            optW (rdRow false 1 v104 h_39) fun v105 =>
            optW (pBin Try.prog .quo 3 v105 (.int .i64 2)) fun v106 =>
            optW (bldSl 1 [(.int .i64 0)] 1 [(0, v106)]) fun c_1 =>
            newW none (.row c_1 true) h_39 fun i_1 h_40 =>
            appSl 1 (e 12) (.slice (some ⟨i_1, 0, none⟩) 1 1) h_40 fun v108 h_41 =>
            I (pt (pt (pt (pt (pt (pt (pt (pt (pt (pt (pt (pt (pt (pt (pt (pt (pt (pt (pt (pt (pt (pt (pt (pt (pt (pt (pt (pt (pt (pt (pt (pt (pt (pt (pt (pt (pt (pt (pt (pt (pt (pt (pt (pt (pt (pt (pt (pt e 57 (e 13)) 58 (e 4)) 59 v59) 60 v60) 61 (e 1)) 62 (e 13)) 63 v63) 64 v64) 65 v65) 66 v66) 67 v67) 68 v68) 69 v69) 78 (e 2)) 79 (e 13)) 80 v80) 81 v81) 82 v82) 14 v82) 83 v82) 84 (e 13)) 85 v85) 86 v85) 87 v87) 88 v88) 89 v89) 90 v90) 91 v91) 92 v91) 93 v93) 94 v94) 95 v95) 96 v96) 97 v97) 98 v98) 99 v99) 100 v100) 101 (e 12)) 102 (e 1)) 103 (e 13)) 104 v104) 105 v105) 106 v106) 107 (.slice (some ⟨i_1, 0, none⟩) 1 1)) 108 v108) 12 v108) 109 v82) 13 v82) h_41))
      ) (
        optW (rdRow true 2 (e 5) h_25) fun v110 =>
        optW (pOff 1 (e 5)) fun v111 =>
        optW (rdRow false 1 v111 h_25) fun v112 =>
        optW (pIdxS 4 v112 (e 11)) fun v114 =>
        optW (pOff 1 v114) fun v115 =>
        optW (rdRow true 3 v115 h_25) fun v116 =>
        X 68 [v110, v116, (e 12)] h_25 fun v118 h_42 =>
        optW (pIdxS 1 v118 (.int .i64 0)) fun v119 =>
        optW (rdRow false 1 v119 h_42) fun v120 =>
        optW (lenSl (e 12)) fun v122 =>
        optW (pIdxS 1 v120 v122) fun v123 =>
        optW (rdRow false 1 v123 h_42) fun v124 =>
        K v124 h_42))
    (pt (pt (pt (pt (pt (pt (pt (pt (pt (pt (pt (pt (pt (pt (pt (pt (pt (pt (pt (pt (pt (pt (pt (pt (pt (pt (pt (pt (pt (pt (pt (pt (pt (pt (pt (pt (pt (pt (pt (pt (pt (pt (pt (pt (pt (pt (pt (envOf [a0, a1, a2, a3, a4]) 5 v5) 10 (.bool false)) 15 a1) 16 a3) 17 v17) 18 v18) 19 v19) 11 v19) 20 a1) 21 a3) 22 v22) 23 v23) 24 v24) 25 v25) 26 v25) 27 v27) 28 v28) 29 v29) 30 v30) 31 v31) 32 v32) 33 v32) 34 v34) 35 v35) 36 v36) 37 v37) 38 v38) 39 v39) 40 v40) 41 v41) 42 v41) 43 v43) 44 v44) 45 v45) 46 v46) 47 v47) 48 v48) 49 v49) 50 v50) 51 v51) 52 v52) 53 v53) 54 v54) 12 (.slice none 0 0)) 55 a3) 56 v56) 13 v56) h_24)
theorem e49 (X : CallT) (a0 a1 a2 a3 a4 : Value) (h : AH) (K : Value → AH → Prop) : cwp2 Try.prog X (Try.f49.body.getD .skip) (endW Try.prog Try.f49 K) (envOf [a0, a1, a2, a3, a4]) h = s49 X a0 a1 a2 a3 a4 h K := by kernel_rfl
theorem c49 {a0 a1 a2 a3 a4 : Value} {h : AH} {K : Value → AH → Prop} (hs : s49 (callW Try.prog) a0 a1 a2 a3 a4 h K) : callW Try.prog 49 [a0, a1, a2, a3, a4] h K := callW_of Try.func49 (by kernel_rfl) (Eq.mpr (e49 _ a0 a1 a2 a3 a4 _ _) hs)

/-- canopy/canopyref1.Match (I at e: live [0, 1, 5, 6, 7], writes [6, 7, 8, 12, 13, 14, 15, 16, 17, 18, 19, 20, 21, 22, 23, 24, 25, 26, 27, 28, 29, 30, 31, 32, 33, 34, 35, 36, 37, 38, 39, 40, 41, 42, 43, 44, 45, 46, 47, 48, 49, 50, 51, 52, 53, 54, 55, 56, 57, 58]) -/
def s50 (X : CallT) (a0 a1 : Value) (h : AH) (K : Value → AH → Prop) : Prop :=
  optW (lenSl a1) fun v10 =>
  optW (mkSl 1 8 [(.int .i64 0)] v10 v10) fun c =>
  newW none (.row c.2.2 true) h fun i h_1 =>
  loopE (fun I e h_2 =>
    optW (lenSl (e 1)) fun v14 =>
    optW (pBin Try.prog .lss 3 (e 7) v14) fun v15 =>
    condW v15 (
      optW (pIdxS 1 (e 5) (e 7)) fun v20 =>
      optW (pStore 1 v20 (.int .i64 (-1)) h_2) fun h_3 =>
      optW (pIdxS 1 (e 1) (e 7)) fun v24 =>
      optW (rdRow false 1 v24 h_3) fun v25 =>
      optW (pIdxS 2 (e 0) v25) fun v26 =>
      optW (pOff 1 v26) fun v27 =>
      optW (rdRow false 1 v27 h_3) fun v28 =>
      optW (pBin Try.prog .eql 3 v28 (.int .i64 1)) fun v30 =>
      condW v30 (
        optW (bldSl 1 [(.int .i64 0)] 1 [(0, (e 7))]) fun c_1 =>
        newW none (.row c_1 true) h_3 fun i_1 h_4 =>
        appSl 1 (e 6) (.slice (some ⟨i_1, 0, none⟩) 1 1) h_4 fun v34 h_5 =>
        optW (pBin Try.prog .add 3 (e 7) (.int .i64 1)) fun v17 =>
        I (pt (pt (pt (pt (pt (pt (pt (pt (pt (pt (pt (pt (pt (pt (pt (pt (pt (pt (pt (pt (pt (pt (pt (pt (pt e 12 (e 7)) 13 (e 1)) 14 v14) 15 v15) 18 (e 5)) 19 (e 7)) 20 v20) 21 (e 0)) 22 (e 1)) 23 (e 7)) 24 v24) 25 v25) 26 v26) 27 v27) 28 v28) 30 v30) 29 v30) 31 (e 6)) 32 (e 7)) 33 (.slice (some ⟨i_1, 0, none⟩) 1 1)) 34 v34) 6 v34) 16 (e 7)) 17 v17) 7 v17) h_5
      ) (
        optW (pBin Try.prog .eql 3 v28 (.int .i64 2)) fun v36 =>
        condW v36 (
          optW (lenSl (e 6)) fun v38 =>
          optW (pBin Try.prog .gtr 3 v38 (.int .i64 0)) fun v39 =>
          condW v39 (
            optW (lenSl (e 6)) fun v42 =>
            optW (pBin Try.prog .sub 3 v42 (.int .i64 1)) fun v43 =>
            optW (pIdxS 1 (e 6) v43) fun v44 =>
            optW (rdRow false 1 v44 h_3) fun v45 =>
            optW (lenSl (e 6)) fun v48 =>
            optW (pBin Try.prog .sub 3 v48 (.int .i64 1)) fun v49 =>
            optW (pSliceSl 1 (e 6) none (some v49) none) fun v50 =>
            optW (pIdxS 1 (e 5) (e 7)) fun v57 =>
            optW (pStore 1 v57 v45 h_3) fun h_6 =>
            optW (pIdxS 1 (e 5) v45) fun v58 =>
            optW (pStore 1 v58 (e 7) h_6) fun h_7 =>
            optW (pBin Try.prog .add 3 (e 7) (.int .i64 1)) fun v17_1 =>
            I (pt (pt (pt (pt (pt (pt (pt (pt (pt (pt (pt (pt (pt (pt (pt (pt (pt (pt (pt (pt (pt (pt (pt (pt (pt (pt (pt (pt (pt (pt (pt (pt (pt (pt (pt (pt (pt (pt (pt (pt (pt (pt (pt (pt (pt (pt e 12 (e 7)) 13 (e 1)) 14 v14) 15 v15) 18 (e 5)) 19 (e 7)) 20 v20) 21 (e 0)) 22 (e 1)) 23 (e 7)) 24 v24) 25 v25) 26 v26) 27 v27) 28 v28) 30 v30) 29 v30) 36 v36) 35 v36) 37 (e 6)) 38 v38) 39 v39) 40 (e 6)) 41 (e 6)) 42 v42) 43 v43) 44 v44) 45 v45) 8 v45) 46 (e 6)) 47 (e 6)) 48 v48) 49 v49) 50 v50) 6 v50) 51 (e 5)) 52 (e 7)) 53 (e 5)) 54 v45) 55 v45) 56 (e 7)) 57 v57) 58 v58) 16 (e 7)) 17 v17_1) 7 v17_1) h_7
          ) (
            optW (pBin Try.prog .add 3 (e 7) (.int .i64 1)) fun v17_2 =>
            I (pt (pt (pt (pt (pt (pt (pt (pt (pt (pt (pt (pt (pt (pt (pt (pt (pt (pt (pt (pt (pt (pt (pt (pt (pt e 12 (e 7)) 13 (e 1)) 14 v14) 15 v15) 18 (e 5)) 19 (e 7)) 20 v20) 21 (e 0)) 22 (e 1)) 23 (e 7)) 24 v24) 25 v25) 26 v26) 27 v27) 28 v28) 30 v30) 29 v30) 36 v36) 35 v36) 37 (e 6)) 38 v38) 39 v39) 16 (e 7)) 17 v17_2) 7 v17_2) h_3)
        ) (
          optW (pBin Try.prog .add 3 (e 7) (.int .i64 1)) fun v17_3 =>
          I (pt (pt (pt (pt (pt (pt (pt (pt (pt (pt (pt (pt (pt (pt (pt (pt (pt (pt (pt (pt (pt (pt e 12 (e 7)) 13 (e 1)) 14 v14) 15 v15) 18 (e 5)) 19 (e 7)) 20 v20) 21 (e 0)) 22 (e 1)) 23 (e 7)) 24 v24) 25 v25) 26 v26) 27 v27) 28 v28) 30 v30) 29 v30) 36 v36) 35 v36) 16 (e 7)) 17 v17_3) 7 v17_3) h_3))
    ) (
      K (e 5) h_2))
  (pt (pt (pt (pt (pt (pt (pt (envOf [a0, a1]) 4 (.slice none 0 0)) 9 a1) 10 v10) 11 (.slice (some ⟨i, 0, none⟩) c.1 c.2.1)) 5 (.slice (some ⟨i, 0, none⟩) c.1 c.2.1)) 6 (.slice none 0 0)) 7 (.int .i64 0)) h_1
theorem e50 (X : CallT) (a0 a1 : Value) (h : AH) (K : Value → AH → Prop) : cwp2 Try.prog X (Try.f50.body.getD .skip) (endW Try.prog Try.f50 K) (envOf [a0, a1]) h = s50 X a0 a1 h K := by kernel_rfl
theorem c50 {a0 a1 : Value} {h : AH} {K : Value → AH → Prop} (hs : s50 (callW Try.prog) a0 a1 h K) : callW Try.prog 50 [a0, a1] h K := callW_of Try.func50 (by kernel_rfl) (Eq.mpr (e50 _ a0 a1 _ _) hs)

/-- canopy/canopylaw1.within () -/
def s51 (X : CallT) (a0 a1 : Value) (h : AH) (K : Value → AH → Prop) : Prop :=
  optW (pBin Try.prog .rem 3 a0 a1) fun v8 =>
  optW (pBin Try.prog .lss 3 v8 (.int .i64 0)) fun v10 =>
  condW v10 (
    optW (pBin Try.prog .add 3 v8 a1) fun v13 =>
    K v13 h
  ) (
    K v8 h)
theorem e51 (X : CallT) (a0 a1 : Value) (h : AH) (K : Value → AH → Prop) : cwp2 Try.prog X (Try.f51.body.getD .skip) (endW Try.prog Try.f51 K) (envOf [a0, a1]) h = s51 X a0 a1 h K := by kernel_rfl
theorem c51 {a0 a1 : Value} {h : AH} {K : Value → AH → Prop} (hs : s51 (callW Try.prog) a0 a1 h K) : callW Try.prog 51 [a0, a1] h K := callW_of Try.func51 (by kernel_rfl) (Eq.mpr (e51 _ a0 a1 _ _) hs)

/-- canopy/schema.text () -/
def s52 (X : CallT) (a0 : Value) (h : AH) (K : Value → AH → Prop) : Prop :=
  aBox a0 none h fun v1 h_1 =>
  optW (bldSl 1 [(.int .i64 0)] 5 [(0, (.int .i64 5)), (1, (.int .i64 6)), (2, (.int .i64 7)), (3, (.int .i64 8)), (4, (.int .i64 9))]) fun c =>
  newW none (.row c true) h_1 fun i h_2 =>
  optW (pOff 0 v1) fun v5 =>
  optW (rdRow false 1 v5 h_2) fun v6 =>
  optW (pBin Try.prog .eql 3 v6 (.int .i64 2)) fun v8 =>
  condW v8 (
    K (.string (bs [97, 110, 121])) h_2
  ) (
    optW (pBin Try.prog .eql 3 v6 (.int .i64 3)) fun v10 =>
    condW v10 (
      K (.string (bs [116, 101, 120, 116])) h_2
    ) (
      optW (pBin Try.prog .eql 3 v6 (.int .i64 4)) fun v12 =>
      condW v12 (
        optW (pOff 1 v1) fun v13 =>
        optW (rdRow false 1 v13 h_2) fun v14 =>
        K v14 h_2
      ) (
        optW (pBin Try.prog .eql 3 v6 (.int .i64 5)) fun v16 =>
        condW v16 (
          optW (rdRow true 3 v1 h_2) fun v17 =>
          optW (bldSl 1 [(.int .i64 0)] 2 [(0, (.int .i64 5)), (1, (.int .i64 6))]) fun c_1 =>
          newW none (.row c_1 true) h_2 fun i_1 h_3 =>
          X 69 [v17, (.string (bs [44, 32])), (.slice (some ⟨i_1, 0, none⟩) 2 2)] h_3 fun v19 h_4 =>
          K v19 h_4
        ) (
          optW (pBin Try.prog .eql 3 v6 (.int .i64 6)) fun v21 =>
          condW v21 (
            optW (rdRow true 3 v1 h_2) fun v22 =>
            optW (bldSl 1 [(.int .i64 0)] 1 [(0, (.int .i64 6))]) fun c_2 =>
            newW none (.row c_2 true) h_2 fun i_2 h_5 =>
            X 69 [v22, (.string (bs [32, 124, 32])), (.slice (some ⟨i_2, 0, none⟩) 1 1)] h_5 fun v24 h_6 =>
            K v24 h_6
          ) (
            optW (pBin Try.prog .eql 3 v6 (.int .i64 7)) fun v26 =>
            condW v26 (
              optW (rdRow true 3 v1 h_2) fun v27 =>
              X 69 [v27, (.string (bs [])), (.slice (some ⟨i, 0, none⟩) 5 5)] h_2 fun v29 h_7 =>
              optW (pBin Try.prog .add 9 v29 (.string (bs [42]))) fun v30 =>
              K v30 h_7
            ) (
              optW (pBin Try.prog .eql 3 v6 (.int .i64 8)) fun v32 =>
              condW v32 (
                optW (rdRow true 3 v1 h_2) fun v33 =>
                X 69 [v33, (.string (bs [])), (.slice (some ⟨i, 0, none⟩) 5 5)] h_2 fun v35 h_8 =>
                optW (pBin Try.prog .add 9 v35 (.string (bs [43]))) fun v36 =>
                K v36 h_8
              ) (
                optW (pBin Try.prog .eql 3 v6 (.int .i64 9)) fun v38 =>
                condW v38 (
                  optW (rdRow true 3 v1 h_2) fun v39 =>
                  X 69 [v39, (.string (bs [])), (.slice (some ⟨i, 0, none⟩) 5 5)] h_2 fun v41 h_9 =>
                  optW (pBin Try.prog .add 9 v41 (.string (bs [63]))) fun v42 =>
                  K v42 h_9
                ) (
                  K (.string (bs [101, 109, 112, 116, 121])) h_2))))))))
theorem e52 (X : CallT) (a0 : Value) (h : AH) (K : Value → AH → Prop) : cwp2 Try.prog X (Try.f52.body.getD .skip) (endW Try.prog Try.f52 K) (envOf [a0]) h = s52 X a0 h K := by kernel_rfl
theorem c52 {a0 : Value} {h : AH} {K : Value → AH → Prop} (hs : s52 (callW Try.prog) a0 h K) : callW Try.prog 52 [a0] h K := callW_of Try.func52 (by kernel_rfl) (Eq.mpr (e52 _ a0 _ _) hs)

/-- canopy/canopyref1.Letters (I at e: live [0, 3], writes [2, 3, 4, 5, 6, 7, 8, 9, 10, 11, 12, 13, 14, 15, 16, 17, 18, 19]) -/
def s53 (X : CallT) (a0 : Value) (h : AH) (K : Value → AH → Prop) : Prop :=
  loopE (fun I e h_1 =>
    optW (lenStr (e 0)) fun v6 =>
    optW (pBin Try.prog .lss 3 (e 3) v6) fun v7 =>
    condW v7 (
      optW (pIdxStr (e 0) (e 3)) fun v12 =>
      optW (pBin Try.prog .lss 5 v12 (.int .u8 97)) fun v13 =>
      gopW (gB v13 false) (fun k =>
        k (e 0) h_1) h_1 fun v15 h_2 =>
      gopW (gB v13 false) (fun k_1 =>
        k_1 (e 3) h_2) h_2 fun v16 h_3 =>
      gopW (gB v13 false) (fun k_2 =>
        optW (pIdxStr v15 v16) fun v17_1 =>
        k_2 v17_1 h_3) h_3 fun v17 h_4 =>
      gopW (gB v13 false) (fun k_3 =>
        optW (pBin Try.prog .gtr 5 v17 (.int .u8 122)) fun v18_1 =>
        k_3 v18_1 h_4) h_4 fun v18 h_5 =>
      optW (pPick v13 (.bool true) v18) fun v19 =>
      condW v19 (
        K (.bool false) h_5
      ) (
        optW (pBin Try.prog .add 3 (e 3) (.int .i64 1)) fun v9 =>
        I (pt (pt (pt (pt (pt (pt (pt (pt (pt (pt (pt (pt (pt (pt (pt (pt (pt e 4 (e 3)) 5 (e 0)) 6 v6) 7 v7) 10 (e 0)) 11 (e 3)) 12 v12) 13 v13) 14 v13) 15 v15) 16 v16) 17 v17) 18 v18) 19 v19) 8 (e 3)) 9 v9) 3 v9) h_5)
    ) (
      optW (lenStr (e 0)) fun v21 =>
      optW (pBin Try.prog .gtr 3 v21 (.int .i64 0)) fun v22 =>
      gopW (gB v22 true) (fun k_4 =>
        k_4 (e 0) h_1) h_1 fun v24 h_6 =>
      gopW (gB v22 true) (fun k_5 =>
        optW (lenStr v24) fun v25_1 =>
        k_5 v25_1 h_6) h_6 fun v25 h_7 =>
      gopW (gB v22 true) (fun k_6 =>
        optW (pBin Try.prog .leq 3 v25 (.int .i64 8)) fun v26_1 =>
        k_6 v26_1 h_7) h_7 fun v26 h_8 =>
      optW (pPick v22 v26 (.bool false)) fun v27 =>
      K v27 h_8))
  (pt (pt (envOf [a0]) 2 (.bool false)) 3 (.int .i64 0)) h
theorem e53 (X : CallT) (a0 : Value) (h : AH) (K : Value → AH → Prop) : cwp2 Try.prog X (Try.f53.body.getD .skip) (endW Try.prog Try.f53 K) (envOf [a0]) h = s53 X a0 h K := by kernel_rfl
theorem c53 {a0 : Value} {h : AH} {K : Value → AH → Prop} (hs : s53 (callW Try.prog) a0 h K) : callW Try.prog 53 [a0] h K := callW_of Try.func53 (by kernel_rfl) (Eq.mpr (e53 _ a0 _ _) hs)

end Go.Proofs.Ytlenlhlipmkeeaa.W
end

section
/- Go functions, printed by a program as predicates on what may come behind; each is the function. Conditions: none. -/
namespace Go.Proofs.Ytlenlhlipmkeeaa.W
open Go Go.AM
set_option linter.unusedVariables false
set_option maxRecDepth 100000


/-- canopy/canopyref8.Same (I at e: live [2, 3, 5], writes [4, 5, 20, 21, 22, 23, 24, 25, 26, 27, 28, 29, 30, 31, 32, 33, 34, 35, 36, 37, 38, 39, 40, 41, 42, 43, 44, 45, 46, 47, 48, 49, 50, 51, 52, 53, 54, 55]) -/
def s19 (X : CallT) (a0 a1 : Value) (h : AH) (K : Value → AH → Prop) : Prop :=
  aBox a0 none h fun v2 h_1 =>
  aBox a1 none h_1 fun v3 h_2 =>
  optW (pOff 0 v2) fun v6 =>
  optW (rdRow false 1 v6 h_2) fun v7 =>
  optW (pOff 0 v3) fun v8 =>
  optW (rdRow false 1 v8 h_2) fun v9 =>
  optW (pBin Try.prog .neq 9 v7 v9) fun v10 =>
  gopW (gB v10 false) (fun k =>
    optW (pOff 1 v2) fun v12_1 =>
    k v12_1 h_2) h_2 fun v12 h_3 =>
  gopW (gB v10 false) (fun k_1 =>
    optW (rdRow false 1 v12 h_3) fun v13_1 =>
    k_1 v13_1 h_3) h_3 fun v13 h_4 =>
  gopW (gB v10 false) (fun k_2 =>
    optW (lenSl v13) fun v14_1 =>
    k_2 v14_1 h_4) h_4 fun v14 h_5 =>
  gopW (gB v10 false) (fun k_3 =>
    optW (pOff 1 v3) fun v15_1 =>
    k_3 v15_1 h_5) h_5 fun v15 h_6 =>
  gopW (gB v10 false) (fun k_4 =>
    optW (rdRow false 1 v15 h_6) fun v16_1 =>
    k_4 v16_1 h_6) h_6 fun v16 h_7 =>
  gopW (gB v10 false) (fun k_5 =>
    optW (lenSl v16) fun v17_1 =>
    k_5 v17_1 h_7) h_7 fun v17 h_8 =>
  gopW (gB v10 false) (fun k_6 =>
    optW (pBin Try.prog .neq 3 v14 v17) fun v18_1 =>
    k_6 v18_1 h_8) h_8 fun v18 h_9 =>
  optW (pPick v10 (.bool true) v18) fun v19 =>
  condW v19 (
    K (.bool false) h_9
  ) (
    loopE (fun I e h_10 =>
      optW (pOff 1 (e 2)) fun v21 =>
      optW (rdRow false 1 v21 h_10) fun v22 =>
      optW (lenSl v22) fun v23 =>
      optW (pBin Try.prog .lss 3 (e 5) v23) fun v24 =>
      condW v24 (
        optW (pOff 1 (e 2)) fun v27 =>
        optW (rdRow false 1 v27 h_10) fun v28 =>
        optW (pIdxS 4 v28 (e 5)) fun v30 =>
        optW (pOff 0 v30) fun v31 =>
        optW (rdRow false 1 v31 h_10) fun v32 =>
        optW (pOff 1 (e 3)) fun v33 =>
        optW (rdRow false 1 v33 h_10) fun v34 =>
        optW (pIdxS 4 v34 (e 5)) fun v36 =>
        optW (pOff 0 v36) fun v37 =>
        optW (rdRow false 1 v37 h_10) fun v38 =>
        optW (pBin Try.prog .neq 9 v32 v38) fun v39 =>
        gopD (gB v39 false) (fun k_7 =>
          optW (pOff 1 (e 2)) fun v41_1 =>
          k_7 v41_1 h_10 [] ((11, (ceOf 1 v37)) :: ((7, (ceOf 1 v33)) :: ((5, (ceOf 1 v31)) :: ((1, (ceOf 1 v27)) :: []))))) h_10 [] ((11, (ceOf 1 v37)) :: ((7, (ceOf 1 v33)) :: ((5, (ceOf 1 v31)) :: ((1, (ceOf 1 v27)) :: [])))) fun v41 h_11 H S =>
        gopD (gB v39 false) (fun k_8 =>
          histC #[0, 1, 0, 7, 15, 31, 0, 64, 0, 448, 960, 1984, 4095, 8191, 16383, 32767, 16383, 131071, 262143, 524287, 16383, 1064959, 16383, 7356415, 15745023, 32522239, 67108863, 134217727, 268435455] 15 (ceOf 1 v41) H (
            optW (rdRow false 1 v41 h_11) fun v42_1 =>
            k_8 v42_1 h_11 H ((15, (ceOf 1 v41)) :: S))) h_11 H S fun v42 h_12 H_1 S_1 =>
        gopD (gB v39 false) (fun k_9 =>
          k_9 (e 5) h_12 H_1 S_1) h_12 H_1 S_1 fun v43 h_13 H_2 S_2 =>
        gopD (gB v39 false) (fun k_10 =>
          optW (pIdxS 4 v42 v43) fun v44_1 =>
          k_10 v44_1 h_13 H_2 S_2) h_13 H_2 S_2 fun v44 h_14 H_3 S_3 =>
        gopD (gB v39 false) (fun k_11 =>
          optW (pOff 1 v44) fun v45_1 =>
          k_11 v45_1 h_14 H_3 S_3) h_14 H_3 S_3 fun v45 h_15 H_4 S_4 =>
        gopD (gB v39 false) (fun k_12 =>
          histC #[0, 1, 0, 7, 15, 31, 0, 64, 0, 448, 960, 1984, 4095, 8191, 16383, 32767, 16383, 131071, 262143, 524287, 16383, 1064959, 16383, 7356415, 15745023, 32522239, 67108863, 134217727, 268435455] 19 (ceOf 3 v45) H_4 (
            optW (rdRow true 3 v45 h_15) fun v46_1 =>
            k_12 v46_1 h_15 H_4 ((19, (ceOf 3 v45)) :: S_4))) h_15 H_4 S_4 fun v46 h_16 H_5 S_5 =>
        gopD (gB v39 false) (fun k_13 =>
          optW (pOff 1 (e 3)) fun v47_1 =>
          k_13 v47_1 h_16 H_5 S_5) h_16 H_5 S_5 fun v47 h_17 H_6 S_6 =>
        gopD (gB v39 false) (fun k_14 =>
          histC #[0, 1, 0, 7, 15, 31, 0, 64, 0, 448, 960, 1984, 4095, 8191, 16383, 32767, 16383, 131071, 262143, 524287, 16383, 1064959, 16383, 7356415, 15745023, 32522239, 67108863, 134217727, 268435455] 21 (ceOf 1 v47) H_6 (
            optW (rdRow false 1 v47 h_17) fun v48_1 =>
            k_14 v48_1 h_17 H_6 ((21, (ceOf 1 v47)) :: S_6))) h_17 H_6 S_6 fun v48 h_18 H_7 S_7 =>
        gopD (gB v39 false) (fun k_15 =>
          k_15 (e 5) h_18 H_7 S_7) h_18 H_7 S_7 fun v49 h_19 H_8 S_8 =>
        gopD (gB v39 false) (fun k_16 =>
          optW (pIdxS 4 v48 v49) fun v50_1 =>
          k_16 v50_1 h_19 H_8 S_8) h_19 H_8 S_8 fun v50 h_20 H_9 S_9 =>
        gopD (gB v39 false) (fun k_17 =>
          optW (pOff 1 v50) fun v51_1 =>
          k_17 v51_1 h_20 H_9 S_9) h_20 H_9 S_9 fun v51 h_21 H_10 S_10 =>
        gopD (gB v39 false) (fun k_18 =>
          histC #[0, 1, 0, 7, 15, 31, 0, 64, 0, 448, 960, 1984, 4095, 8191, 16383, 32767, 16383, 131071, 262143, 524287, 16383, 1064959, 16383, 7356415, 15745023, 32522239, 67108863, 134217727, 268435455] 25 (ceOf 3 v51) H_10 (
            optW (rdRow true 3 v51 h_21) fun v52_1 =>
            k_18 v52_1 h_21 H_10 ((25, (ceOf 3 v51)) :: S_10))) h_21 H_10 S_10 fun v52 h_22 H_11 S_11 =>
        gopD (gB v39 false) (fun k_19 =>
          X 46 [v46, v52] h_22 fun v53_1 h_24 =>
          readC #[0, 1, 0, 7, 15, 31, 0, 64, 0, 448, 960, 1984, 4095, 8191, 16383, 32767, 16383, 131071, 262143, 524287, 16383, 1064959, 16383, 7356415, 15745023, 32522239, 67108863, 134217727, 268435455] 26 h_22 h_24 S_11 (
            k_19 v53_1 h_24 ((26, h_22, h_24) :: H_11) S_11)) h_22 H_11 S_11 fun v53 h_23 H_12 S_12 =>
        gopD (gB v39 false) (fun k_20 =>
          optW (pUn .not v53) fun v54_1 =>
          k_20 v54_1 h_23 H_12 S_12) h_23 H_12 S_12 fun v54 h_25 H_13 S_13 =>
        optW (pPick v39 (.bool true) v54) fun v55 =>
        condW v55 (
          K (.bool false) h_25
        ) (
          optW (pBin Try.prog .add 3 (e 5) (.int .i64 1)) fun v26 =>
          I (pt (pt (pt (pt (pt (pt (pt (pt (pt (pt (pt (pt (pt (pt (pt (pt (pt (pt (pt (pt (pt (pt (pt (pt (pt (pt (pt (pt (pt (pt (pt (pt (pt (pt (pt (pt (pt e 20 (e 5)) 21 v21) 22 v22) 23 v23) 24 v24) 27 v27) 28 v28) 29 (e 5)) 30 v30) 31 v31) 32 v32) 33 v33) 34 v34) 35 (e 5)) 36 v36) 37 v37) 38 v38) 39 v39) 40 v39) 41 v41) 42 v42) 43 v43) 44 v44) 45 v45) 46 v46) 47 v47) 48 v48) 49 v49) 50 v50) 51 v51) 52 v52) 53 v53) 54 v54) 55 v55) 25 (e 5)) 26 v26) 5 v26) h_25)
      ) (
        K (.bool true) h_10))
    (pt (pt (pt (pt (pt (pt (pt (pt (pt (pt (pt (pt (pt (pt (pt (pt (pt (pt (envOf [a0, a1]) 2 v2) 3 v3) 4 (.bool false)) 6 v6) 7 v7) 8 v8) 9 v9) 10 v10) 11 v10) 12 v12) 13 v13) 14 v14) 15 v15) 16 v16) 17 v17) 18 v18) 19 v19) 5 (.int .i64 0)) h_9)
theorem e19 (X : CallT) (a0 a1 : Value) (h : AH) (K : Value → AH → Prop) : cwp2 Try.prog X (Try.f19.body.getD .skip) (endW Try.prog Try.f19 K) (envOf [a0, a1]) h = s19 X a0 a1 h K := by kernel_rfl
theorem c19 {a0 a1 : Value} {h : AH} {K : Value → AH → Prop} (hs : s19 (callW Try.prog) a0 a1 h K) : callW Try.prog 19 [a0, a1] h K := callW_of Try.func19 (by kernel_rfl) (Eq.mpr (e19 _ a0 a1 _ _) hs)

/-- canopy/canopyref8.Syms (I at e: live [1, 3, 4], writes [3, 4, 5, 6, 7, 8, 9, 10, 11, 12, 13, 14, 15, 16, 17, 18, 19, 20, 21, 22, 23, 24, 25, 26, 27, 28]) -/
def s20 (X : CallT) (a0 : Value) (h : AH) (K : Value → AH → Prop) : Prop :=
  aBox a0 none h fun v1 h_1 =>
  loopE (fun I e h_2 =>
    optW (pOff 1 (e 1)) fun v6 =>
    optW (rdRow false 1 v6 h_2) fun v7 =>
    optW (lenSl v7) fun v8 =>
    optW (pBin Try.prog .lss 3 (e 4) v8) fun v9 =>
    condW v9 (
      optW (pOff 1 (e 1)) fun v13 =>
      optW (rdRow false 1 v13 (reserve 1 h_2)) fun v14 =>
      optW (pIdxS 4 v14 (e 4)) fun v16 =>
      optW (pOff 0 v16) fun v17 =>
      optW (rdRow false 1 v17 (reserve 1 h_2)) fun v18 =>
      optW (bld [(.string (bs [])), (.int .i64 0)] [(0, 1), (1, 1)] [(0, v18), (1, (.int .i64 1))]) fun v19 =>
      optW (pOff 1 (e 1)) fun v20 =>
      optW (rdRow false 1 v20 (reserve 1 h_2)) fun v21 =>
      optW (pIdxS 4 v21 (e 4)) fun v23 =>
      optW (pOff 0 v23) fun v24 =>
      optW (rdRow false 1 v24 (reserve 1 h_2)) fun v25 =>
      optW (bld [(.string (bs [])), (.int .i64 0)] [(0, 1), (1, 1)] [(0, v25), (1, (.int .i64 2))]) fun v26 =>
      optW (bldSl 2 [(.string (bs [])), (.int .i64 0)] 2 [(0, v19), (1, v26)]) fun c =>
      newW (some (h_2.length)) (.row c true) (reserve 1 h_2) fun i h_3 =>
      appSl 2 (e 3) (.slice (some ⟨i, 0, none⟩) 2 2) h_3 fun v28 h_4 =>
      optW (pBin Try.prog .add 3 (e 4) (.int .i64 1)) fun v11 =>
      I (pt (pt (pt (pt (pt (pt (pt (pt (pt (pt (pt (pt (pt (pt (pt (pt (pt (pt (pt (pt (pt (pt (pt (pt (pt (pt e 5 (e 4)) 6 v6) 7 v7) 8 v8) 9 v9) 12 (e 3)) 13 v13) 14 v14) 15 (e 4)) 16 v16) 17 v17) 18 v18) 19 v19) 20 v20) 21 v21) 22 (e 4)) 23 v23) 24 v24) 25 v25) 26 v26) 27 (.slice (some ⟨i, 0, none⟩) 2 2)) 28 v28) 3 v28) 10 (e 4)) 11 v11) 4 v11) h_4
    ) (
      optW (bld [(.string (bs [])), (.int .i64 0)] [(0, 1), (1, 1)] [(0, (.string (bs [116, 101, 120, 116]))), (1, (.int .i64 3))]) fun v30 =>
      optW (bldSl 2 [(.string (bs [])), (.int .i64 0)] 1 [(0, v30)]) fun c_1 =>
      newW none (.row c_1 true) h_2 fun i_1 h_5 =>
      appSl 2 (e 3) (.slice (some ⟨i_1, 0, none⟩) 1 1) h_5 fun v32 h_6 =>
      K v32 h_6))
  (pt (pt (pt (pt (envOf [a0]) 1 v1) 2 (.slice none 0 0)) 3 (.slice none 0 0)) 4 (.int .i64 0)) h_1
theorem e20 (X : CallT) (a0 : Value) (h : AH) (K : Value → AH → Prop) : cwp2 Try.prog X (Try.f20.body.getD .skip) (endW Try.prog Try.f20 K) (envOf [a0]) h = s20 X a0 h K := by kernel_rfl
theorem c20 {a0 : Value} {h : AH} {K : Value → AH → Prop} (hs : s20 (callW Try.prog) a0 h K) : callW Try.prog 20 [a0] h K := callW_of Try.func20 (by kernel_rfl) (Eq.mpr (e20 _ a0 _ _) hs)

/-- canopy/schema.Has (I at e: live [1, 2, 5, 14, 15, 16], writes [4, 6, 7, 16, 17, 18, 19, 20, 21, 22, 23, 24, 25, 26, 27, 28, 29, 30, 31, 32, 33]) -/
def s22 (X : CallT) (a0 a1 : Value) (h : AH) (K : Value → AH → Prop) : Prop :=
  aBox a0 none h fun v2 h_1 =>
  optW (rdRow true 2 v2 h_1) fun v8 =>
  newW none (.map [] 0) h_1 fun i h_2 =>
  optW (bld [(.string (bs [])), (.slice none 0 0), (.slice none 0 0), (.map none)] [(0, 2), (2, 1), (3, 1)] [(0, v8), (1, a1), (2, (.map (some i)))]) fun v11 =>
  aBox v11 none h_2 fun v12 h_3 =>
  optW (pOff 1 v2) fun v13 =>
  optW (rdRow false 1 v13 h_3) fun v14 =>
  optW (lenSl v14) fun v15 =>
  loopE (fun I e h_4 =>
    optW (pBin Try.prog .lss 3 (e 16) (e 15)) fun v17 =>
    condW v17 (
      optW (pIdxS 4 (e 14) (e 16)) fun v19 =>
      optW (rdRow true 4 v19 h_4) fun v20 =>
      newR none [(.string (bs [])), (.int .i64 0), (.string (bs [])), (.slice none 0 0)] h_4 fun v7 h_5 =>
      optW (pStore 4 v7 v20 h_5) fun h_6 =>
      optW (pOff 0 v7) fun v21 =>
      optW (rdRow false 1 v21 h_6) fun v22 =>
      optW (pOff 0 (e 2)) fun v23 =>
      optW (rdRow false 1 v23 h_6) fun v24 =>
      optW (pBin Try.prog .eql 9 v22 v24) fun v25 =>
      condW v25 (
        X 48 [(e 5), (e 16), (.int .i64 0)] h_6 fun v28 h_7 =>
        optW (lenSl (e 1)) fun v30 =>
        optW (pIdxS 1 v28 v30) fun v31 =>
        optW (rdRow false 1 v31 h_7) fun v32 =>
        K v32 h_7
      ) (
        optW (pBin Try.prog .add 3 (e 16) (.int .i64 1)) fun v33 =>
        I (pt (pt (pt (pt (pt (pt (pt (pt (pt (pt (pt (pt (pt e 17 v17) 18 (e 16)) 19 v19) 20 v20) 7 v7) 6 (e 16)) 21 v21) 22 v22) 23 v23) 24 v24) 25 v25) 33 v33) 16 v33) h_6)
    ) (
      K (.bool false) h_4))
  (pt (pt (pt (pt (pt (pt (pt (pt (pt (pt (pt (pt (envOf [a0, a1]) 2 v2) 4 (.bool false)) 8 v8) 9 a1) 10 (.map (some i))) 11 v11) 12 v12) 5 v12) 13 v13) 14 v14) 15 v15) 16 (.int .i64 0)) h_3
theorem e22 (X : CallT) (a0 a1 : Value) (h : AH) (K : Value → AH → Prop) : cwp2 Try.prog X (Try.f22.body.getD .skip) (endW Try.prog Try.f22 K) (envOf [a0, a1]) h = s22 X a0 a1 h K := by kernel_rfl
theorem c22 {a0 a1 : Value} {h : AH} {K : Value → AH → Prop} (hs : s22 (callW Try.prog) a0 a1 h K) : callW Try.prog 22 [a0, a1] h K := callW_of Try.func22 (by kernel_rfl) (Eq.mpr (e22 _ a0 a1 _ _) hs)

/-- canopy/canopyref8.Has (I at e: live [1, 5, 6], writes [4, 6, 9, 10, 11, 12, 13, 14, 15, 16, 17, 18, 19, 20, 21, 22, 23, 24, 25, 26, 27, 28]) -/
def s23 (X : CallT) (a0 a1 : Value) (h : AH) (K : Value → AH → Prop) : Prop :=
  aBox a0 none h fun v2 h_1 =>
  optW (rdRow true 2 v2 h_1) fun v7 =>
  X 20 [v7] h_1 fun v8 h_2 =>
  loopE (fun I e h_3 =>
    optW (lenSl (e 1)) fun v11 =>
    optW (pBin Try.prog .lss 3 (e 6) v11) fun v12 =>
    condW v12 (
      optW (pIdxS 1 (e 1) (e 6)) fun v17 =>
      optW (rdRow false 1 v17 h_3) fun v18 =>
      optW (pBin Try.prog .lss 3 v18 (.int .i64 0)) fun v19 =>
      gopW (gB v19 false) (fun k =>
        k (e 1) h_3) h_3 fun v21 h_4 =>
      gopW (gB v19 false) (fun k_1 =>
        k_1 (e 6) h_4) h_4 fun v22 h_5 =>
      gopW (gB v19 false) (fun k_2 =>
        optW (pIdxS 1 v21 v22) fun v23_1 =>
        k_2 v23_1 h_5) h_5 fun v23 h_6 =>
      gopW (gB v19 false) (fun k_3 =>
        optW (rdRow false 1 v23 h_6) fun v24_1 =>
        k_3 v24_1 h_6) h_6 fun v24 h_7 =>
      gopW (gB v19 false) (fun k_4 =>
        k_4 (e 5) h_7) h_7 fun v25 h_8 =>
      gopW (gB v19 false) (fun k_5 =>
        optW (lenSl v25) fun v26_1 =>
        k_5 v26_1 h_8) h_8 fun v26 h_9 =>
      gopW (gB v19 false) (fun k_6 =>
        optW (pBin Try.prog .geq 3 v24 v26) fun v27_1 =>
        k_6 v27_1 h_9) h_9 fun v27 h_10 =>
      optW (pPick v19 (.bool true) v27) fun v28 =>
      condW v28 (
        K (.bool false) h_10
      ) (
        optW (pBin Try.prog .add 3 (e 6) (.int .i64 1)) fun v14 =>
        I (pt (pt (pt (pt (pt (pt (pt (pt (pt (pt (pt (pt (pt (pt (pt (pt (pt (pt (pt (pt (pt e 9 (e 6)) 10 (e 1)) 11 v11) 12 v12) 15 (e 1)) 16 (e 6)) 17 v17) 18 v18) 19 v19) 20 v19) 21 v21) 22 v22) 23 v23) 24 v24) 25 v25) 26 v26) 27 v27) 28 v28) 13 (e 6)) 14 v14) 6 v14) h_10)
    ) (
      optW (lenSl (e 1)) fun v30 =>
      optW (pBin Try.prog .eql 3 v30 (.int .i64 0)) fun v31 =>
      gopD (gB v31 false) (fun k_7 =>
        k_7 (e 1) h_3 [] []) h_3 [] [] fun v33 h_11 H S =>
      gopD (gB v31 false) (fun k_8 =>
        optW (pIdxS 1 v33 (.int .i64 0)) fun v34_1 =>
        k_8 v34_1 h_11 H S) h_11 H S fun v34 h_12 H_1 S_1 =>
      gopD (gB v31 false) (fun k_9 =>
        histC #[0, 1, 3, 7, 15, 31, 63, 15, 15, 271, 911, 1935, 4095, 8191] 6 (ceOf 1 v34) H_1 (
          optW (rdRow false 1 v34 h_12) fun v35_1 =>
          k_9 v35_1 h_12 H_1 ((6, (ceOf 1 v34)) :: S_1))) h_12 H_1 S_1 fun v35 h_13 H_2 S_2 =>
      gopD (gB v31 false) (fun k_10 =>
        histC #[0, 1, 3, 7, 15, 31, 63, 15, 15, 271, 911, 1935, 4095, 8191] 7 (ceOf 2 (e 2)) H_2 (
          optW (rdRow true 2 (e 2) h_13) fun v36_1 =>
          k_10 v36_1 h_13 H_2 ((7, (ceOf 2 (e 2))) :: S_2))) h_13 H_2 S_2 fun v36 h_14 H_3 S_3 =>
      gopD (gB v31 false) (fun k_11 =>
        optW (pOff 0 (e 2)) fun v37_1 =>
        k_11 v37_1 h_14 H_3 S_3) h_14 H_3 S_3 fun v37 h_15 H_4 S_4 =>
      gopD (gB v31 false) (fun k_12 =>
        histC #[0, 1, 3, 7, 15, 31, 63, 15, 15, 271, 911, 1935, 4095, 8191] 9 (ceOf 1 v37) H_4 (
          optW (rdRow false 1 v37 h_15) fun v38_1 =>
          k_12 v38_1 h_15 H_4 ((9, (ceOf 1 v37)) :: S_4))) h_15 H_4 S_4 fun v38 h_16 H_5 S_5 =>
      gopD (gB v31 false) (fun k_13 =>
        X 44 [v36, v38] h_16 fun v39_1 h_18 =>
        readC #[0, 1, 3, 7, 15, 31, 63, 15, 15, 271, 911, 1935, 4095, 8191] 10 h_16 h_18 S_5 (
          k_13 v39_1 h_18 ((10, h_16, h_18) :: H_5) S_5)) h_16 H_5 S_5 fun v39 h_17 H_6 S_6 =>
      gopD (gB v31 false) (fun k_14 =>
        optW (pBin Try.prog .mul 3 (.int .i64 2) v39) fun v40_1 =>
        k_14 v40_1 h_17 H_6 S_6) h_17 H_6 S_6 fun v40 h_19 H_7 S_7 =>
      gopD (gB v31 false) (fun k_15 =>
        optW (pBin Try.prog .neq 3 v35 v40) fun v41_1 =>
        k_15 v41_1 h_19 H_7 S_7) h_19 H_7 S_7 fun v41 h_20 H_8 S_8 =>
      optW (pPick v31 (.bool true) v41) fun v42 =>
      condW v42 (
        K (.bool false) h_20
      ) (
        optW (rdRow true 2 (e 2) h_20) fun v43 =>
        X 50 [(e 5), (e 1)] h_20 fun v47 h_21 =>
        (∀ x ∈ (ceOf 2 (e 2)), vw x h_20 = vw x h_21) ∧
        optW (lenSl (e 1)) fun v49 =>
        X 49 [v43, (e 1), v47, (.int .i64 0), v49] h_21 fun v50 h_22 =>
        K v50 h_22)))
  (pt (pt (pt (pt (pt (pt (envOf [a0, a1]) 2 v2) 4 (.bool false)) 7 v7) 8 v8) 5 v8) 6 (.int .i64 0)) h_2
theorem e23 (X : CallT) (a0 a1 : Value) (h : AH) (K : Value → AH → Prop) : cwp2 Try.prog X (Try.f23.body.getD .skip) (endW Try.prog Try.f23 K) (envOf [a0, a1]) h = s23 X a0 a1 h K := by kernel_rfl
theorem c23 {a0 a1 : Value} {h : AH} {K : Value → AH → Prop} (hs : s23 (callW Try.prog) a0 a1 h K) : callW Try.prog 23 [a0, a1] h K := callW_of Try.func23 (by kernel_rfl) (Eq.mpr (e23 _ a0 a1 _ _) hs)

/-- canopy/canopylaw1.Word (I at e: live [0, 1, 2, 7, 8], writes [7, 8, 9, 10, 11, 12, 13, 14, 15, 16, 17, 18, 19, 20, 21, 22, 23, 24, 25, 26, 27, 28, 29]) -/
def s24 (X : CallT) (a0 a1 a2 : Value) (h : AH) (K : Value → AH → Prop) : Prop :=
  loopE (fun I e h_1 =>
    optW (lenSl (e 1)) fun v11 =>
    optW (pBin Try.prog .lss 3 (e 8) v11) fun v12 =>
    gopW (gB v12 true) (fun k =>
      k (e 8) h_1) h_1 fun v14 h_2 =>
    gopW (gB v12 true) (fun k_1 =>
      k_1 (e 2) h_2) h_2 fun v15 h_3 =>
    gopW (gB v12 true) (fun k_2 =>
      optW (pBin Try.prog .lss 3 v14 v15) fun v16_1 =>
      k_2 v16_1 h_3) h_3 fun v16 h_4 =>
    optW (pPick v12 v16 (.bool false)) fun v17 =>
    condW v17 (
      optW (pIdxS 1 (e 1) (e 8)) fun v23 =>
      optW (rdRow false 1 v23 h_4) fun v24 =>
      optW (lenSl (e 0)) fun v26 =>
      X 51 [v24, v26] h_4 fun v27 h_5 =>
      optW (bldSl 1 [(.int .i64 0)] 1 [(0, v27)]) fun c =>
      newW none (.row c true) h_5 fun i h_6 =>
      appSl 1 (e 7) (.slice (some ⟨i, 0, none⟩) 1 1) h_6 fun v29 h_7 =>
      optW (pBin Try.prog .add 3 (e 8) (.int .i64 1)) fun v19 =>
      I (pt (pt (pt (pt (pt (pt (pt (pt (pt (pt (pt (pt (pt (pt (pt (pt (pt (pt (pt (pt (pt (pt (pt e 9 (e 8)) 10 (e 1)) 11 v11) 12 v12) 13 v12) 14 v14) 15 v15) 16 v16) 17 v17) 20 (e 7)) 21 (e 1)) 22 (e 8)) 23 v23) 24 v24) 25 (e 0)) 26 v26) 27 v27) 28 (.slice (some ⟨i, 0, none⟩) 1 1)) 29 v29) 7 v29) 18 (e 8)) 19 v19) 8 v19) h_7
    ) (
      K (e 7) h_4))
  (pt (pt (pt (envOf [a0, a1, a2]) 6 (.slice none 0 0)) 7 (.slice none 0 0)) 8 (.int .i64 0)) h
theorem e24 (X : CallT) (a0 a1 a2 : Value) (h : AH) (K : Value → AH → Prop) : cwp2 Try.prog X (Try.f24.body.getD .skip) (endW Try.prog Try.f24 K) (envOf [a0, a1, a2]) h = s24 X a0 a1 a2 h K := by kernel_rfl
theorem c24 {a0 a1 a2 : Value} {h : AH} {K : Value → AH → Prop} (hs : s24 (callW Try.prog) a0 a1 a2 h K) : callW Try.prog 24 [a0, a1, a2] h K := callW_of Try.func24 (by kernel_rfl) (Eq.mpr (e24 _ a0 a1 a2 _ _) hs)

/-- canopy/schema.Text (I at e: live [3, 11, 12, 13], writes [3, 5, 13, 14, 15, 16, 17, 18, 19, 20, 21, 22, 23, 24, 25, 26, 27, 28]) -/
def s26 (X : CallT) (a0 : Value) (h : AH) (K : Value → AH → Prop) : Prop :=
  aBox a0 none h fun v1 h_1 =>
  optW (pOff 0 v1) fun v6 =>
  optW (rdRow false 1 v6 h_1) fun v7 =>
  optW (pBin Try.prog .add 9 (.string (bs [114, 111, 111, 116, 32])) v7) fun v8 =>
  optW (pBin Try.prog .add 9 v8 (.string (bs [59]))) fun v9 =>
  optW (pOff 1 v1) fun v10 =>
  optW (rdRow false 1 v10 h_1) fun v11 =>
  optW (lenSl v11) fun v12 =>
  loopE (fun I e h_2 =>
    optW (pBin Try.prog .lss 3 (e 13) (e 12)) fun v14 =>
    condW v14 (
      optW (pIdxS 4 (e 11) (e 13)) fun v15 =>
      optW (rdRow true 4 v15 h_2) fun v16 =>
      newR none [(.string (bs [])), (.int .i64 0), (.string (bs [])), (.slice none 0 0)] h_2 fun v5 h_3 =>
      optW (pStore 4 v5 v16 h_3) fun h_4 =>
      optW (pOff 0 v5) fun v18 =>
      optW (rdRow false 1 v18 h_4) fun v19 =>
      optW (pBin Try.prog .add 9 (.string (bs [32, 101, 108, 101, 109, 101, 110, 116, 32])) v19) fun v20 =>
      optW (pBin Try.prog .add 9 v20 (.string (bs [32, 61, 32]))) fun v21 =>
      optW (pOff 1 v5) fun v22 =>
      optW (rdRow true 3 v22 h_4) fun v23 =>
      X 52 [v23] h_4 fun v24 h_5 =>
      (∀ x ∈ (ceOf 1 v18), vw x h_4 = vw x h_5) ∧
      optW (pBin Try.prog .add 9 v21 v24) fun v25 =>
      optW (pBin Try.prog .add 9 v25 (.string (bs [59]))) fun v26 =>
      optW (pBin Try.prog .add 9 (e 3) v26) fun v27 =>
      optW (pBin Try.prog .add 3 (e 13) (.int .i64 1)) fun v28 =>
      I (pt (pt (pt (pt (pt (pt (pt (pt (pt (pt (pt (pt (pt (pt (pt (pt (pt (pt e 14 v14) 15 v15) 16 v16) 5 v5) 17 (e 3)) 18 v18) 19 v19) 20 v20) 21 v21) 22 v22) 23 v23) 24 v24) 25 v25) 26 v26) 27 v27) 3 v27) 28 v28) 13 v28) h_5
    ) (
      K (e 3) h_2))
  (pt (pt (pt (pt (pt (pt (pt (pt (pt (pt (pt (envOf [a0]) 1 v1) 2 (.string (bs []))) 6 v6) 7 v7) 8 v8) 9 v9) 3 v9) 10 v10) 11 v11) 12 v12) 13 (.int .i64 0)) h_1
theorem e26 (X : CallT) (a0 : Value) (h : AH) (K : Value → AH → Prop) : cwp2 Try.prog X (Try.f26.body.getD .skip) (endW Try.prog Try.f26 K) (envOf [a0]) h = s26 X a0 h K := by kernel_rfl
theorem c26 {a0 : Value} {h : AH} {K : Value → AH → Prop} (hs : s26 (callW Try.prog) a0 h K) : callW Try.prog 26 [a0] h K := callW_of Try.func26 (by kernel_rfl) (Eq.mpr (e26 _ a0 _ _) hs)

/-- canopy/schema.Syms (I at e: live [3, 13, 14, 15], writes [3, 5, 15, 16, 17, 18, 19, 20, 21, 22, 23, 24, 25, 26, 27, 28]) -/
def s27 (X : CallT) (a0 : Value) (h : AH) (K : Value → AH → Prop) : Prop :=
  aBox a0 none h fun v1 h_1 =>
  optW (pOff 1 v1) fun v6 =>
  optW (rdRow false 1 v6 h_1) fun v7 =>
  optW (lenSl v7) fun v8 =>
  optW (pBin Try.prog .mul 3 (.int .i64 2) v8) fun v9 =>
  optW (pBin Try.prog .add 3 v9 (.int .i64 1)) fun v10 =>
  optW (mkSl 2 24 [(.string (bs [])), (.int .i64 0)] (.int .i64 0) v10) fun c =>
  newW none (.row c.2.2 true) h_1 fun i h_2 =>
  optW (pOff 1 v1) fun v12 =>
  optW (rdRow false 1 v12 h_2) fun v13 =>
  optW (lenSl v13) fun v14 =>
  loopE (fun I e h_3 =>
    optW (pBin Try.prog .lss 3 (e 15) (e 14)) fun v16 =>
    condW v16 (
      optW (pIdxS 4 (e 13) (e 15)) fun v17 =>
      optW (rdRow true 4 v17 h_3) fun v18 =>
      newR none [(.string (bs [])), (.int .i64 0), (.string (bs [])), (.slice none 0 0)] h_3 fun v5 h_4 =>
      optW (pStore 4 v5 v18 h_4) fun h_5 =>
      optW (pOff 0 v5) fun v20 =>
      optW (rdRow false 1 v20 h_5) fun v21 =>
      optW (bld [(.string (bs [])), (.int .i64 0)] [(0, 1), (1, 1)] [(0, v21), (1, (.int .i64 1))]) fun v22 =>
      optW (pOff 0 v5) fun v23 =>
      optW (rdRow false 1 v23 h_5) fun v24 =>
      optW (bld [(.string (bs [])), (.int .i64 0)] [(0, 1), (1, 1)] [(0, v24), (1, (.int .i64 2))]) fun v25 =>
      optW (bldSl 2 [(.string (bs [])), (.int .i64 0)] 2 [(0, v22), (1, v25)]) fun c_1 =>
      newW none (.row c_1 true) h_5 fun i_1 h_6 =>
      appSl 2 (e 3) (.slice (some ⟨i_1, 0, none⟩) 2 2) h_6 fun v27 h_7 =>
      optW (pBin Try.prog .add 3 (e 15) (.int .i64 1)) fun v28 =>
      I (pt (pt (pt (pt (pt (pt (pt (pt (pt (pt (pt (pt (pt (pt (pt (pt e 16 v16) 17 v17) 18 v18) 5 v5) 19 (e 3)) 20 v20) 21 v21) 22 v22) 23 v23) 24 v24) 25 v25) 26 (.slice (some ⟨i_1, 0, none⟩) 2 2)) 27 v27) 3 v27) 28 v28) 15 v28) h_7
    ) (
      optW (bld [(.string (bs [])), (.int .i64 0)] [(0, 1), (1, 1)] [(0, (.string (bs [116, 101, 120, 116]))), (1, (.int .i64 3))]) fun v30 =>
      optW (bldSl 2 [(.string (bs [])), (.int .i64 0)] 1 [(0, v30)]) fun c_2 =>
      newW none (.row c_2 true) h_3 fun i_2 h_8 =>
      appSl 2 (e 3) (.slice (some ⟨i_2, 0, none⟩) 1 1) h_8 fun v32 h_9 =>
      K v32 h_9))
  (pt (pt (pt (pt (pt (pt (pt (pt (pt (pt (pt (pt (pt (envOf [a0]) 1 v1) 2 (.slice none 0 0)) 6 v6) 7 v7) 8 v8) 9 v9) 10 v10) 11 (.slice (some ⟨i, 0, none⟩) c.1 c.2.1)) 3 (.slice (some ⟨i, 0, none⟩) c.1 c.2.1)) 12 v12) 13 v13) 14 v14) 15 (.int .i64 0)) h_2
theorem e27 (X : CallT) (a0 : Value) (h : AH) (K : Value → AH → Prop) : cwp2 Try.prog X (Try.f27.body.getD .skip) (endW Try.prog Try.f27 K) (envOf [a0]) h = s27 X a0 h K := by kernel_rfl
theorem c27 {a0 : Value} {h : AH} {K : Value → AH → Prop} (hs : s27 (callW Try.prog) a0 h K) : callW Try.prog 27 [a0] h K := callW_of Try.func27 (by kernel_rfl) (Eq.mpr (e27 _ a0 _ _) hs)

/-- canopy/canopyref1.Check (I at e: live [0, 3], writes [2, 3, 4, 13, 14, 15, 16, 17, 18, 19, 20, 21, 22, 23, 24, 25, 26, 27, 28, 29, 30, 31, 32, 33, 34, 35, 36, 37, 38, 39, 40, 41, 42, 43, 44, 45, 46, 47, 48, 49, 50, 51, 52, 53, 54, 55]; I_1 at e_1: live [0, 3, 4], writes [2, 4, 42, 43, 44, 45, 46, 47, 48, 49, 50, 51, 52, 53, 54, 55]) -/
def s28 (X : CallT) (a0 : Value) (h : AH) (K : Value → AH → Prop) : Prop :=
  optW (lenSl a0) fun v6 =>
  optW (pBin Try.prog .eql 3 v6 (.int .i64 0)) fun v7 =>
  gopW (gB v7 false) (fun k =>
    k a0 h) h fun v9 h_1 =>
  gopW (gB v7 false) (fun k_1 =>
    optW (lenSl v9) fun v10_1 =>
    k_1 v10_1 h_1) h_1 fun v10 h_2 =>
  gopW (gB v7 false) (fun k_2 =>
    optW (pBin Try.prog .gtr 3 v10 (.int .i64 20)) fun v11_1 =>
    k_2 v11_1 h_2) h_2 fun v11 h_3 =>
  optW (pPick v7 (.bool true) v11) fun v12 =>
  condW v12 (
    K (.int .i64 2) h_3
  ) (
    loopE (fun I e h_4 =>
      optW (lenSl (e 0)) fun v15 =>
      optW (pBin Try.prog .lss 3 (e 3) v15) fun v16 =>
      condW v16 (
        optW (pIdxS 2 (e 0) (e 3)) fun v22 =>
        optW (pOff 0 v22) fun v23 =>
        optW (rdRow false 1 v23 h_4) fun v24 =>
        X 53 [v24] h_4 fun v25 h_5 =>
        optW (pUn .not v25) fun v26 =>
        condW v26 (
          K (.int .i64 4) h_5
        ) (
          optW (pIdxS 2 (e 0) (e 3)) fun v30 =>
          optW (pOff 1 v30) fun v31 =>
          optW (rdRow false 1 v31 h_5) fun v32 =>
          optW (pBin Try.prog .lss 3 v32 (.int .i64 1)) fun v33 =>
          gopW (gB v33 false) (fun k_3 =>
            k_3 (e 0) h_5) h_5 fun v35 h_6 =>
          gopW (gB v33 false) (fun k_4 =>
            k_4 (e 3) h_6) h_6 fun v36 h_7 =>
          gopW (gB v33 false) (fun k_5 =>
            optW (pIdxS 2 v35 v36) fun v37_1 =>
            k_5 v37_1 h_7) h_7 fun v37 h_8 =>
          gopW (gB v33 false) (fun k_6 =>
            optW (pOff 1 v37) fun v38_1 =>
            k_6 v38_1 h_8) h_8 fun v38 h_9 =>
          gopW (gB v33 false) (fun k_7 =>
            optW (rdRow false 1 v38 h_9) fun v39_1 =>
            k_7 v39_1 h_9) h_9 fun v39 h_10 =>
          gopW (gB v33 false) (fun k_8 =>
            optW (pBin Try.prog .gtr 3 v39 (.int .i64 3)) fun v40_1 =>
            k_8 v40_1 h_10) h_10 fun v40 h_11 =>
          optW (pPick v33 (.bool true) v40) fun v41 =>
          condW v41 (
            K (.int .i64 7) h_11
          ) (
            loopE (fun I_1 e_1 h_12 =>
              optW (pBin Try.prog .lss 3 (e_1 4) (e_1 3)) fun v44 =>
              condW v44 (
                optW (pIdxS 2 (e_1 0) (e_1 4)) fun v49 =>
                optW (rdRow true 2 v49 h_12) fun v50 =>
                optW (pIdxS 2 (e_1 0) (e_1 3)) fun v53 =>
                optW (rdRow true 2 v53 h_12) fun v54 =>
                optW (pBin Try.prog .eql 50 v50 v54) fun v55 =>
                condW v55 (
                  K (.int .i64 5) h_12
                ) (
                  optW (pBin Try.prog .add 3 (e_1 4) (.int .i64 1)) fun v46 =>
                  I_1 (pt (pt (pt (pt (pt (pt (pt (pt (pt (pt (pt (pt (pt (pt (pt e_1 42 (e_1 4)) 43 (e_1 3)) 44 v44) 47 (e_1 0)) 48 (e_1 4)) 49 v49) 50 v50) 51 (e_1 0)) 52 (e_1 3)) 53 v53) 54 v54) 55 v55) 45 (e_1 4)) 46 v46) 4 v46) h_12)
              ) (
                optW (pBin Try.prog .add 3 (e_1 3) (.int .i64 1)) fun v18 =>
                I (pt (pt (pt (pt (pt (pt e_1 42 (e_1 4)) 43 (e_1 3)) 44 v44) 17 (e_1 3)) 18 v18) 3 v18) h_12))
            (pt (pt (pt (pt (pt (pt (pt (pt (pt (pt (pt (pt (pt (pt (pt (pt (pt (pt (pt (pt (pt (pt (pt (pt (pt (pt (pt (pt e 13 (e 3)) 14 (e 0)) 15 v15) 16 v16) 20 (e 0)) 21 (e 3)) 22 v22) 23 v23) 24 v24) 25 v25) 26 v26) 19 v26) 28 (e 0)) 29 (e 3)) 30 v30) 31 v31) 32 v32) 33 v33) 34 v33) 35 v35) 36 v36) 37 v37) 38 v38) 39 v39) 40 v40) 41 v41) 27 v41) 4 (.int .i64 0)) h_11))
      ) (
        K (.int .i64 0) h_4))
    (pt (pt (pt (pt (pt (pt (pt (pt (pt (pt (envOf [a0]) 2 (.int .i64 0)) 5 a0) 6 v6) 7 v7) 8 v7) 9 v9) 10 v10) 11 v11) 12 v12) 3 (.int .i64 0)) h_3)
theorem e28 (X : CallT) (a0 : Value) (h : AH) (K : Value → AH → Prop) : cwp2 Try.prog X (Try.f28.body.getD .skip) (endW Try.prog Try.f28 K) (envOf [a0]) h = s28 X a0 h K := by kernel_rfl
theorem c28 {a0 : Value} {h : AH} {K : Value → AH → Prop} (hs : s28 (callW Try.prog) a0 h K) : callW Try.prog 28 [a0] h K := callW_of Try.func28 (by kernel_rfl) (Eq.mpr (e28 _ a0 _ _) hs)

end Go.Proofs.Ytlenlhlipmkeeaa.W
end
