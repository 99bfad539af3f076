/- Parts of a proof, joined by a program. Conditions: none. -/
import Derived.Test.YtlenlhlipmkeeaaRA1
import Derived.Test.YtlenlhlipmkeeaaProg

section
/- Go functions, printed by a program as predicates on what may come behind; each is the function. Conditions: none. -/
namespace Go.Proofs.Ytlenlhlipmkeeaa.W
open Go Go.AM
set_option linter.unusedVariables false
set_option maxRecDepth 100000


/-- gosem.cut.init () -/
def s2 (X : CallT) (h : AH) (K : Value → AH → Prop) : Prop :=
  X 1 [] h fun v0 h_1 =>
  K (.tuple #[]) h_1
theorem e2 (X : CallT) (h : AH) (K : Value → AH → Prop) : cwp2 Try.prog X (Try.f2.body.getD .skip) (endW Try.prog Try.f2 K) (envOf []) h = s2 X  h K := by kernel_rfl
theorem c2 {h : AH} {K : Value → AH → Prop} (hs : s2 (callW Try.prog)  h K) : callW Try.prog 2 [] h K := callW_of Try.func2 (by kernel_rfl) (Eq.mpr (e2 _  _ _) hs)

/-- canopy/canopylaw8.SchemaReads (I at e: live [2, 18, 19], writes [18, 19, 54, 55, 56, 57, 58, 59, 60, 61, 62, 63, 64, 65, 66, 67, 68]; I_1 at e_1: live [2, 20, 21], writes [20, 21, 69, 70, 71, 72, 73, 74, 75, 76, 77]; I_2 at e_2: live [22, 23], writes [14, 23, 24, 25, 26, 27, 28, 29, 125, 126, 127, 128, 129, 130, 131, 132, 133, 134, 135, 136, 137, 138, 139, 140, 141, 142, 143, 144, 145, 146, 147, 148, 149, 150, 151, 152, 153, 154, 155, 156, 157, 158, 159, 160, 161, 162]) -/
def s3 (X : CallT) (a0 a1 a2 a3 a4 a5 a6 : Value) (h : AH) (K : Value → AH → Prop) : Prop :=
  X 12 [] h fun v30 h_1 =>
  optW (pUn .not v30) fun v31 =>
  condW v31 (
    K (.bool false) h_1
  ) (
    optW (lenStr a5) fun v33 =>
    optW (pBin Try.prog .gtr 3 v33 (.int .i64 40)) fun v34 =>
    gopW (gB v34 false) (fun k =>
      k a6 h_1) h_1 fun v36 h_2 =>
    gopW (gB v34 false) (fun k_1 =>
      optW (lenStr v36) fun v37_1 =>
      k_1 v37_1 h_2) h_2 fun v37 h_3 =>
    gopW (gB v34 false) (fun k_2 =>
      optW (pBin Try.prog .gtr 3 v37 (.int .i64 200)) fun v38_1 =>
      k_2 v38_1 h_3) h_3 fun v38 h_4 =>
    optW (pPick v34 (.bool true) v38) fun v39 =>
    condW v39 (
      K (.bool true) h_4
    ) (
      X 14 [a0, a1, (.int .i64 3)] h_4 fun v42 h_5 =>
      X 13 [v42] h_5 fun v43 h_6 =>
      optW (lenStr v43) fun v46 =>
      optW (pBin Try.prog .add 3 v46 (.int .i64 1)) fun v47 =>
      X 15 [a4, v47] h_6 fun v48 h_7 =>
      optW (bldSl 1 [(.string (bs []))] 18 [(0, (.string (bs [32]))), (1, (.string (bs [10]))), (2, (.string (bs [59]))), (3, (.string (bs [40]))), (4, (.string (bs [41]))), (5, (.string (bs [42]))), (6, (.string (bs [43]))), (7, (.string (bs [63]))), (8, (.string (bs [44]))), (9, (.string (bs [124]))), (10, (.string (bs [61]))), (11, (.string (bs [97]))), (12, (.string (bs [97, 110, 121]))), (13, (.string (bs [101, 108, 101, 109, 101, 110, 116, 32, 97, 32, 61, 32, 98, 59]))), (14, (.string (bs [114, 111, 111, 116]))), (15, (.string (bs [101, 109, 112, 116, 121]))), (16, (.string (bs [101, 108, 101, 109, 101, 110, 116]))), (17, (.string (bs [97, 98, 99, 100, 101, 102, 103, 104, 105])))]) fun c =>
      newW none (.row c true) h_7 fun i h_8 =>
      X 15 [a2, (.int .i64 18)] h_8 fun v51 h_9 =>
      optW (pIdxS 1 (.slice (some ⟨i, 0, none⟩) 18 18) v51) fun v52 =>
      optW (rdRow false 1 v52 h_9) fun v53 =>
      loopE (fun I e h_10 =>
        X 15 [(e 2), (.int .i64 4)] h_10 fun v56 h_11 =>
        optW (pBin Try.prog .add 3 (.int .i64 7) v56) fun v57 =>
        optW (pBin Try.prog .lss 3 (e 19) v57) fun v58 =>
        condW v58 (
          optW (pBin Try.prog .add 9 (e 18) (.string (bs [101, 108, 101, 109, 101, 110, 116, 32, 97]))) fun v62 =>
          optW (pBin Try.prog .add 3 (e 19) (.int .i64 1)) fun v65 =>
          optW (pSliceStr (.string (bs [97, 98, 99, 100, 101, 102, 103, 104, 105, 106, 107])) (some (e 19)) (some v65)) fun v66 =>
          optW (pBin Try.prog .add 9 v62 v66) fun v67 =>
          optW (pBin Try.prog .add 9 v67 (.string (bs [61, 101, 109, 112, 116, 121, 59]))) fun v68 =>
          optW (pBin Try.prog .add 3 (e 19) (.int .i64 1)) fun v60 =>
          I (pt (pt (pt (pt (pt (pt (pt (pt (pt (pt (pt (pt (pt (pt (pt (pt (pt e 54 (e 19)) 55 (e 2)) 56 v56) 57 v57) 58 v58) 61 (e 18)) 62 v62) 63 (e 19)) 64 (e 19)) 65 v65) 66 v66) 67 v67) 68 v68) 18 v68) 59 (e 19)) 60 v60) 19 v60) h_11
        ) (
          loopE (fun I_1 e_1 h_12 =>
            X 15 [(e_1 2), (.int .i64 5)] h_12 fun v71 h_13 =>
            optW (pBin Try.prog .add 3 (.int .i64 18) v71) fun v72 =>
            optW (pBin Try.prog .lss 3 (e_1 21) v72) fun v73 =>
            condW v73 (
              optW (pBin Try.prog .add 9 (e_1 20) (.string (bs [40]))) fun v77 =>
              optW (pBin Try.prog .add 3 (e_1 21) (.int .i64 1)) fun v75 =>
              I_1 (pt (pt (pt (pt (pt (pt (pt (pt (pt (pt (pt e_1 69 (e_1 21)) 70 (e_1 2)) 71 v71) 72 v72) 73 v73) 76 (e_1 20)) 77 v77) 20 v77) 74 (e_1 21)) 75 v75) 21 v75) h_13
            ) (
              X 16 [(e_1 15), (e_1 2), (e_1 3)] (reserve 1 h_13) fun v81 h_14 =>
              optW (pSliceStr (e_1 15) none (some (e_1 16))) fun v84 =>
              optW (pSliceStr (e_1 15) none (some (e_1 16))) fun v87 =>
              optW (pBin Try.prog .add 9 v87 (e_1 5)) fun v89 =>
              optW (pSliceStr (e_1 15) (some (e_1 16)) none) fun v92 =>
              optW (pBin Try.prog .add 9 v89 v92) fun v93 =>
              optW (pSliceStr (e_1 15) none (some (e_1 16))) fun v97 =>
              optW (pBin Try.prog .add 9 v97 (e_1 17)) fun v99 =>
              optW (pSliceStr (e_1 15) (some (e_1 16)) none) fun v102 =>
              optW (pBin Try.prog .add 9 v99 v102) fun v103 =>
              optW (pBin Try.prog .add 9 (e_1 15) (e_1 17)) fun v106 =>
              optW (pBin Try.prog .add 9 (e_1 17) (e_1 15)) fun v109 =>
              optW (lenStr (e_1 15)) fun v113 =>
              optW (pMax2 false v113 (.int .i64 7)) fun v114 =>
              optW (pSliceStr (e_1 15) (some v114) none) fun v115 =>
              optW (pBin Try.prog .add 9 (e_1 15) v115) fun v116 =>
              optW (pBin Try.prog .add 9 (.string (bs [114, 111, 111, 116, 32, 97, 59, 101, 108, 101, 109, 101, 110, 116, 32, 97, 61])) (e_1 6)) fun v118 =>
              optW (pBin Try.prog .add 9 (.string (bs [114, 111, 111, 116, 32, 97, 59, 101, 108, 101, 109, 101, 110, 116, 32, 97, 61])) (e_1 20)) fun v121 =>
              optW (pBin Try.prog .add 9 (e_1 18) (.string (bs [101, 108, 101, 109, 101, 110, 116, 32, 97, 61, 98, 59]))) fun v123 =>
              optW (bldSl 1 [(.string (bs []))] 12 [(0, v81), (1, v84), (2, v93), (3, (e_1 6)), (4, v103), (5, v106), (6, v109), (7, v116), (8, v118), (9, (e_1 18)), (10, v121), (11, v123)]) fun c_1 =>
              newW (some (h_13.length)) (.row c_1 true) h_14 fun i_1 h_15 =>
              loopE (fun I_2 e_2 h_16 =>
                optW (lenSl (e_2 22)) fun v127 =>
                optW (pBin Try.prog .lss 3 (e_2 23) v127) fun v128 =>
                condW v128 (
                  optW (pIdxS 1 (e_2 22) (e_2 23)) fun v134 =>
                  optW (rdRow false 1 v134 h_16) fun v135 =>
                  X 17 [v135] h_16 fun v136 h_17 =>
                  optW (pExtract v136 0) fun v137 =>
                  optW (pExtract v136 1) fun v138 =>
                  optW (pExtract v136 2) fun v139 =>
                  newR none [(.string (bs [])), (.slice none 0 0)] h_17 fun v24 h_18 =>
                  optW (pStore 2 v24 v137 h_18) fun h_19 =>
                  optW (pIdxS 1 (e_2 22) (e_2 23)) fun v143 =>
                  optW (rdRow false 1 v143 h_19) fun v144 =>
                  X 18 [v144] h_19 fun v145 h_20 =>
                  optW (pExtract v145 0) fun v146 =>
                  optW (pExtract v145 1) fun v147 =>
                  optW (pExtract v145 2) fun v148 =>
                  newR none [(.string (bs [])), (.slice none 0 0)] h_20 fun v27 h_21 =>
                  optW (pStore 2 v27 v146 h_21) fun h_22 =>
                  optW (pBin Try.prog .neq 3 v139 v148) fun v151 =>
                  gopW (gB v151 false) (fun k_3 =>
                    k_3 v138 h_22) h_22 fun v153 h_23 =>
                  gopW (gB v151 false) (fun k_4 =>
                    k_4 v147 h_23) h_23 fun v154 h_24 =>
                  gopW (gB v151 false) (fun k_5 =>
                    optW (pBin Try.prog .neq 3 v153 v154) fun v155_1 =>
                    k_5 v155_1 h_24) h_24 fun v155 h_25 =>
                  optW (pPick v151 (.bool true) v155) fun v156 =>
                  gopW (gB v156 false) (fun k_6 =>
                    optW (rdRow true 2 v24 h_25) fun v158_1 =>
                    k_6 v158_1 h_25) h_25 fun v158 h_26 =>
                  gopW (gB v156 false) (fun k_7 =>
                    optW (rdRow true 2 v27 h_26) fun v159_1 =>
                    k_7 v159_1 h_26) h_26 fun v159 h_27 =>
                  gopW (gB v156 false) (fun k_8 =>
                    X 19 [v158, v159] h_27 fun v160_1 h_29 =>
                    k_8 v160_1 h_29) h_27 fun v160 h_28 =>
                  gopW (gB v156 false) (fun k_9 =>
                    optW (pUn .not v160) fun v161_1 =>
                    k_9 v161_1 h_28) h_28 fun v161 h_30 =>
                  optW (pPick v156 (.bool true) v161) fun v162 =>
                  condW v162 (
                    K (.bool false) h_30
                  ) (
                    optW (pBin Try.prog .add 3 (e_2 23) (.int .i64 1)) fun v130 =>
                    I_2 (pt (pt (pt (pt (pt (pt (pt (pt (pt (pt (pt (pt (pt (pt (pt (pt (pt (pt (pt (pt (pt (pt (pt (pt (pt (pt (pt (pt (pt (pt (pt (pt (pt (pt (pt (pt (pt (pt (pt (pt (pt (pt (pt (pt (pt e_2 125 (e_2 23)) 126 (e_2 22)) 127 v127) 128 v128) 132 (e_2 22)) 133 (e_2 23)) 134 v134) 135 v135) 136 v136) 131 v136) 137 v137) 138 v138) 139 v139) 24 v24) 25 v138) 26 v139) 141 (e_2 22)) 142 (e_2 23)) 143 v143) 144 v144) 145 v145) 140 v145) 146 v146) 147 v147) 148 v148) 27 v27) 28 v147) 29 v148) 149 v139) 150 v148) 151 v151) 152 v151) 153 v153) 154 v154) 155 v155) 156 v156) 157 v156) 158 v158) 159 v159) 160 v160) 161 v161) 162 v162) 129 (e_2 23)) 130 v130) 23 v130) h_30)
                ) (
                  K (.bool true) h_16))
              (pt (pt (pt (pt (pt (pt (pt (pt (pt (pt (pt (pt (pt (pt (pt (pt (pt (pt (pt (pt (pt (pt (pt (pt (pt (pt (pt (pt (pt (pt (pt (pt (pt (pt (pt (pt (pt (pt (pt (pt (pt (pt (pt (pt (pt (pt (pt (pt (pt (pt (pt (pt (pt (pt e_1 69 (e_1 21)) 70 (e_1 2)) 71 v71) 72 v72) 73 v73) 78 (e_1 15)) 79 (e_1 2)) 80 (e_1 3)) 81 v81) 82 (e_1 15)) 83 (e_1 16)) 84 v84) 85 (e_1 15)) 86 (e_1 16)) 87 v87) 88 (e_1 5)) 89 v89) 90 (e_1 15)) 91 (e_1 16)) 92 v92) 93 v93) 94 (e_1 6)) 95 (e_1 15)) 96 (e_1 16)) 97 v97) 98 (e_1 17)) 99 v99) 100 (e_1 15)) 101 (e_1 16)) 102 v102) 103 v103) 104 (e_1 15)) 105 (e_1 17)) 106 v106) 107 (e_1 17)) 108 (e_1 15)) 109 v109) 110 (e_1 15)) 111 (e_1 15)) 112 (e_1 15)) 113 v113) 114 v114) 115 v115) 116 v116) 117 (e_1 6)) 118 v118) 119 (e_1 18)) 120 (e_1 20)) 121 v121) 122 (e_1 18)) 123 v123) 124 (.slice (some ⟨i_1, 0, none⟩) 12 12)) 22 (.slice (some ⟨i_1, 0, none⟩) 12 12)) 23 (.int .i64 0)) h_15))
          (pt (pt (pt (pt (pt (pt (pt e 54 (e 19)) 55 (e 2)) 56 v56) 57 v57) 58 v58) 20 (.string (bs []))) 21 (.int .i64 0)) h_11))
      (pt (pt (pt (pt (pt (pt (pt (pt (pt (pt (pt (pt (pt (pt (pt (pt (pt (pt (pt (pt (pt (pt (pt (pt (pt (pt (pt (pt (pt (pt (envOf [a0, a1, a2, a3, a4, a5, a6]) 14 (.bool false)) 30 v30) 31 v31) 32 a5) 33 v33) 34 v34) 35 v34) 36 v36) 37 v37) 38 v38) 39 v39) 40 a0) 41 a1) 42 v42) 43 v43) 15 v43) 44 a4) 45 v43) 46 v46) 47 v47) 48 v48) 16 v48) 49 (.slice (some ⟨i, 0, none⟩) 18 18)) 50 a2) 51 v51) 52 v52) 53 v53) 17 v53) 18 (.string (bs [114, 111, 111, 116, 32, 97, 59]))) 19 (.int .i64 0)) h_9))
theorem ee3 (X : CallT) (a0 a1 a2 a3 a4 a5 a6 : Value) (h : AH) (K : Value → AH → Prop) : cwp2 Try.prog X (Try.f3.body.getD .skip) (endW Try.prog Try.f3 K) (envOf [a0, a1, a2, a3, a4, a5, a6]) h = s3 X a0 a1 a2 a3 a4 a5 a6 h K := by kernel_rfl
theorem c3 {a0 a1 a2 a3 a4 a5 a6 : Value} {h : AH} {K : Value → AH → Prop} (hs : s3 (callW Try.prog) a0 a1 a2 a3 a4 a5 a6 h K) : callW Try.prog 3 [a0, a1, a2, a3, a4, a5, a6] h K := callW_of Try.func3 (by kernel_rfl) (Eq.mpr (ee3 _ a0 a1 a2 a3 a4 a5 a6 _ _) hs)

/-- canopy/canopylaw8.SchemaKnown () -/
def s5 (X : CallT) (a0 : Value) (h : AH) (K : Value → AH → Prop) : Prop :=
  X 12 [] h fun v10 h_1 =>
  optW (pUn .not v10) fun v11 =>
  condW v11 (
    K (.bool false) h_1
  ) (
    optW (bldSl 1 [(.string (bs []))] 20 [(0, (.string (bs []))), (1, (.string (bs [114, 111, 111, 116]))), (2, (.string (bs [114, 111, 111, 116, 32, 97]))), (3, (.string (bs [114, 111, 111, 116, 32, 97, 59]))), (4, (.string (bs [114, 111, 111, 116, 32, 97, 59, 32, 101, 108, 101, 109, 101, 110, 116]))), (5, (.string (bs [114, 111, 111, 116, 32, 97, 59, 32, 101, 108, 101, 109, 101, 110, 116, 32, 97]))), (6, (.string (bs [114, 111, 111, 116, 32, 97, 59, 32, 101, 108, 101, 109, 101, 110, 116, 32, 97, 32, 61]))), (7, (.string (bs [114, 111, 111, 116, 32, 97, 59, 32, 101, 108, 101, 109, 101, 110, 116, 32, 97, 32, 61, 32, 59]))), (8, (.string (bs [114, 111, 111, 116, 32, 97, 59, 32, 101, 108, 101, 109, 101, 110, 116, 32, 97, 32, 61, 32, 101, 109, 112, 116, 121]))), (9, (.string (bs [114, 111, 111, 116, 32, 97, 59, 32, 101, 108, 101, 109, 101, 110, 116, 32, 97, 32, 61, 32, 98, 59]))), (10, (.string (bs [114, 111, 111, 116, 32, 98, 59, 32, 101, 108, 101, 109, 101, 110, 116, 32, 97, 32, 61, 32, 97, 59]))), (11, (.string (bs [114, 111, 111, 116, 32, 97, 59, 32, 101, 108, 101, 109, 101, 110, 116, 32, 97, 32, 61, 32, 97, 59, 32, 101, 108, 101, 109, 101, 110, 116, 32, 97, 32, 61, 32, 97, 59]))), (12, (.string (bs [114, 111, 111, 116, 32, 97, 110, 121, 59, 32, 101, 108, 101, 109, 101, 110, 116, 32, 97, 32, 61, 32, 97, 59]))), (13, (.string (bs [114, 111, 111, 116, 32, 97, 59, 32, 101, 108, 101, 109, 101, 110, 116, 32, 97, 32, 61, 32, 97, 42, 42, 59]))), (14, (.string (bs [114, 111, 111, 116, 32, 97, 59, 32, 101, 108, 101, 109, 101, 110, 116, 32, 97, 32, 61, 32, 97, 44, 59]))), (15, (.string (bs [114, 111, 111, 116, 32, 97, 59, 32, 101, 108, 101, 109, 101, 110, 116, 32, 97, 32, 61, 32, 40, 97, 59]))), (16, (.string (bs [114, 111, 111, 116, 32, 97, 59, 32, 101, 108, 101, 109, 101, 110, 116, 32, 97, 32, 61, 32, 97, 41, 59]))), (17, (.string (bs [82, 111, 111, 116, 32, 97, 59]))), (18, (.string (bs [114, 111, 111, 116, 32, 97, 59, 32, 101, 108, 101, 109, 101, 110, 116, 115, 32, 97, 32, 61, 32, 97, 59]))), (19, (.string (bs [114, 111, 111, 116, 32, 97, 98, 99, 100, 101, 102, 103, 104, 105, 59])))]) fun c =>
    newW none (.row c true) h_1 fun i h_2 =>
    optW (bldSl 1 [(.int .i64 0)] 20 [(0, (.int .i64 0)), (1, (.int .i64 4)), (2, (.int .i64 6)), (3, (.int .i64 0)), (4, (.int .i64 15)), (5, (.int .i64 17)), (6, (.int .i64 19)), (7, (.int .i64 20)), (8, (.int .i64 25)), (9, (.int .i64 0)), (10, (.int .i64 0)), (11, (.int .i64 31)), (12, (.int .i64 5)), (13, (.int .i64 22)), (14, (.int .i64 22)), (15, (.int .i64 22)), (16, (.int .i64 21)), (17, (.int .i64 0)), (18, (.int .i64 8)), (19, (.int .i64 5))]) fun c_1 =>
    newW none (.row c_1 true) h_2 fun i_1 h_3 =>
    optW (bldSl 1 [(.int .i64 0)] 20 [(0, (.int .i64 1)), (1, (.int .i64 1)), (2, (.int .i64 1)), (3, (.int .i64 6)), (4, (.int .i64 1)), (5, (.int .i64 1)), (6, (.int .i64 1)), (7, (.int .i64 1)), (8, (.int .i64 1)), (9, (.int .i64 6)), (10, (.int .i64 6)), (11, (.int .i64 5)), (12, (.int .i64 1)), (13, (.int .i64 1)), (14, (.int .i64 1)), (15, (.int .i64 1)), (16, (.int .i64 1)), (17, (.int .i64 1)), (18, (.int .i64 1)), (19, (.int .i64 1))]) fun c_2 =>
    newW none (.row c_2 true) h_3 fun i_2 h_4 =>
    optW (lenSl (.slice (some ⟨i, 0, none⟩) 20 20)) fun v17 =>
    X 15 [a0, v17] h_4 fun v18 h_5 =>
    optW (pIdxS 1 (.slice (some ⟨i, 0, none⟩) 20 20) v18) fun v22 =>
    optW (rdRow false 1 v22 h_5) fun v23 =>
    X 17 [v23] h_5 fun v24 h_6 =>
    optW (pExtract v24 0) fun v25 =>
    optW (pExtract v24 1) fun v26 =>
    optW (pExtract v24 2) fun v27 =>
    newR none [(.string (bs [])), (.slice none 0 0)] h_6 fun v7 h_7 =>
    optW (pStore 2 v7 v25 h_7) fun h_8 =>
    optW (pIdxS 1 (.slice (some ⟨i_2, 0, none⟩) 20 20) v18) fun v31 =>
    optW (rdRow false 1 v31 h_8) fun v32 =>
    optW (pBin Try.prog .eql 32 v27 v32) fun v33 =>
    gopW (gB v33 true) (fun k =>
      k v26 h_8) h_8 fun v35 h_9 =>
    gopW (gB v33 true) (fun k_1 =>
      k_1 (.slice (some ⟨i_1, 0, none⟩) 20 20) h_9) h_9 fun v36 h_10 =>
    gopW (gB v33 true) (fun k_2 =>
      k_2 v18 h_10) h_10 fun v37 h_11 =>
    gopW (gB v33 true) (fun k_3 =>
      optW (pIdxS 1 v36 v37) fun v38_1 =>
      k_3 v38_1 h_11) h_11 fun v38 h_12 =>
    gopW (gB v33 true) (fun k_4 =>
      optW (rdRow false 1 v38 h_12) fun v39_1 =>
      k_4 v39_1 h_12) h_12 fun v39 h_13 =>
    gopW (gB v33 true) (fun k_5 =>
      optW (pBin Try.prog .eql 3 v35 v39) fun v40_1 =>
      k_5 v40_1 h_13) h_13 fun v40 h_14 =>
    optW (pPick v33 v40 (.bool false)) fun v41 =>
    gopW (gB v41 true) (fun k_6 =>
      optW (pOff 1 v7) fun v43_1 =>
      k_6 v43_1 h_14) h_14 fun v43 h_15 =>
    gopW (gB v41 true) (fun k_7 =>
      optW (rdRow false 1 v43 h_15) fun v44_1 =>
      k_7 v44_1 h_15) h_15 fun v44 h_16 =>
    gopW (gB v41 true) (fun k_8 =>
      optW (lenSl v44) fun v45_1 =>
      k_8 v45_1 h_16) h_16 fun v45 h_17 =>
    gopW (gB v41 true) (fun k_9 =>
      optW (pBin Try.prog .eql 3 v45 (.int .i64 0)) fun v46_1 =>
      k_9 v46_1 h_17) h_17 fun v46 h_18 =>
    optW (pPick v41 v46 (.bool false)) fun v47 =>
    K v47 h_18)
theorem e5 (X : CallT) (a0 : Value) (h : AH) (K : Value → AH → Prop) : cwp2 Try.prog X (Try.f5.body.getD .skip) (endW Try.prog Try.f5 K) (envOf [a0]) h = s5 X a0 h K := by kernel_rfl
theorem c5 {a0 : Value} {h : AH} {K : Value → AH → Prop} (hs : s5 (callW Try.prog) a0 h K) : callW Try.prog 5 [a0] h K := callW_of Try.func5 (by kernel_rfl) (Eq.mpr (e5 _ a0 _ _) hs)

end Go.Proofs.Ytlenlhlipmkeeaa.W
end

section
/- Go functions, printed by a program as predicates on what may come behind; each is the function. Conditions: none. -/
namespace Go.Proofs.Ytlenlhlipmkeeaa.W
open Go Go.AM
set_option linter.unusedVariables false
set_option maxRecDepth 100000

end Go.Proofs.Ytlenlhlipmkeeaa.W
end
