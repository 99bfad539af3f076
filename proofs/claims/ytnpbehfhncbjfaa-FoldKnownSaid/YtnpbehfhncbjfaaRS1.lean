/- Go functions, printed by a program as predicates on what may come behind; each is the function. Conditions: none. -/
import Derived.Test.YtnpbehfhncbjfaaRA2
import Derived.Test.YtnpbehfhncbjfaaProg
namespace Go.Proofs.Ytnpbehfhncbjfaa.W
open Go Go.AM
set_option linter.unusedVariables false
set_option maxRecDepth 100000

/-- canopy/canopylaw13.FoldTwice (I at e: live [2, 7, 8, 9, 10, 11], writes [10, 11, 12, 13, 14, 15, 16, 17, 18, 19, 20, 54, 55, 56, 57, 58, 59, 60, 61, 62, 63, 64, 65, 66, 67, 68, 69, 70, 71, 72, 73, 74, 75, 76, 77, 78, 79, 80, 81, 82, 83, 84, 85, 86, 87, 88, 89, 90, 91, 92, 93, 94, 95, 96, 97, 98, 99, 100, 101, 102, 103, 104, 105, 106, 107, 108, 109, 110, 111, 112, 113, 114, 115, 116, 117, 118, 119, 120, 121, 122, 123, 124, 125, 126, 127, 128, 129, 130, 131, 132, 133, 134, 135, 136, 137, 138, 139, 140, 141, 142, 143, 144, 145, 146, 147, 148, 149, 150, 151, 152, 153, 154, 155, 156, 157, 158, 159, 160, 161, 162, 163, 164, 165, 166, 167, 168, 169, 170, 171, 172, 173, 174, 175, 176, 177, 178, 179, 180, 181, 182, 183, 184, 185, 186, 187, 188, 189, 190, 191]; I_1 at e_1: live [2, 7, 8, 9, 10, 12], writes [10, 12, 13, 14, 15, 16, 17, 18, 19, 20, 58, 59, 60, 61, 62, 63, 64, 65, 66, 67, 68, 69, 70, 71, 72, 73, 74, 75, 76, 77, 78, 79, 80, 81, 82, 83, 84, 85, 86, 87, 88, 89, 90, 91, 92, 93, 94, 95, 96, 97, 98, 99, 100, 101, 102, 103, 104, 105, 106, 107, 108, 109, 110, 111, 112, 113, 114, 115, 116, 117, 118, 119, 120, 121, 122, 123, 124, 125, 126, 127, 128, 129, 130, 131, 132, 133, 134, 135, 136, 137, 138, 139, 140, 141, 142, 143, 144, 145, 146, 147, 148, 149, 150, 151, 152, 153, 154, 155, 156, 157, 158, 159, 160, 161, 162, 163, 164, 165, 166, 167, 168, 169, 170, 171, 172, 173, 174, 175, 176, 177, 178, 179, 180, 181, 182, 183, 184, 185, 186, 187, 188, 189, 190, 191]; I_2 at e_2: live [2, 7, 8, 10, 12, 13, 16], writes [10, 13, 16, 63, 64, 65, 66, 67, 68, 69, 70, 71, 72, 73, 74, 75, 76, 77, 78, 79, 80, 81, 82, 83, 84, 85, 86, 87, 88, 89, 90, 91, 92, 93, 94]; I_3 at e_3: live [2, 7, 8, 10, 12, 14, 17], writes [10, 14, 17, 95, 96, 97, 98, 99, 100, 101, 102, 103, 104, 105, 106, 107, 108, 109, 110, 111, 112, 113, 114, 115, 116, 117, 118, 119, 120, 121, 122, 123, 124, 125, 126]; I_4 at e_4: live [2, 7, 8, 10, 12, 15, 18], writes [10, 15, 18, 19, 20, 127, 128, 129, 130, 131, 132, 133, 134, 135, 136, 137, 138, 139, 140, 141, 142, 143, 144, 145, 146, 147, 148, 149, 150, 151, 152, 153, 154, 155, 156, 157, 158, 159, 160, 161, 162, 163, 164, 165, 166, 167, 168, 169, 170, 171, 172, 173]; I_5 at e_5: live [2, 7, 8, 10, 12, 18, 19, 20], writes [10, 19, 20, 137, 138, 139, 140, 141, 142, 143, 144, 145, 146, 147, 148, 149, 150, 151, 152, 153, 154, 155, 156, 157, 158, 159, 160, 161, 162, 163, 164, 165, 166, 167, 168, 169]) -/
def s6 (X : CallT) (a0 a1 a2 : Value) (h : AH) (K : Value → AH → Prop) : Prop :=
  X 13 [] h fun v25 h =>
  optW (pUn .not v25) fun v26 =>
  condW v26 (
    K (.bool false) h
  ) (
    X 14 [a0, a1] h fun v29 h_1 =>
    newR none [(.int .i64 0), (.int .i64 0), (.slice none 0 0), (.slice none 0 0), (.slice none 0 0), (.slice none 0 0), (.slice none 0 0), (.slice none 0 0)] h_1 fun v7 h_2 =>
    optW (pStore 8 v7 v29 h_2) fun h_3 =>
    optW (pOff 2 v7) fun v30 =>
    optW (rdRow false 1 v30 h_3) fun v31 =>
    optW (lenSl v31) fun v32 =>
    optW (pOff 0 v7) fun v33 =>
    optW (rdRow false 1 v33 (reserve 3 h_3)) fun v34 =>
    optW (pOff 1 v7) fun v35 =>
    optW (rdRow false 1 v35 (reserve 3 h_3)) fun v36 =>
    optW (bldSl 1 [(.int .i64 0)] 0 []) fun c =>
    newW (some (h_3.length)) (.row c true) (reserve 3 h_3) fun i h_4 =>
    optW (pOff 2 v7) fun v38 =>
    (∀ x ∈ (idOf v38), ((reserve 3 h_3) : AH)[x]? = (h_4 : AH)[x]?) ∧
    optW (rdRow false 1 v38 h_4) fun v39 =>
    appSl 1 (.slice (some ⟨i, 0, none⟩) 0 0) v39 h_4 fun v40 h_5 =>
    (∀ x ∈ (idOf v35), (h_4 : AH)[x]? = (h_5 : AH)[x]?) ∧
    (∀ x ∈ (idOf v33), (h_4 : AH)[x]? = (h_5 : AH)[x]?) ∧
    optW (pOff 2 v7) fun v41 =>
    (∀ x ∈ (idOf v41), (h_4 : AH)[x]? = (h_5 : AH)[x]?) ∧
    (∀ x ∈ (idOf v41), ((reserve 3 h_3) : AH)[x]? = (h_4 : AH)[x]?) ∧
    optW (rdRow false 1 v41 h_5) fun v42 =>
    appSl 1 v40 v42 h_5 fun v43 h_6 =>
    (∀ x ∈ (idOf v35), (h_5 : AH)[x]? = (h_6 : AH)[x]?) ∧
    (∀ x ∈ (idOf v33), (h_5 : AH)[x]? = (h_6 : AH)[x]?) ∧
    optW (pOff 3 v7) fun v44 =>
    (∀ x ∈ (idOf v44), (h_5 : AH)[x]? = (h_6 : AH)[x]?) ∧
    (∀ x ∈ (idOf v44), (h_4 : AH)[x]? = (h_5 : AH)[x]?) ∧
    (∀ x ∈ (idOf v44), ((reserve 3 h_3) : AH)[x]? = (h_4 : AH)[x]?) ∧
    optW (rdRow false 1 v44 h_6) fun v45 =>
    optW (bldSl 1 [(.bool false)] 0 []) fun c_1 =>
    newW (some (h_3.length + 1)) (.row c_1 true) h_6 fun i_1 h_7 =>
    optW (pOff 4 v7) fun v47 =>
    (∀ x ∈ (idOf v47), (h_6 : AH)[x]? = (h_7 : AH)[x]?) ∧
    (∀ x ∈ (idOf v47), (h_5 : AH)[x]? = (h_6 : AH)[x]?) ∧
    (∀ x ∈ (idOf v47), (h_4 : AH)[x]? = (h_5 : AH)[x]?) ∧
    (∀ x ∈ (idOf v47), ((reserve 3 h_3) : AH)[x]? = (h_4 : AH)[x]?) ∧
    optW (rdRow false 1 v47 h_7) fun v48 =>
    appSl 1 (.slice (some ⟨i_1, 0, none⟩) 0 0) v48 h_7 fun v49 h_8 =>
    (∀ x ∈ (idOf v44), (h_7 : AH)[x]? = (h_8 : AH)[x]?) ∧
    (∀ x ∈ (idOf v35), (h_7 : AH)[x]? = (h_8 : AH)[x]?) ∧
    (∀ x ∈ (idOf v33), (h_7 : AH)[x]? = (h_8 : AH)[x]?) ∧
    optW (pOff 4 v7) fun v50 =>
    (∀ x ∈ (idOf v50), (h_7 : AH)[x]? = (h_8 : AH)[x]?) ∧
    (∀ x ∈ (idOf v50), (h_6 : AH)[x]? = (h_7 : AH)[x]?) ∧
    (∀ x ∈ (idOf v50), (h_5 : AH)[x]? = (h_6 : AH)[x]?) ∧
    (∀ x ∈ (idOf v50), (h_4 : AH)[x]? = (h_5 : AH)[x]?) ∧
    (∀ x ∈ (idOf v50), ((reserve 3 h_3) : AH)[x]? = (h_4 : AH)[x]?) ∧
    optW (rdRow false 1 v50 h_8) fun v51 =>
    appSl 1 v49 v51 h_8 fun v52 h_9 =>
    (∀ x ∈ (idOf v44), (h_8 : AH)[x]? = (h_9 : AH)[x]?) ∧
    (∀ x ∈ (idOf v35), (h_8 : AH)[x]? = (h_9 : AH)[x]?) ∧
    (∀ x ∈ (idOf v33), (h_8 : AH)[x]? = (h_9 : AH)[x]?) ∧
    optW (bld [(.int .i64 0), (.int .i64 0), (.slice none 0 0), (.slice none 0 0), (.slice none 0 0), (.slice none 0 0), (.slice none 0 0), (.slice none 0 0)] [(0, 1), (1, 1), (2, 1), (3, 1), (4, 1), (5, 1), (6, 1), (7, 1)] [(0, v34), (1, v36), (2, v43), (3, v45), (4, v52)]) fun v53 =>
    newR (some (h_3.length + 2)) [(.int .i64 0), (.int .i64 0), (.slice none 0 0), (.slice none 0 0), (.slice none 0 0), (.slice none 0 0), (.slice none 0 0), (.slice none 0 0)] h_9 fun v9 h_10 =>
    optW (pStore 8 v9 v53 h_10) fun h_11 =>
    loopE (fun I e h_12 =>
      optW (pBin Try.prog .lss 3 (e 11) (.int .i64 2)) fun v55 =>
      condW v55 (
        loopE (fun I_1 e_1 h_13 =>
          optW (pBin Try.prog .lss 3 (e_1 12) (e_1 8)) fun v60 =>
          condW v60 (
            loopE (fun I_2 e_2 h_14 =>
              optW (pOff 5 (e_2 7)) fun v64 =>
              optW (rdRow false 1 v64 h_14) fun v65 =>
              optW (pIdxS 1 v65 (e_2 12)) fun v67 =>
              optW (rdRow false 1 v67 h_14) fun v68 =>
              optW (lenSl v68) fun v69 =>
              optW (pBin Try.prog .lss 3 (e_2 16) v69) fun v70 =>
              condW v70 (
                optW (pOff 5 (e_2 7)) fun v74 =>
                optW (rdRow false 1 v74 h_14) fun v75 =>
                optW (pIdxS 1 v75 (e_2 12)) fun v77 =>
                optW (rdRow false 1 v77 h_14) fun v78 =>
                optW (pIdxS 1 v78 (e_2 16)) fun v80 =>
                optW (rdRow false 1 v80 h_14) fun v81 =>
                optW (pBin Try.prog .rem 3 (e_2 10) (.int .i64 40)) fun v85 =>
                optW (convI .u64 v85) fun v86 =>
                optW (pBin Try.prog .shr 3 (e_2 2) v86) fun v87 =>
                optW (pBin Try.prog .and 3 v87 (.int .i64 1)) fun v88 =>
                optW (pBin Try.prog .mul 3 (e_2 8) v88) fun v89 =>
                optW (pBin Try.prog .add 3 v81 v89) fun v90 =>
                optW (bldSl 1 [(.int .i64 0)] 1 [(0, v90)]) fun c_2 =>
                newW none (.row c_2 true) h_14 fun i_2 h_15 =>
                appSl 1 (e_2 13) (.slice (some ⟨i_2, 0, none⟩) 1 1) h_15 fun v92 h_16 =>
                optW (pBin Try.prog .add 3 (e_2 10) (.int .i64 1)) fun v94 =>
                optW (pBin Try.prog .add 3 (e_2 16) (.int .i64 1)) fun v72 =>
                I_2 (pt (pt (pt (pt (pt (pt (pt (pt (pt (pt (pt (pt (pt (pt (pt (pt (pt (pt (pt (pt (pt (pt (pt (pt (pt (pt (pt (pt (pt (pt (pt (pt (pt (pt (pt e_2 63 (e_2 16)) 64 v64) 65 v65) 66 (e_2 12)) 67 v67) 68 v68) 69 v69) 70 v70) 73 (e_2 13)) 74 v74) 75 v75) 76 (e_2 12)) 77 v77) 78 v78) 79 (e_2 16)) 80 v80) 81 v81) 82 (e_2 8)) 83 (e_2 2)) 84 (e_2 10)) 85 v85) 86 v86) 87 v87) 88 v88) 89 v89) 90 v90) 91 (.slice (some ⟨i_2, 0, none⟩) 1 1)) 92 v92) 13 v92) 93 (e_2 10)) 94 v94) 10 v94) 71 (e_2 16)) 72 v72) 16 v72) h_16
              ) (
                loopE (fun I_3 e_3 h_17 =>
                  optW (pOff 6 (e_3 7)) fun v96 =>
                  optW (rdRow false 1 v96 h_17) fun v97 =>
                  optW (pIdxS 1 v97 (e_3 12)) fun v99 =>
                  optW (rdRow false 1 v99 h_17) fun v100 =>
                  optW (lenSl v100) fun v101 =>
                  optW (pBin Try.prog .lss 3 (e_3 17) v101) fun v102 =>
                  condW v102 (
                    optW (pOff 6 (e_3 7)) fun v106 =>
                    optW (rdRow false 1 v106 h_17) fun v107 =>
                    optW (pIdxS 1 v107 (e_3 12)) fun v109 =>
                    optW (rdRow false 1 v109 h_17) fun v110 =>
                    optW (pIdxS 1 v110 (e_3 17)) fun v112 =>
                    optW (rdRow false 1 v112 h_17) fun v113 =>
                    optW (pBin Try.prog .rem 3 (e_3 10) (.int .i64 40)) fun v117 =>
                    optW (convI .u64 v117) fun v118 =>
                    optW (pBin Try.prog .shr 3 (e_3 2) v118) fun v119 =>
                    optW (pBin Try.prog .and 3 v119 (.int .i64 1)) fun v120 =>
                    optW (pBin Try.prog .mul 3 (e_3 8) v120) fun v121 =>
                    optW (pBin Try.prog .add 3 v113 v121) fun v122 =>
                    optW (bldSl 1 [(.int .i64 0)] 1 [(0, v122)]) fun c_3 =>
                    newW none (.row c_3 true) h_17 fun i_3 h_18 =>
                    appSl 1 (e_3 14) (.slice (some ⟨i_3, 0, none⟩) 1 1) h_18 fun v124 h_19 =>
                    optW (pBin Try.prog .add 3 (e_3 10) (.int .i64 1)) fun v126 =>
                    optW (pBin Try.prog .add 3 (e_3 17) (.int .i64 1)) fun v104 =>
                    I_3 (pt (pt (pt (pt (pt (pt (pt (pt (pt (pt (pt (pt (pt (pt (pt (pt (pt (pt (pt (pt (pt (pt (pt (pt (pt (pt (pt (pt (pt (pt (pt (pt (pt (pt (pt e_3 95 (e_3 17)) 96 v96) 97 v97) 98 (e_3 12)) 99 v99) 100 v100) 101 v101) 102 v102) 105 (e_3 14)) 106 v106) 107 v107) 108 (e_3 12)) 109 v109) 110 v110) 111 (e_3 17)) 112 v112) 113 v113) 114 (e_3 8)) 115 (e_3 2)) 116 (e_3 10)) 117 v117) 118 v118) 119 v119) 120 v120) 121 v121) 122 v122) 123 (.slice (some ⟨i_3, 0, none⟩) 1 1)) 124 v124) 14 v124) 125 (e_3 10)) 126 v126) 10 v126) 103 (e_3 17)) 104 v104) 17 v104) h_19
                  ) (
                    loopE (fun I_4 e_4 h_20 =>
                      optW (pOff 7 (e_4 7)) fun v128 =>
                      optW (rdRow false 1 v128 h_20) fun v129 =>
                      optW (pIdxS 1 v129 (e_4 12)) fun v131 =>
                      optW (rdRow false 1 v131 h_20) fun v132 =>
                      optW (lenSl v132) fun v133 =>
                      optW (pBin Try.prog .lss 3 (e_4 18) v133) fun v134 =>
                      condW v134 (
                        loopE (fun I_5 e_5 h_21 =>
                          optW (pBin Try.prog .mul 3 (.int .i64 2) (e_5 8)) fun v139 =>
                          optW (pBin Try.prog .lss 3 (e_5 20) v139) fun v140 =>
                          condW v140 (
                            optW (pOff 7 (e_5 7)) fun v144 =>
                            optW (rdRow false 1 v144 (reserve 1 h_21)) fun v145 =>
                            optW (pIdxS 1 v145 (e_5 12)) fun v147 =>
                            optW (rdRow false 1 v147 (reserve 1 h_21)) fun v148 =>
                            optW (pIdxS 1 v148 (e_5 18)) fun v150 =>
                            optW (rdRow false 1 v150 (reserve 1 h_21)) fun v151 =>
                            optW (pBin Try.prog .rem 3 (e_5 20) (e_5 8)) fun v154 =>
                            optW (pIdxS 1 v151 v154) fun v155 =>
                            optW (rdRow false 1 v155 (reserve 1 h_21)) fun v156 =>
                            optW (pBin Try.prog .rem 3 (e_5 10) (.int .i64 40)) fun v160 =>
                            optW (convI .u64 v160) fun v161 =>
                            optW (pBin Try.prog .shr 3 (e_5 2) v161) fun v162 =>
                            optW (pBin Try.prog .and 3 v162 (.int .i64 1)) fun v163 =>
                            optW (pBin Try.prog .mul 3 (e_5 8) v163) fun v164 =>
                            optW (pBin Try.prog .add 3 v156 v164) fun v165 =>
                            optW (bldSl 1 [(.int .i64 0)] 1 [(0, v165)]) fun c_4 =>
                            newW (some (h_21.length)) (.row c_4 true) (reserve 1 h_21) fun i_4 h_22 =>
                            appSl 1 (e_5 19) (.slice (some ⟨i_4, 0, none⟩) 1 1) h_22 fun v167 h_23 =>
                            optW (pBin Try.prog .add 3 (e_5 10) (.int .i64 1)) fun v169 =>
                            optW (pBin Try.prog .add 3 (e_5 20) (.int .i64 1)) fun v142 =>
                            I_5 (pt (pt (pt (pt (pt (pt (pt (pt (pt (pt (pt (pt (pt (pt (pt (pt (pt (pt (pt (pt (pt (pt (pt (pt (pt (pt (pt (pt (pt (pt (pt (pt (pt (pt (pt (pt e_5 137 (e_5 20)) 138 (e_5 8)) 139 v139) 140 v140) 143 (e_5 19)) 144 v144) 145 v145) 146 (e_5 12)) 147 v147) 148 v148) 149 (e_5 18)) 150 v150) 151 v151) 152 (e_5 20)) 153 (e_5 8)) 154 v154) 155 v155) 156 v156) 157 (e_5 8)) 158 (e_5 2)) 159 (e_5 10)) 160 v160) 161 v161) 162 v162) 163 v163) 164 v164) 165 v165) 166 (.slice (some ⟨i_4, 0, none⟩) 1 1)) 167 v167) 19 v167) 168 (e_5 10)) 169 v169) 10 v169) 141 (e_5 20)) 142 v142) 20 v142) h_23
                          ) (
                            optW (bldSl 1 [(.slice none 0 0)] 1 [(0, (e_5 19))]) fun c_5 =>
                            newW none (.row c_5 true) h_21 fun i_5 h_24 =>
                            appSl 1 (e_5 15) (.slice (some ⟨i_5, 0, none⟩) 1 1) h_24 fun v173 h_25 =>
                            optW (pBin Try.prog .add 3 (e_5 18) (.int .i64 1)) fun v136 =>
                            I_4 (pt (pt (pt (pt (pt (pt (pt (pt (pt (pt (pt (pt e_5 137 (e_5 20)) 138 (e_5 8)) 139 v139) 140 v140) 170 (e_5 15)) 171 (e_5 19)) 172 (.slice (some ⟨i_5, 0, none⟩) 1 1)) 173 v173) 15 v173) 135 (e_5 18)) 136 v136) 18 v136) h_25))
                        (pt (pt (pt (pt (pt (pt (pt (pt (pt (pt e_4 127 (e_4 18)) 128 v128) 129 v129) 130 (e_4 12)) 131 v131) 132 v132) 133 v133) 134 v134) 19 (.slice none 0 0)) 20 (.int .i64 0)) h_20
                      ) (
                        optW (pOff 5 (e_4 9)) fun v174 =>
                        optW (rdRow false 1 v174 (reserve 3 h_20)) fun v175 =>
                        optW (bldSl 1 [(.slice none 0 0)] 1 [(0, (e_4 13))]) fun c_6 =>
                        newW (some (h_20.length)) (.row c_6 true) (reserve 3 h_20) fun i_6 h_26 =>
                        appSl 1 v175 (.slice (some ⟨i_6, 0, none⟩) 1 1) h_26 fun v178 h_27 =>
                        optW (pOff 6 (e_4 9)) fun v179 =>
                        (∀ x ∈ (idOf v179), (h_26 : AH)[x]? = (h_27 : AH)[x]?) ∧
                        (∀ x ∈ (idOf v179), ((reserve 3 h_20) : AH)[x]? = (h_26 : AH)[x]?) ∧
                        optW (rdRow false 1 v179 h_27) fun v180 =>
                        optW (bldSl 1 [(.slice none 0 0)] 1 [(0, (e_4 14))]) fun c_7 =>
                        newW (some (h_20.length + 1)) (.row c_7 true) h_27 fun i_7 h_28 =>
                        appSl 1 v180 (.slice (some ⟨i_7, 0, none⟩) 1 1) h_28 fun v183 h_29 =>
                        optW (pOff 7 (e_4 9)) fun v184 =>
                        (∀ x ∈ (idOf v184), (h_28 : AH)[x]? = (h_29 : AH)[x]?) ∧
                        (∀ x ∈ (idOf v184), (h_27 : AH)[x]? = (h_28 : AH)[x]?) ∧
                        (∀ x ∈ (idOf v184), (h_26 : AH)[x]? = (h_27 : AH)[x]?) ∧
                        (∀ x ∈ (idOf v184), ((reserve 3 h_20) : AH)[x]? = (h_26 : AH)[x]?) ∧
                        optW (rdRow false 1 v184 h_29) fun v185 =>
                        optW (bldSl 1 [(.slice none 0 0)] 1 [(0, (e_4 15))]) fun c_8 =>
                        newW (some (h_20.length + 2)) (.row c_8 true) h_29 fun i_8 h_30 =>
                        appSl 1 v185 (.slice (some ⟨i_8, 0, none⟩) 1 1) h_30 fun v188 h_31 =>
                        optW (pOff 5 (e_4 9)) fun v189 =>
                        optW (pStore 1 v189 v178 h_31) fun h_32 =>
                        optW (pOff 6 (e_4 9)) fun v190 =>
                        optW (pStore 1 v190 v183 h_32) fun h_33 =>
                        optW (pOff 7 (e_4 9)) fun v191 =>
                        optW (pStore 1 v191 v188 h_33) fun h_34 =>
                        optW (pBin Try.prog .add 3 (e_4 12) (.int .i64 1)) fun v62 =>
                        I_1 (pt (pt (pt (pt (pt (pt (pt (pt (pt (pt (pt (pt (pt (pt (pt (pt (pt (pt (pt (pt (pt (pt (pt (pt (pt (pt (pt (pt (pt e_4 127 (e_4 18)) 128 v128) 129 v129) 130 (e_4 12)) 131 v131) 132 v132) 133 v133) 134 v134) 174 v174) 175 v175) 176 (e_4 13)) 177 (.slice (some ⟨i_6, 0, none⟩) 1 1)) 178 v178) 179 v179) 180 v180) 181 (e_4 14)) 182 (.slice (some ⟨i_7, 0, none⟩) 1 1)) 183 v183) 184 v184) 185 v185) 186 (e_4 15)) 187 (.slice (some ⟨i_8, 0, none⟩) 1 1)) 188 v188) 189 v189) 190 v190) 191 v191) 61 (e_4 12)) 62 v62) 12 v62) h_34))
                    (pt (pt (pt (pt (pt (pt (pt (pt (pt e_3 95 (e_3 17)) 96 v96) 97 v97) 98 (e_3 12)) 99 v99) 100 v100) 101 v101) 102 v102) 18 (.int .i64 0)) h_17))
                (pt (pt (pt (pt (pt (pt (pt (pt (pt e_2 63 (e_2 16)) 64 v64) 65 v65) 66 (e_2 12)) 67 v67) 68 v68) 69 v69) 70 v70) 17 (.int .i64 0)) h_14))
            (pt (pt (pt (pt (pt (pt (pt e_1 58 (e_1 12)) 59 (e_1 8)) 60 v60) 13 (.slice none 0 0)) 14 (.slice none 0 0)) 15 (.slice none 0 0)) 16 (.int .i64 0)) h_13
          ) (
            optW (pBin Try.prog .add 3 (e_1 11) (.int .i64 1)) fun v57 =>
            I (pt (pt (pt (pt (pt (pt e_1 58 (e_1 12)) 59 (e_1 8)) 60 v60) 56 (e_1 11)) 57 v57) 11 v57) h_13))
        (pt (pt (pt e 54 (e 11)) 55 v55) 12 (.int .i64 0)) h_12
      ) (
        optW (rdRow true 8 (e 7) h_12) fun v193 =>
        X 18 [v193] h_12 fun v194 h_35 =>
        optW (pExtract v194 0) fun v195 =>
        optW (pExtract v194 1) fun v196 =>
        newR none [(.int .i64 0), (.int .i64 0), (.slice none 0 0), (.slice none 0 0), (.slice none 0 0), (.slice none 0 0), (.slice none 0 0), (.slice none 0 0)] h_35 fun v21 h_36 =>
        optW (pStore 8 v21 v195 h_36) fun h_37 =>
        optW (rdRow true 8 (e 9) h_37) fun v198 =>
        X 18 [v198] h_37 fun v199 h_38 =>
        optW (pExtract v199 0) fun v200 =>
        optW (pExtract v199 1) fun v201 =>
        newR none [(.int .i64 0), (.int .i64 0), (.slice none 0 0), (.slice none 0 0), (.slice none 0 0), (.slice none 0 0), (.slice none 0 0), (.slice none 0 0)] h_38 fun v23 h_39 =>
        optW (pStore 8 v23 v200 h_39) fun h_40 =>
        optW (pBin Try.prog .eql 30 v196 (.int .i64 0)) fun v203 =>
        gopW (gB v203 true) (fun k =>
          k v201 h_40) h_40 fun v205 h_41 =>
        gopW (gB v203 true) (fun k_1 =>
          optW (pBin Try.prog .eql 30 v205 (.int .i64 0)) fun v206_1 =>
          k_1 v206_1 h_41) h_41 fun v206 h_42 =>
        optW (pPick v203 v206 (.bool false)) fun v207 =>
        gopW (gB v207 true) (fun k_2 =>
          optW (pOff 2 v21) fun v209_1 =>
          k_2 v209_1 h_42) h_42 fun v209 h_43 =>
        gopW (gB v207 true) (fun k_3 =>
          optW (rdRow false 1 v209 h_43) fun v210_1 =>
          k_3 v210_1 h_43) h_43 fun v210 h_44 =>
        gopW (gB v207 true) (fun k_4 =>
          optW (lenSl v210) fun v211_1 =>
          k_4 v211_1 h_44) h_44 fun v211 h_45 =>
        gopW (gB v207 true) (fun k_5 =>
          optW (pOff 2 v23) fun v212_1 =>
          k_5 v212_1 h_45) h_45 fun v212 h_46 =>
        gopW (gB v207 true) (fun k_6 =>
          optW (rdRow false 1 v212 h_46) fun v213_1 =>
          k_6 v213_1 h_46) h_46 fun v213 h_47 =>
        gopW (gB v207 true) (fun k_7 =>
          optW (lenSl v213) fun v214_1 =>
          k_7 v214_1 h_47) h_47 fun v214 h_48 =>
        gopW (gB v207 true) (fun k_8 =>
          optW (pBin Try.prog .eql 3 v211 v214) fun v215_1 =>
          k_8 v215_1 h_48) h_48 fun v215 h_49 =>
        optW (pPick v207 v215 (.bool false)) fun v216 =>
        K v216 h_49))
    (pt (pt (pt (pt (pt (pt (pt (pt (pt (pt (pt (pt (pt (pt (pt (pt (pt (pt (pt (pt (pt (pt (pt (pt (pt (pt (pt (pt (pt (pt (pt (pt (pt (pt (pt (envOf [a0, a1, a2]) 6 (.bool false)) 25 v25) 26 v26) 27 a0) 28 a1) 29 v29) 7 v7) 30 v30) 31 v31) 32 v32) 8 v32) 33 v33) 34 v34) 35 v35) 36 v36) 37 (.slice (some ⟨i, 0, none⟩) 0 0)) 38 v38) 39 v39) 40 v40) 41 v41) 42 v42) 43 v43) 44 v44) 45 v45) 46 (.slice (some ⟨i_1, 0, none⟩) 0 0)) 47 v47) 48 v48) 49 v49) 50 v50) 51 v51) 52 v52) 53 v53) 9 v9) 10 (.int .i64 0)) 11 (.int .i64 0)) h_11)
theorem e6 (X : CallT) (a0 a1 a2 : Value) (h : AH) (K : Value → AH → Prop) : cwp2 Try.prog X (Try.f6.body.getD .skip) (endW Try.prog Try.f6 K) (envOf [a0, a1, a2]) h = s6 X a0 a1 a2 h K := by kernel_rfl
theorem c6 {a0 a1 a2 : Value} {h : AH} {K : Value → AH → Prop} (hs : s6 (callW Try.prog) a0 a1 a2 h K) : callW Try.prog 6 [a0, a1, a2] h K := callW_of Try.func6 (by kernel_rfl) (Eq.mpr (e6 _ a0 a1 a2 _ _) hs)

/-- canopy/canopylaw13.FoldApart () -/
def s7 (X : CallT) (a0 a1 a2 a3 a4 : Value) (h : AH) (K : Value → AH → Prop) : Prop :=
  X 13 [] h fun v18 h =>
  optW (pUn .not v18) fun v19 =>
  condW v19 (
    K (.bool false) h
  ) (
    X 14 [a0, a1] h fun v22 h_1 =>
    newR none [(.int .i64 0), (.int .i64 0), (.slice none 0 0), (.slice none 0 0), (.slice none 0 0), (.slice none 0 0), (.slice none 0 0), (.slice none 0 0)] h_1 fun v11 h_2 =>
    optW (pStore 8 v11 v22 h_2) fun h_3 =>
    optW (rdRow true 8 v11 h_3) fun v23 =>
    X 24 [v23] h_3 fun v24 h_4 =>
    optW (lenSl v24) fun v26 =>
    optW (pOff 2 v11) fun v27 =>
    optW (rdRow false 1 v27 h_4) fun v28 =>
    optW (lenSl v28) fun v29 =>
    optW (pBin Try.prog .neq 3 v26 v29) fun v30 =>
    condW v30 (
      K (.bool false) h_4
    ) (
      optW (lenSl v24) fun v33 =>
      X 16 [a2, v33] h_4 fun v34 h_5 =>
      optW (lenSl v24) fun v37 =>
      X 16 [a3, v37] h_5 fun v38 h_6 =>
      optW (pIdxS 1 v24 v34) fun v41 =>
      optW (rdRow false 1 v41 h_6) fun v42 =>
      optW (pBin Try.prog .lss 3 v42 (.int .i64 0)) fun v43 =>
      gopD (gB v43 false) (fun k =>
        k v24 h_6 [] ((3, (idOf v41)) :: [])) h_6 [] ((3, (idOf v41)) :: []) fun v45 h_7 H S =>
      gopD (gB v43 false) (fun k_1 =>
        k_1 v34 h_7 H S) h_7 H S fun v46 h_8 H_1 S_1 =>
      gopD (gB v43 false) (fun k_2 =>
        optW (pIdxS 1 v45 v46) fun v47_1 =>
        k_2 v47_1 h_8 H_1 S_1) h_8 H_1 S_1 fun v47 h_9 H_2 S_2 =>
      gopD (gB v43 false) (fun k_3 =>
        histC #[0, 0, 3, 7, 15, 31, 63, 63, 255, 511, 63, 63, 3135, 7231, 16383, 32767, 65535, 131071, 262143, 131071, 1048575, 2097151, 4194303, 8388607] 9 (idOf v47) H_2 (
          optW (rdRow false 1 v47 h_9) fun v48_1 =>
          k_3 v48_1 h_9 H_2 ((9, (idOf v47)) :: S_2))) h_9 H_2 S_2 fun v48 h_10 H_3 S_3 =>
      gopD (gB v43 false) (fun k_4 =>
        k_4 v24 h_10 H_3 S_3) h_10 H_3 S_3 fun v49 h_11 H_4 S_4 =>
      gopD (gB v43 false) (fun k_5 =>
        k_5 v38 h_11 H_4 S_4) h_11 H_4 S_4 fun v50 h_12 H_5 S_5 =>
      gopD (gB v43 false) (fun k_6 =>
        optW (pIdxS 1 v49 v50) fun v51_1 =>
        k_6 v51_1 h_12 H_5 S_5) h_12 H_5 S_5 fun v51 h_13 H_6 S_6 =>
      gopD (gB v43 false) (fun k_7 =>
        histC #[0, 0, 3, 7, 15, 31, 63, 63, 255, 511, 63, 63, 3135, 7231, 16383, 32767, 65535, 131071, 262143, 131071, 1048575, 2097151, 4194303, 8388607] 13 (idOf v51) H_6 (
          optW (rdRow false 1 v51 h_13) fun v52_1 =>
          k_7 v52_1 h_13 H_6 ((13, (idOf v51)) :: S_6))) h_13 H_6 S_6 fun v52 h_14 H_7 S_7 =>
      gopD (gB v43 false) (fun k_8 =>
        optW (pBin Try.prog .neq 3 v48 v52) fun v53_1 =>
        k_8 v53_1 h_14 H_7 S_7) h_14 H_7 S_7 fun v53 h_15 H_8 S_8 =>
      optW (pPick v43 (.bool true) v53) fun v54 =>
      gopD (gB v54 false) (fun k_9 =>
        optW (pOff 2 v11) fun v56_1 =>
        k_9 v56_1 h_15 H_8 S_8) h_15 H_8 S_8 fun v56 h_16 H_9 S_9 =>
      gopD (gB v54 false) (fun k_10 =>
        histC #[0, 0, 3, 7, 15, 31, 63, 63, 255, 511, 63, 63, 3135, 7231, 16383, 32767, 65535, 131071, 262143, 131071, 1048575, 2097151, 4194303, 8388607] 18 (idOf v56) H_9 (
          optW (rdRow false 1 v56 h_16) fun v57_1 =>
          k_10 v57_1 h_16 H_9 ((18, (idOf v56)) :: S_9))) h_16 H_9 S_9 fun v57 h_17 H_10 S_10 =>
      gopD (gB v54 false) (fun k_11 =>
        k_11 v34 h_17 H_10 S_10) h_17 H_10 S_10 fun v58 h_18 H_11 S_11 =>
      gopD (gB v54 false) (fun k_12 =>
        optW (pIdxS 1 v57 v58) fun v59_1 =>
        k_12 v59_1 h_18 H_11 S_11) h_18 H_11 S_11 fun v59 h_19 H_12 S_12 =>
      gopD (gB v54 false) (fun k_13 =>
        histC #[0, 0, 3, 7, 15, 31, 63, 63, 255, 511, 63, 63, 3135, 7231, 16383, 32767, 65535, 131071, 262143, 131071, 1048575, 2097151, 4194303, 8388607] 21 (idOf v59) H_12 (
          optW (rdRow false 1 v59 h_19) fun v60_1 =>
          k_13 v60_1 h_19 H_12 ((21, (idOf v59)) :: S_12))) h_19 H_12 S_12 fun v60 h_20 H_13 S_13 =>
      gopD (gB v54 false) (fun k_14 =>
        optW (pBin Try.prog .neq 3 v60 (.int .i64 0)) fun v61_1 =>
        k_14 v61_1 h_20 H_13 S_13) h_20 H_13 S_13 fun v61 h_21 H_14 S_14 =>
      optW (pPick v54 (.bool true) v61) fun v62 =>
      condW v62 (
        K (.bool true) h_21
      ) (
        optW (rdRow true 8 v11 (reserve 2 h_21)) fun v63 =>
        optW (rdRow true 8 v11 (reserve 2 h_21)) fun v64 =>
        newR (some (h_21.length)) [(.int .i64 0), (.int .i64 0), (.slice none 0 0), (.slice none 0 0), (.slice none 0 0), (.slice none 0 0), (.slice none 0 0), (.slice none 0 0)] (reserve 2 h_21) fun v15 h_22 =>
        newR (some (h_21.length + 1)) [(.int .i64 0), (.int .i64 0), (.slice none 0 0), (.slice none 0 0), (.slice none 0 0), (.slice none 0 0), (.slice none 0 0), (.slice none 0 0)] h_22 fun v16 h_23 =>
        optW (pStore 8 v15 v63 h_23) fun h_24 =>
        (∀ x ∈ (idOf v11), (h_23 : AH)[x]? = (h_24 : AH)[x]?) ∧
        optW (pStore 8 v16 v64 h_24) fun h_25 =>
        optW (bldSl 1 [(.int .i64 0)] 0 []) fun c =>
        newW (some (h_25.length)) (.row c true) (reserve 2 h_25) fun i h_26 =>
        optW (pOff 3 v11) fun v66 =>
        (∀ x ∈ (idOf v66), ((reserve 2 h_25) : AH)[x]? = (h_26 : AH)[x]?) ∧
        optW (rdRow false 1 v66 h_26) fun v67 =>
        appSl 1 (.slice (some ⟨i, 0, none⟩) 0 0) v67 h_26 fun v68 h_27 =>
        optW (bldSl 1 [(.int .i64 0)] 0 []) fun c_1 =>
        newW (some (h_25.length + 1)) (.row c_1 true) h_27 fun i_1 h_28 =>
        optW (pOff 3 v11) fun v70 =>
        (∀ x ∈ (idOf v70), (h_27 : AH)[x]? = (h_28 : AH)[x]?) ∧
        (∀ x ∈ (idOf v70), (h_26 : AH)[x]? = (h_27 : AH)[x]?) ∧
        (∀ x ∈ (idOf v70), ((reserve 2 h_25) : AH)[x]? = (h_26 : AH)[x]?) ∧
        optW (rdRow false 1 v70 h_28) fun v71 =>
        appSl 1 (.slice (some ⟨i_1, 0, none⟩) 0 0) v71 h_28 fun v72 h_29 =>
        optW (pOff 3 v15) fun v73 =>
        optW (pStore 1 v73 v68 h_29) fun h_30 =>
        optW (pOff 3 v16) fun v74 =>
        optW (pStore 1 v74 v72 h_30) fun h_31 =>
        optW (pOff 3 v15) fun v75 =>
        optW (rdRow false 1 v75 h_31) fun v76 =>
        optW (pOff 3 v16) fun v77 =>
        optW (rdRow false 1 v77 h_31) fun v78 =>
        optW (pIdxS 1 v76 (.int .i64 0)) fun v81 =>
        optW (pStore 1 v81 v34 h_31) fun h_32 =>
        (∀ x ∈ (idOf v77), (h_31 : AH)[x]? = (h_32 : AH)[x]?) ∧
        optW (pIdxS 1 v78 (.int .i64 0)) fun v82 =>
        optW (pStore 1 v82 v38 h_32) fun h_33 =>
        optW (rdRow true 8 v11 h_33) fun v83 =>
        X 22 [v83, a4, (.int .i64 20)] h_33 fun v85 h_34 =>
        optW (rdRow true 8 v15 h_34) fun v86 =>
        X 27 [v86, v85] h_34 fun v88 h_35 =>
        (∀ x ∈ (idOf v16), (h_34 : AH)[x]? = (h_35 : AH)[x]?) ∧
        optW (rdRow true 8 v16 h_35) fun v89 =>
        X 27 [v89, v85] h_35 fun v91 h_36 =>
        optW (pBin Try.prog .eql 4 v88 v91) fun v92 =>
        K v92 h_36)))
theorem e7 (X : CallT) (a0 a1 a2 a3 a4 : Value) (h : AH) (K : Value → AH → Prop) : cwp2 Try.prog X (Try.f7.body.getD .skip) (endW Try.prog Try.f7 K) (envOf [a0, a1, a2, a3, a4]) h = s7 X a0 a1 a2 a3 a4 h K := by kernel_rfl
theorem c7 {a0 a1 a2 a3 a4 : Value} {h : AH} {K : Value → AH → Prop} (hs : s7 (callW Try.prog) a0 a1 a2 a3 a4 h K) : callW Try.prog 7 [a0, a1, a2, a3, a4] h K := callW_of Try.func7 (by kernel_rfl) (Eq.mpr (e7 _ a0 a1 a2 a3 a4 _ _) hs)

/-- canopy/canopylaw13.FoldKnown () -/
def s8 (X : CallT) (a0 : Value) (h : AH) (K : Value → AH → Prop) : Prop :=
  X 13 [] h fun v13 h =>
  optW (pUn .not v13) fun v14 =>
  condW v14 (
    K (.bool false) h
  ) (
    optW (bldSl 1 [(.int .i64 0)] 3 [(0, (.int .i64 0)), (1, (.int .i64 1)), (2, (.int .i64 2))]) fun c =>
    newW none (.row c true) h fun i h_1 =>
    optW (bldSl 1 [(.bool false)] 3 [(0, (.bool true)), (1, (.bool false)), (2, (.bool true))]) fun c_1 =>
    newW none (.row c_1 true) h_1 fun i_1 h_2 =>
    optW (bldSl 1 [(.int .i64 0)] 1 [(0, (.int .i64 1))]) fun c_2 =>
    newW none (.row c_2 true) h_2 fun i_2 h_3 =>
    optW (bldSl 1 [(.int .i64 0)] 1 [(0, (.int .i64 2))]) fun c_3 =>
    newW none (.row c_3 true) h_3 fun i_3 h_4 =>
    optW (bldSl 1 [(.int .i64 0)] 1 [(0, (.int .i64 1))]) fun c_4 =>
    newW none (.row c_4 true) h_4 fun i_4 h_5 =>
    optW (bldSl 1 [(.slice none 0 0)] 3 [(0, (.slice (some ⟨i_2, 0, none⟩) 1 1)), (1, (.slice (some ⟨i_3, 0, none⟩) 1 1)), (2, (.slice (some ⟨i_4, 0, none⟩) 1 1))]) fun c_5 =>
    newW none (.row c_5 true) h_5 fun i_5 h_6 =>
    X 29 [(.slice (some ⟨i, 0, none⟩) 3 3), (.slice (some ⟨i_1, 0, none⟩) 3 3), (.slice (some ⟨i_5, 0, none⟩) 3 3)] h_6 fun v21 h_7 =>
    newR none [(.int .i64 0), (.int .i64 0), (.slice none 0 0), (.slice none 0 0), (.slice none 0 0), (.slice none 0 0), (.slice none 0 0), (.slice none 0 0)] h_7 fun v3 h_8 =>
    optW (pStore 8 v3 v21 h_8) fun h_9 =>
    optW (bldSl 1 [(.int .i64 0)] 3 [(0, (.int .i64 0)), (1, (.int .i64 1)), (2, (.int .i64 2))]) fun c_6 =>
    newW none (.row c_6 true) h_9 fun i_6 h_10 =>
    optW (bldSl 1 [(.bool false)] 3 [(0, (.bool true)), (1, (.bool true)), (2, (.bool false))]) fun c_7 =>
    newW none (.row c_7 true) h_10 fun i_7 h_11 =>
    optW (bldSl 1 [(.int .i64 0)] 1 [(0, (.int .i64 1))]) fun c_8 =>
    newW none (.row c_8 true) h_11 fun i_8 h_12 =>
    optW (bldSl 1 [(.int .i64 0)] 1 [(0, (.int .i64 0))]) fun c_9 =>
    newW none (.row c_9 true) h_12 fun i_9 h_13 =>
    optW (bldSl 1 [(.int .i64 0)] 1 [(0, (.int .i64 2))]) fun c_10 =>
    newW none (.row c_10 true) h_13 fun i_10 h_14 =>
    optW (bldSl 1 [(.slice none 0 0)] 3 [(0, (.slice (some ⟨i_8, 0, none⟩) 1 1)), (1, (.slice (some ⟨i_9, 0, none⟩) 1 1)), (2, (.slice (some ⟨i_10, 0, none⟩) 1 1))]) fun c_11 =>
    newW none (.row c_11 true) h_14 fun i_11 h_15 =>
    X 29 [(.slice (some ⟨i_6, 0, none⟩) 3 3), (.slice (some ⟨i_7, 0, none⟩) 3 3), (.slice (some ⟨i_11, 0, none⟩) 3 3)] h_15 fun v28 h_16 =>
    newR none [(.int .i64 0), (.int .i64 0), (.slice none 0 0), (.slice none 0 0), (.slice none 0 0), (.slice none 0 0), (.slice none 0 0), (.slice none 0 0)] h_16 fun v4 h_17 =>
    optW (pStore 8 v4 v28 h_17) fun h_18 =>
    optW (bldSl 1 [(.int .i64 0)] 4 [(0, (.int .i64 0)), (1, (.int .i64 1)), (2, (.int .i64 2)), (3, (.int .i64 3))]) fun c_12 =>
    newW none (.row c_12 true) h_18 fun i_12 h_19 =>
    optW (bldSl 1 [(.bool false)] 4 [(0, (.bool false)), (1, (.bool false)), (2, (.bool false)), (3, (.bool true))]) fun c_13 =>
    newW none (.row c_13 true) h_19 fun i_13 h_20 =>
    optW (bldSl 1 [(.int .i64 0)] 1 [(0, (.int .i64 1))]) fun c_14 =>
    newW none (.row c_14 true) h_20 fun i_14 h_21 =>
    optW (bldSl 1 [(.int .i64 0)] 1 [(0, (.int .i64 2))]) fun c_15 =>
    newW none (.row c_15 true) h_21 fun i_15 h_22 =>
    optW (bldSl 1 [(.int .i64 0)] 1 [(0, (.int .i64 3))]) fun c_16 =>
    newW none (.row c_16 true) h_22 fun i_16 h_23 =>
    optW (bldSl 1 [(.int .i64 0)] 1 [(0, (.int .i64 3))]) fun c_17 =>
    newW none (.row c_17 true) h_23 fun i_17 h_24 =>
    optW (bldSl 1 [(.slice none 0 0)] 4 [(0, (.slice (some ⟨i_14, 0, none⟩) 1 1)), (1, (.slice (some ⟨i_15, 0, none⟩) 1 1)), (2, (.slice (some ⟨i_16, 0, none⟩) 1 1)), (3, (.slice (some ⟨i_17, 0, none⟩) 1 1))]) fun c_18 =>
    newW none (.row c_18 true) h_24 fun i_18 h_25 =>
    X 29 [(.slice (some ⟨i_12, 0, none⟩) 4 4), (.slice (some ⟨i_13, 0, none⟩) 4 4), (.slice (some ⟨i_18, 0, none⟩) 4 4)] h_25 fun v36 h_26 =>
    newR none [(.int .i64 0), (.int .i64 0), (.slice none 0 0), (.slice none 0 0), (.slice none 0 0), (.slice none 0 0), (.slice none 0 0), (.slice none 0 0)] h_26 fun v5 h_27 =>
    optW (pStore 8 v5 v36 h_27) fun h_28 =>
    optW (bldSl 1 [(.int .i64 0)] 4 [(0, (.int .i64 0)), (1, (.int .i64 1)), (2, (.int .i64 2)), (3, (.int .i64 3))]) fun c_19 =>
    newW none (.row c_19 true) h_28 fun i_19 h_29 =>
    optW (bldSl 1 [(.bool false)] 4 [(0, (.bool false)), (1, (.bool true)), (2, (.bool false)), (3, (.bool true))]) fun c_20 =>
    newW none (.row c_20 true) h_29 fun i_20 h_30 =>
    optW (bldSl 1 [(.int .i64 0)] 1 [(0, (.int .i64 1))]) fun c_21 =>
    newW none (.row c_21 true) h_30 fun i_21 h_31 =>
    optW (bldSl 1 [(.int .i64 0)] 1 [(0, (.int .i64 2))]) fun c_22 =>
    newW none (.row c_22 true) h_31 fun i_22 h_32 =>
    optW (bldSl 1 [(.int .i64 0)] 1 [(0, (.int .i64 3))]) fun c_23 =>
    newW none (.row c_23 true) h_32 fun i_23 h_33 =>
    optW (bldSl 1 [(.int .i64 0)] 1 [(0, (.int .i64 0))]) fun c_24 =>
    newW none (.row c_24 true) h_33 fun i_24 h_34 =>
    optW (bldSl 1 [(.slice none 0 0)] 4 [(0, (.slice (some ⟨i_21, 0, none⟩) 1 1)), (1, (.slice (some ⟨i_22, 0, none⟩) 1 1)), (2, (.slice (some ⟨i_23, 0, none⟩) 1 1)), (3, (.slice (some ⟨i_24, 0, none⟩) 1 1))]) fun c_25 =>
    newW none (.row c_25 true) h_34 fun i_25 h_35 =>
    X 29 [(.slice (some ⟨i_19, 0, none⟩) 4 4), (.slice (some ⟨i_20, 0, none⟩) 4 4), (.slice (some ⟨i_25, 0, none⟩) 4 4)] h_35 fun v44 h_36 =>
    newR none [(.int .i64 0), (.int .i64 0), (.slice none 0 0), (.slice none 0 0), (.slice none 0 0), (.slice none 0 0), (.slice none 0 0), (.slice none 0 0)] h_36 fun v6 h_37 =>
    optW (pStore 8 v6 v44 h_37) fun h_38 =>
    optW (rdRow true 8 v3 h_38) fun v45 =>
    optW (rdRow true 8 v4 h_38) fun v46 =>
    optW (rdRow true 8 v5 h_38) fun v47 =>
    optW (rdRow true 8 v6 h_38) fun v48 =>
    optW (bldSl 8 [(.int .i64 0), (.int .i64 0), (.slice none 0 0), (.slice none 0 0), (.slice none 0 0), (.slice none 0 0), (.slice none 0 0), (.slice none 0 0)] 4 [(0, v45), (1, v46), (2, v47), (3, v48)]) fun c_26 =>
    newW none (.row c_26 true) h_38 fun i_26 h_39 =>
    optW (bldSl 1 [(.int .i64 0)] 3 [(0, (.int .i64 0)), (1, (.int .i64 1)), (2, (.int .i64 0))]) fun c_27 =>
    newW none (.row c_27 true) h_39 fun i_27 h_40 =>
    optW (bldSl 1 [(.int .i64 0)] 3 [(0, (.int .i64 0)), (1, (.int .i64 0)), (2, (.int .i64 (-1)))]) fun c_28 =>
    newW none (.row c_28 true) h_40 fun i_28 h_41 =>
    optW (bldSl 1 [(.int .i64 0)] 4 [(0, (.int .i64 0)), (1, (.int .i64 1)), (2, (.int .i64 2)), (3, (.int .i64 3))]) fun c_29 =>
    newW none (.row c_29 true) h_41 fun i_29 h_42 =>
    optW (bldSl 1 [(.int .i64 0)] 4 [(0, (.int .i64 0)), (1, (.int .i64 1)), (2, (.int .i64 0)), (3, (.int .i64 1))]) fun c_30 =>
    newW none (.row c_30 true) h_42 fun i_30 h_43 =>
    optW (bldSl 1 [(.slice none 0 0)] 4 [(0, (.slice (some ⟨i_27, 0, none⟩) 3 3)), (1, (.slice (some ⟨i_28, 0, none⟩) 3 3)), (2, (.slice (some ⟨i_29, 0, none⟩) 4 4)), (3, (.slice (some ⟨i_30, 0, none⟩) 4 4))]) fun c_31 =>
    newW none (.row c_31 true) h_43 fun i_31 h_44 =>
    X 16 [a0, (.int .i64 4)] h_44 fun v56 h_45 =>
    optW (pIdxS 8 (.slice (some ⟨i_26, 0, none⟩) 4 4) v56) fun v60 =>
    optW (rdRow true 8 v60 h_45) fun v61 =>
    X 18 [v61] h_45 fun v62 h_46 =>
    optW (pExtract v62 0) fun v63 =>
    optW (pExtract v62 1) fun v64 =>
    newR none [(.int .i64 0), (.int .i64 0), (.slice none 0 0), (.slice none 0 0), (.slice none 0 0), (.slice none 0 0), (.slice none 0 0), (.slice none 0 0)] h_46 fun v10 h_47 =>
    optW (pStore 8 v10 v63 h_47) fun h_48 =>
    optW (bldSl 1 [(.int .i64 0)] 4 [(0, (.int .i64 2)), (1, (.int .i64 1)), (2, (.int .i64 4)), (3, (.int .i64 2))]) fun c_32 =>
    newW none (.row c_32 true) h_48 fun i_32 h_49 =>
    optW (pIdxS 1 (.slice (some ⟨i_32, 0, none⟩) 4 4) v56) fun v67 =>
    optW (rdRow false 1 v67 h_49) fun v68 =>
    optW (pIdxS 8 (.slice (some ⟨i_26, 0, none⟩) 4 4) v56) fun v71 =>
    optW (rdRow true 8 v71 h_49) fun v72 =>
    X 24 [v72] h_49 fun v73 h_50 =>
    optW (pIdxS 1 (.slice (some ⟨i_31, 0, none⟩) 4 4) v56) fun v76 =>
    (∀ x ∈ (idOf v76), (h_49 : AH)[x]? = (h_50 : AH)[x]?) ∧
    optW (rdRow false 1 v76 h_50) fun v77 =>
    X 23 [v73, v77] h_50 fun v78 h_51 =>
    gopD (gB v78 true) (fun k =>
      k v64 h_51 ((9, h_50, h_51) :: ((4, h_49, h_50) :: [])) ((8, (idOf v76)) :: ((3, (idOf v71)) :: []))) h_51 ((9, h_50, h_51) :: ((4, h_49, h_50) :: [])) ((8, (idOf v76)) :: ((3, (idOf v71)) :: [])) fun v80 h_52 H S =>
    gopD (gB v78 true) (fun k_1 =>
      optW (pBin Try.prog .eql 30 v80 (.int .i64 0)) fun v81_1 =>
      k_1 v81_1 h_52 H S) h_52 H S fun v81 h_53 H_1 S_1 =>
    optW (pPick v78 v81 (.bool false)) fun v82 =>
    gopD (gB v82 true) (fun k_2 =>
      optW (pOff 2 v10) fun v84_1 =>
      k_2 v84_1 h_53 H_1 S_1) h_53 H_1 S_1 fun v84 h_54 H_2 S_2 =>
    gopD (gB v82 true) (fun k_3 =>
      histC #[0, 0, 3, 7, 15, 0, 0, 96, 224, 511, 1023, 2047, 4095, 8191, 16383, 32767, 65535, 131071, 32767, 524287, 1048575, 2097151] 16 (idOf v84) H_2 (
        optW (rdRow false 1 v84 h_54) fun v85_1 =>
        k_3 v85_1 h_54 H_2 ((16, (idOf v84)) :: S_2))) h_54 H_2 S_2 fun v85 h_55 H_3 S_3 =>
    gopD (gB v82 true) (fun k_4 =>
      optW (lenSl v85) fun v86_1 =>
      k_4 v86_1 h_55 H_3 S_3) h_55 H_3 S_3 fun v86 h_56 H_4 S_4 =>
    gopD (gB v82 true) (fun k_5 =>
      k_5 v68 h_56 H_4 S_4) h_56 H_4 S_4 fun v87 h_57 H_5 S_5 =>
    gopD (gB v82 true) (fun k_6 =>
      optW (pBin Try.prog .eql 3 v86 v87) fun v88_1 =>
      k_6 v88_1 h_57 H_5 S_5) h_57 H_5 S_5 fun v88 h_58 H_6 S_6 =>
    optW (pPick v82 v88 (.bool false)) fun v89 =>
    K v89 h_58)
theorem e8 (X : CallT) (a0 : Value) (h : AH) (K : Value → AH → Prop) : cwp2 Try.prog X (Try.f8.body.getD .skip) (endW Try.prog Try.f8 K) (envOf [a0]) h = s8 X a0 h K := by kernel_rfl
theorem c8 {a0 : Value} {h : AH} {K : Value → AH → Prop} (hs : s8 (callW Try.prog) a0 h K) : callW Try.prog 8 [a0] h K := callW_of Try.func8 (by kernel_rfl) (Eq.mpr (e8 _ a0 _ _) hs)

/-- canopy/canopylaw13.FoldReaches (I at e: live [8, 9, 10], writes [6, 10, 38, 39, 40, 41, 42, 43, 44, 45, 46, 47, 48, 49, 50, 51, 52, 53]; I_1 at e_1: live [8, 12, 13], writes [13, 63, 64, 65, 66, 67, 68, 69, 70, 71, 72, 73, 74, 75, 76, 77, 78, 79, 80, 81, 82, 83]; I_2 at e_2: live [7, 11, 12, 14], writes [6, 14, 84, 85, 86, 87, 88, 89, 90, 91, 92, 93, 94, 95, 96, 97, 98, 99, 100]) -/
def s10 (X : CallT) (a0 a1 a2 : Value) (h : AH) (K : Value → AH → Prop) : Prop :=
  X 13 [] h fun v15 h =>
  optW (pUn .not v15) fun v16 =>
  condW v16 (
    K (.bool false) h
  ) (
    X 14 [a0, a1] h fun v19 h_1 =>
    newR none [(.int .i64 0), (.int .i64 0), (.slice none 0 0), (.slice none 0 0), (.slice none 0 0), (.slice none 0 0), (.slice none 0 0), (.slice none 0 0)] h_1 fun v7 h_2 =>
    optW (pStore 8 v7 v19 h_2) fun h_3 =>
    optW (rdRow true 8 v7 h_3) fun v20 =>
    X 20 [v20] h_3 fun v21 h_4 =>
    (∀ x ∈ (idOf v7), (h_3 : AH)[x]? = (h_4 : AH)[x]?) ∧
    optW (rdRow true 8 v7 h_4) fun v22 =>
    X 24 [v22] h_4 fun v23 h_5 =>
    optW (lenSl v21) fun v25 =>
    optW (pOff 2 v7) fun v26 =>
    optW (rdRow false 1 v26 h_5) fun v27 =>
    optW (lenSl v27) fun v28 =>
    optW (pBin Try.prog .neq 3 v25 v28) fun v29 =>
    gopW (gB v29 false) (fun k =>
      k v23 h_5) h_5 fun v31 h_6 =>
    gopW (gB v29 false) (fun k_1 =>
      optW (lenSl v31) fun v32_1 =>
      k_1 v32_1 h_6) h_6 fun v32 h_7 =>
    gopW (gB v29 false) (fun k_2 =>
      optW (pOff 2 v7) fun v33_1 =>
      k_2 v33_1 h_7) h_7 fun v33 h_8 =>
    gopW (gB v29 false) (fun k_3 =>
      optW (rdRow false 1 v33 h_8) fun v34_1 =>
      k_3 v34_1 h_8) h_8 fun v34 h_9 =>
    gopW (gB v29 false) (fun k_4 =>
      optW (lenSl v34) fun v35_1 =>
      k_4 v35_1 h_9) h_9 fun v35 h_10 =>
    gopW (gB v29 false) (fun k_5 =>
      optW (pBin Try.prog .neq 3 v32 v35) fun v36_1 =>
      k_5 v36_1 h_10) h_10 fun v36 h_11 =>
    optW (pPick v29 (.bool true) v36) fun v37 =>
    condW v37 (
      K (.bool false) h_11
    ) (
      loopE (fun I e h_12 =>
        optW (lenSl (e 8)) fun v40 =>
        optW (pBin Try.prog .lss 3 (e 10) v40) fun v41 =>
        condW v41 (
          optW (pIdxS 1 (e 8) (e 10)) fun v46 =>
          optW (rdRow false 1 v46 h_12) fun v47 =>
          optW (pIdxS 1 (e 9) (e 10)) fun v50 =>
          optW (rdRow false 1 v50 h_12) fun v51 =>
          optW (pBin Try.prog .geq 3 v51 (.int .i64 0)) fun v52 =>
          optW (pBin Try.prog .neq 4 v47 v52) fun v53 =>
          condW v53 (
            K (.bool false) h_12
          ) (
            optW (pBin Try.prog .add 3 (e 10) (.int .i64 1)) fun v43 =>
            I (pt (pt (pt (pt (pt (pt (pt (pt (pt (pt (pt (pt (pt (pt (pt (pt (pt e 38 (e 10)) 39 (e 8)) 40 v40) 41 v41) 44 (e 8)) 45 (e 10)) 46 v46) 47 v47) 48 (e 9)) 49 (e 10)) 50 v50) 51 v51) 52 v52) 53 v53) 42 (e 10)) 43 v43) 10 v43) h_12)
        ) (
          optW (rdRow true 8 (e 7) h_12) fun v54 =>
          X 22 [v54, (e 2), (.int .i64 20)] h_12 fun v56 h_13 =>
          optW (rdRow true 8 (e 7) h_13) fun v57 =>
          newR none [(.int .i64 0), (.int .i64 0), (.slice none 0 0), (.slice none 0 0), (.slice none 0 0), (.slice none 0 0), (.slice none 0 0), (.slice none 0 0)] h_13 fun v12 h_14 =>
          optW (pStore 8 v12 v57 h_14) fun h_15 =>
          optW (bldSl 1 [(.bool false)] 0 []) fun c =>
          newW none (.row c true) h_15 fun i h_16 =>
          optW (pOff 4 (e 7)) fun v59 =>
          optW (rdRow false 1 v59 h_16) fun v60 =>
          appSl 1 (.slice (some ⟨i, 0, none⟩) 0 0) v60 h_16 fun v61 h_17 =>
          optW (pOff 4 v12) fun v62 =>
          optW (pStore 1 v62 v61 h_17) fun h_18 =>
          loopE (fun I_1 e_1 h_19 =>
            optW (lenSl (e_1 8)) fun v65 =>
            optW (pBin Try.prog .lss 3 (e_1 13) v65) fun v66 =>
            condW v66 (
              optW (pIdxS 1 (e_1 8) (e_1 13)) fun v71 =>
              optW (rdRow false 1 v71 h_19) fun v72 =>
              optW (pUn .not v72) fun v73 =>
              condW v73 (
                optW (pOff 4 (e_1 12)) fun v74 =>
                optW (rdRow false 1 v74 h_19) fun v75 =>
                optW (pOff 4 (e_1 12)) fun v77 =>
                optW (rdRow false 1 v77 h_19) fun v78 =>
                optW (pIdxS 1 v78 (e_1 13)) fun v80 =>
                optW (rdRow false 1 v80 h_19) fun v81 =>
                optW (pUn .not v81) fun v82 =>
                optW (pIdxS 1 v75 (e_1 13)) fun v83 =>
                optW (pStore 1 v83 v82 h_19) fun h_20 =>
                optW (pBin Try.prog .add 3 (e_1 13) (.int .i64 1)) fun v68 =>
                I_1 (pt (pt (pt (pt (pt (pt (pt (pt (pt (pt (pt (pt (pt (pt (pt (pt (pt (pt (pt (pt (pt (pt e_1 63 (e_1 13)) 64 (e_1 8)) 65 v65) 66 v66) 69 (e_1 8)) 70 (e_1 13)) 71 v71) 72 v72) 73 v73) 74 v74) 75 v75) 76 (e_1 13)) 77 v77) 78 v78) 79 (e_1 13)) 80 v80) 81 v81) 82 v82) 83 v83) 67 (e_1 13)) 68 v68) 13 v68) h_20
              ) (
                optW (pBin Try.prog .add 3 (e_1 13) (.int .i64 1)) fun v68_1 =>
                I_1 (pt (pt (pt (pt (pt (pt (pt (pt (pt (pt (pt (pt e_1 63 (e_1 13)) 64 (e_1 8)) 65 v65) 66 v66) 69 (e_1 8)) 70 (e_1 13)) 71 v71) 72 v72) 73 v73) 67 (e_1 13)) 68 v68_1) 13 v68_1) h_19)
            ) (
              loopE (fun I_2 e_2 h_21 =>
                optW (lenSl (e_2 11)) fun v86 =>
                optW (pBin Try.prog .leq 3 (e_2 14) v86) fun v87 =>
                condW v87 (
                  optW (rdRow true 8 (e_2 7) h_21) fun v90 =>
                  optW (pSliceSl 2 (e_2 11) none (some (e_2 14)) none) fun v93 =>
                  X 27 [v90, v93] h_21 fun v94 h_22 =>
                  (∀ x ∈ (idOf (e_2 12)), (h_21 : AH)[x]? = (h_22 : AH)[x]?) ∧
                  optW (rdRow true 8 (e_2 12) h_22) fun v95 =>
                  optW (pSliceSl 2 (e_2 11) none (some (e_2 14)) none) fun v98 =>
                  X 27 [v95, v98] h_22 fun v99 h_23 =>
                  optW (pBin Try.prog .neq 4 v94 v99) fun v100 =>
                  condW v100 (
                    K (.bool false) h_23
                  ) (
                    optW (pBin Try.prog .add 3 (e_2 14) (.int .i64 1)) fun v89 =>
                    I_2 (pt (pt (pt (pt (pt (pt (pt (pt (pt (pt (pt (pt (pt (pt (pt (pt (pt (pt e_2 84 (e_2 14)) 85 (e_2 11)) 86 v86) 87 v87) 90 v90) 91 (e_2 11)) 92 (e_2 14)) 93 v93) 94 v94) 95 v95) 96 (e_2 11)) 97 (e_2 14)) 98 v98) 99 v99) 100 v100) 88 (e_2 14)) 89 v89) 14 v89) h_23)
                ) (
                  K (.bool true) h_21))
              (pt (pt (pt (pt (pt e_1 63 (e_1 13)) 64 (e_1 8)) 65 v65) 66 v66) 14 (.int .i64 0)) h_19))
          (pt (pt (pt (pt (pt (pt (pt (pt (pt (pt (pt (pt (pt (pt (pt (pt e 38 (e 10)) 39 (e 8)) 40 v40) 41 v41) 54 v54) 55 (e 2)) 56 v56) 11 v56) 57 v57) 12 v12) 58 (.slice (some ⟨i, 0, none⟩) 0 0)) 59 v59) 60 v60) 61 v61) 62 v62) 13 (.int .i64 0)) h_18))
      (pt (pt (pt (pt (pt (pt (pt (pt (pt (pt (pt (pt (pt (pt (pt (pt (pt (pt (pt (pt (pt (pt (pt (pt (pt (pt (pt (pt (envOf [a0, a1, a2]) 6 (.bool false)) 15 v15) 16 v16) 17 a0) 18 a1) 19 v19) 7 v7) 20 v20) 21 v21) 22 v22) 23 v23) 8 v21) 9 v23) 24 v21) 25 v25) 26 v26) 27 v27) 28 v28) 29 v29) 30 v29) 31 v31) 32 v32) 33 v33) 34 v34) 35 v35) 36 v36) 37 v37) 10 (.int .i64 0)) h_11))
theorem e10 (X : CallT) (a0 a1 a2 : Value) (h : AH) (K : Value → AH → Prop) : cwp2 Try.prog X (Try.f10.body.getD .skip) (endW Try.prog Try.f10 K) (envOf [a0, a1, a2]) h = s10 X a0 a1 a2 h K := by kernel_rfl
theorem c10 {a0 a1 a2 : Value} {h : AH} {K : Value → AH → Prop} (hs : s10 (callW Try.prog) a0 a1 a2 h K) : callW Try.prog 10 [a0, a1, a2] h K := callW_of Try.func10 (by kernel_rfl) (Eq.mpr (e10 _ a0 a1 a2 _ _) hs)

end Go.Proofs.Ytnpbehfhncbjfaa.W
