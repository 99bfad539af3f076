/- Parts of a proof, joined by a program. Conditions: none. -/
import Derived.Test.YtebbjimmgblcpaaRA1
import Derived.Test.YtebbjimmgblcpaaProg

section
/- Go functions, printed by a program as predicates on what may come behind; each is the function. Conditions: none. -/
namespace Go.Proofs.Ytebbjimmgblcpaa.W
open Go Go.AM
set_option linter.unusedVariables false
set_option maxRecDepth 100000


/-- canopy/canopyref3.Check (I at e: live [3, 5, 6], writes [4, 6, 52, 53, 54, 55, 56, 57, 58, 59, 60, 61, 62, 63, 64]; I_1 at e_1: live [0, 3, 7], writes [4, 7, 8, 65, 66, 67, 68, 69, 70, 71, 72, 73, 74, 75, 76, 77, 78, 79, 80, 81, 82, 83, 84, 85, 86, 87, 88, 89, 90, 91, 92, 93, 94, 95, 96, 97, 98, 99, 100, 101, 102, 103, 104, 105, 106, 107]; I_2 at e_2: live [0, 3, 9], writes [4, 9, 10, 108, 109, 110, 111, 112, 113, 114, 115, 116, 117, 118, 119, 120, 121, 122, 123, 124, 125, 126, 127, 128, 129, 130, 131, 132, 133, 134, 135, 136, 137, 138, 139, 140, 141, 142, 143, 144, 145, 146, 147, 148, 149, 150]; I_3 at e_3: live [0, 3, 11], writes [4, 11, 12, 151, 152, 153, 154, 155, 156, 157, 158, 159, 160, 161, 162, 163, 164, 165, 166, 167, 168, 169, 170, 171, 172, 173, 174, 175, 176, 177, 178, 179, 180, 181]) -/
def s25 (X : CallT) (a0 a1 : Value) (h : AH) (K : Value → AH → Prop) : Prop :=
  aBox a1 none h fun v3 h_1 =>
  optW (pOff 0 v3) fun v13 =>
  optW (rdRow false 1 v13 h_1) fun v14 =>
  optW (pBin Try.prog .lss 3 v14 (.int .i64 0)) fun v15 =>
  gopW (gB v15 false) (fun k =>
    optW (pOff 0 v3) fun v17_1 =>
    k v17_1 h_1) h_1 fun v17 h_2 =>
  gopW (gB v15 false) (fun k_1 =>
    optW (rdRow false 1 v17 h_2) fun v18_1 =>
    k_1 v18_1 h_2) h_2 fun v18 h_3 =>
  gopW (gB v15 false) (fun k_2 =>
    optW (pBin Try.prog .gtr 3 v18 (.int .i64 200)) fun v19_1 =>
    k_2 v19_1 h_3) h_3 fun v19 h_4 =>
  optW (pPick v15 (.bool true) v19) fun v20 =>
  gopW (gB v20 false) (fun k_3 =>
    optW (pOff 1 v3) fun v22_1 =>
    k_3 v22_1 h_4) h_4 fun v22 h_5 =>
  gopW (gB v20 false) (fun k_4 =>
    optW (rdRow false 1 v22 h_5) fun v23_1 =>
    k_4 v23_1 h_5) h_5 fun v23 h_6 =>
  gopW (gB v20 false) (fun k_5 =>
    optW (pBin Try.prog .lss 3 v23 (.int .i64 0)) fun v24_1 =>
    k_5 v24_1 h_6) h_6 fun v24 h_7 =>
  optW (pPick v20 (.bool true) v24) fun v25 =>
  gopW (gB v25 false) (fun k_6 =>
    optW (pOff 1 v3) fun v27_1 =>
    k_6 v27_1 h_7) h_7 fun v27 h_8 =>
  gopW (gB v25 false) (fun k_7 =>
    optW (rdRow false 1 v27 h_8) fun v28_1 =>
    k_7 v28_1 h_8) h_8 fun v28 h_9 =>
  gopW (gB v25 false) (fun k_8 =>
    optW (pBin Try.prog .gtr 3 v28 (.int .i64 10000)) fun v29_1 =>
    k_8 v29_1 h_9) h_9 fun v29 h_10 =>
  optW (pPick v25 (.bool true) v29) fun v30 =>
  gopW (gB v30 false) (fun k_9 =>
    optW (pOff 4 v3) fun v32_1 =>
    k_9 v32_1 h_10) h_10 fun v32 h_11 =>
  gopW (gB v30 false) (fun k_10 =>
    optW (rdRow false 1 v32 h_11) fun v33_1 =>
    k_10 v33_1 h_11) h_11 fun v33 h_12 =>
  gopW (gB v30 false) (fun k_11 =>
    optW (lenSl v33) fun v34_1 =>
    k_11 v34_1 h_12) h_12 fun v34 h_13 =>
  gopW (gB v30 false) (fun k_12 =>
    optW (pOff 5 v3) fun v35_1 =>
    k_12 v35_1 h_13) h_13 fun v35 h_14 =>
  gopW (gB v30 false) (fun k_13 =>
    optW (rdRow false 1 v35 h_14) fun v36_1 =>
    k_13 v36_1 h_14) h_14 fun v36 h_15 =>
  gopW (gB v30 false) (fun k_14 =>
    optW (lenSl v36) fun v37_1 =>
    k_14 v37_1 h_15) h_15 fun v37 h_16 =>
  gopW (gB v30 false) (fun k_15 =>
    optW (pBin Try.prog .add 3 v34 v37) fun v38_1 =>
    k_15 v38_1 h_16) h_16 fun v38 h_17 =>
  gopW (gB v30 false) (fun k_16 =>
    optW (pOff 6 v3) fun v39_1 =>
    k_16 v39_1 h_17) h_17 fun v39 h_18 =>
  gopW (gB v30 false) (fun k_17 =>
    optW (rdRow false 1 v39 h_18) fun v40_1 =>
    k_17 v40_1 h_18) h_18 fun v40 h_19 =>
  gopW (gB v30 false) (fun k_18 =>
    optW (lenSl v40) fun v41_1 =>
    k_18 v41_1 h_19) h_19 fun v41 h_20 =>
  gopW (gB v30 false) (fun k_19 =>
    optW (pBin Try.prog .add 3 v38 v41) fun v42_1 =>
    k_19 v42_1 h_20) h_20 fun v42 h_21 =>
  gopW (gB v30 false) (fun k_20 =>
    optW (pBin Try.prog .gtr 3 v42 (.int .i64 100000)) fun v43_1 =>
    k_20 v43_1 h_21) h_21 fun v43 h_22 =>
  optW (pPick v30 (.bool true) v43) fun v44 =>
  condW v44 (
    K (.int .i64 9) h_22
  ) (
    optW (bldSl 1 [(.int .i64 0)] 0 []) fun c =>
    newW (some (h_22.length)) (.row c true) (reserve 1 h_22) fun i h_23 =>
    optW (pOff 2 v3) fun v46 =>
    (∀ x ∈ (idOf v46), ((reserve 1 h_22) : AH)[x]? = (h_23 : AH)[x]?) ∧
    optW (rdRow false 1 v46 h_23) fun v47 =>
    appSl 1 (.slice (some ⟨i, 0, none⟩) 0 0) v47 h_23 fun v48 h_24 =>
    optW (pOff 3 v3) fun v49 =>
    (∀ x ∈ (idOf v49), (h_23 : AH)[x]? = (h_24 : AH)[x]?) ∧
    (∀ x ∈ (idOf v49), ((reserve 1 h_22) : AH)[x]? = (h_23 : AH)[x]?) ∧
    optW (rdRow false 1 v49 h_24) fun v50 =>
    appSl 1 v48 v50 h_24 fun v51 h_25 =>
    loopE (fun I e h_26 =>
      optW (lenSl (e 5)) fun v54 =>
      optW (pBin Try.prog .lss 3 (e 6) v54) fun v55 =>
      condW v55 (
        optW (rdRow true 7 (e 3) h_26) fun v58 =>
        optW (pIdxS 1 (e 5) (e 6)) fun v61 =>
        optW (rdRow false 1 v61 h_26) fun v62 =>
        X 50 [v58, v62] h_26 fun v63 h_27 =>
        optW (pUn .not v63) fun v64 =>
        condW v64 (
          K (.int .i64 9) h_27
        ) (
          optW (pBin Try.prog .add 3 (e 6) (.int .i64 1)) fun v57 =>
          I (pt (pt (pt (pt (pt (pt (pt (pt (pt (pt (pt (pt (pt (pt e 52 (e 6)) 53 (e 5)) 54 v54) 55 v55) 58 v58) 59 (e 5)) 60 (e 6)) 61 v61) 62 v62) 63 v63) 64 v64) 56 (e 6)) 57 v57) 6 v57) h_27)
      ) (
        loopE (fun I_1 e_1 h_28 =>
          optW (pOff 4 (e_1 3)) fun v66 =>
          optW (rdRow false 1 v66 h_28) fun v67 =>
          optW (lenSl v67) fun v68 =>
          optW (pBin Try.prog .lss 3 (e_1 7) v68) fun v69 =>
          condW v69 (
            optW (pOff 4 (e_1 3)) fun v72 =>
            optW (rdRow false 1 v72 h_28) fun v73 =>
            optW (pIdxS 4 v73 (e_1 7)) fun v75 =>
            optW (rdRow true 4 v75 h_28) fun v76 =>
            newR none [(.int .i64 0), (.int .i64 0), (.int .i64 0), (.int .i64 0)] h_28 fun v8 h_29 =>
            optW (pStore 4 v8 v76 h_29) fun h_30 =>
            optW (rdRow true 7 (e_1 3) h_30) fun v77 =>
            optW (pOff 0 v8) fun v78 =>
            optW (rdRow false 1 v78 h_30) fun v79 =>
            X 50 [v77, v79] h_30 fun v80 h_31 =>
            optW (pUn .not v80) fun v81 =>
            gopW (gB v81 false) (fun k_21 =>
              optW (rdRow true 7 (e_1 3) h_31) fun v83_1 =>
              k_21 v83_1 h_31) h_31 fun v83 h_32 =>
            gopW (gB v81 false) (fun k_22 =>
              optW (pOff 2 v8) fun v84_1 =>
              k_22 v84_1 h_32) h_32 fun v84 h_33 =>
            gopW (gB v81 false) (fun k_23 =>
              optW (rdRow false 1 v84 h_33) fun v85_1 =>
              k_23 v85_1 h_33) h_33 fun v85 h_34 =>
            gopW (gB v81 false) (fun k_24 =>
              X 50 [v83, v85] h_34 fun v86_1 h_36 =>
              k_24 v86_1 h_36) h_34 fun v86 h_35 =>
            gopW (gB v81 false) (fun k_25 =>
              optW (pUn .not v86) fun v87_1 =>
              k_25 v87_1 h_35) h_35 fun v87 h_37 =>
            optW (pPick v81 (.bool true) v87) fun v88 =>
            gopW (gB v88 false) (fun k_26 =>
              k_26 (e_1 0) h_37) h_37 fun v90 h_38 =>
            gopW (gB v88 false) (fun k_27 =>
              optW (pOff 1 v8) fun v91_1 =>
              k_27 v91_1 h_38) h_38 fun v91 h_39 =>
            gopW (gB v88 false) (fun k_28 =>
              optW (rdRow false 1 v91 h_39) fun v92_1 =>
              k_28 v92_1 h_39) h_39 fun v92 h_40 =>
            gopW (gB v88 false) (fun k_29 =>
              X 51 [v90, v92, (.int .i64 1)] h_40 fun v93_1 h_42 =>
              k_29 v93_1 h_42) h_40 fun v93 h_41 =>
            gopW (gB v88 false) (fun k_30 =>
              optW (pUn .not v93) fun v94_1 =>
              k_30 v94_1 h_41) h_41 fun v94 h_43 =>
            optW (pPick v88 (.bool true) v94) fun v95 =>
            gopW (gB v95 false) (fun k_31 =>
              optW (pOff 3 v8) fun v97_1 =>
              k_31 v97_1 h_43) h_43 fun v97 h_44 =>
            gopW (gB v95 false) (fun k_32 =>
              optW (rdRow false 1 v97 h_44) fun v98_1 =>
              k_32 v98_1 h_44) h_44 fun v98 h_45 =>
            gopW (gB v95 false) (fun k_33 =>
              optW (pBin Try.prog .lss 3 v98 (.int .i64 1)) fun v99_1 =>
              k_33 v99_1 h_45) h_45 fun v99 h_46 =>
            optW (pPick v95 (.bool true) v99) fun v100 =>
            gopW (gB v100 false) (fun k_34 =>
              optW (pOff 3 v8) fun v102_1 =>
              k_34 v102_1 h_46) h_46 fun v102 h_47 =>
            gopW (gB v100 false) (fun k_35 =>
              optW (rdRow false 1 v102 h_47) fun v103_1 =>
              k_35 v103_1 h_47) h_47 fun v103 h_48 =>
            gopW (gB v100 false) (fun k_36 =>
              optW (pOff 1 (e_1 3)) fun v104_1 =>
              k_36 v104_1 h_48) h_48 fun v104 h_49 =>
            gopW (gB v100 false) (fun k_37 =>
              optW (rdRow false 1 v104 h_49) fun v105_1 =>
              k_37 v105_1 h_49) h_49 fun v105 h_50 =>
            gopW (gB v100 false) (fun k_38 =>
              optW (pBin Try.prog .gtr 3 v103 v105) fun v106_1 =>
              k_38 v106_1 h_50) h_50 fun v106 h_51 =>
            optW (pPick v100 (.bool true) v106) fun v107 =>
            condW v107 (
              K (.int .i64 9) h_51
            ) (
              optW (pBin Try.prog .add 3 (e_1 7) (.int .i64 1)) fun v71 =>
              I_1 (pt (pt (pt (pt (pt (pt (pt (pt (pt (pt (pt (pt (pt (pt (pt (pt (pt (pt (pt (pt (pt (pt (pt (pt (pt (pt (pt (pt (pt (pt (pt (pt (pt (pt (pt (pt (pt (pt (pt (pt (pt (pt (pt (pt (pt e_1 65 (e_1 7)) 66 v66) 67 v67) 68 v68) 69 v69) 72 v72) 73 v73) 74 (e_1 7)) 75 v75) 76 v76) 8 v8) 77 v77) 78 v78) 79 v79) 80 v80) 81 v81) 82 v81) 83 v83) 84 v84) 85 v85) 86 v86) 87 v87) 88 v88) 89 v88) 90 v90) 91 v91) 92 v92) 93 v93) 94 v94) 95 v95) 96 v95) 97 v97) 98 v98) 99 v99) 100 v100) 101 v100) 102 v102) 103 v103) 104 v104) 105 v105) 106 v106) 107 v107) 70 (e_1 7)) 71 v71) 7 v71) h_51)
          ) (
            loopE (fun I_2 e_2 h_52 =>
              optW (pOff 5 (e_2 3)) fun v109 =>
              optW (rdRow false 1 v109 h_52) fun v110 =>
              optW (lenSl v110) fun v111 =>
              optW (pBin Try.prog .lss 3 (e_2 9) v111) fun v112 =>
              condW v112 (
                optW (pOff 5 (e_2 3)) fun v115 =>
                optW (rdRow false 1 v115 h_52) fun v116 =>
                optW (pIdxS 4 v116 (e_2 9)) fun v118 =>
                optW (rdRow true 4 v118 h_52) fun v119 =>
                newR none [(.int .i64 0), (.int .i64 0), (.int .i64 0), (.int .i64 0)] h_52 fun v10 h_53 =>
                optW (pStore 4 v10 v119 h_53) fun h_54 =>
                optW (rdRow true 7 (e_2 3) h_54) fun v120 =>
                optW (pOff 0 v10) fun v121 =>
                optW (rdRow false 1 v121 h_54) fun v122 =>
                X 50 [v120, v122] h_54 fun v123 h_55 =>
                optW (pUn .not v123) fun v124 =>
                gopW (gB v124 false) (fun k_39 =>
                  optW (rdRow true 7 (e_2 3) h_55) fun v126_1 =>
                  k_39 v126_1 h_55) h_55 fun v126 h_56 =>
                gopW (gB v124 false) (fun k_40 =>
                  optW (pOff 3 v10) fun v127_1 =>
                  k_40 v127_1 h_56) h_56 fun v127 h_57 =>
                gopW (gB v124 false) (fun k_41 =>
                  optW (rdRow false 1 v127 h_57) fun v128_1 =>
                  k_41 v128_1 h_57) h_57 fun v128 h_58 =>
                gopW (gB v124 false) (fun k_42 =>
                  X 50 [v126, v128] h_58 fun v129_1 h_60 =>
                  k_42 v129_1 h_60) h_58 fun v129 h_59 =>
                gopW (gB v124 false) (fun k_43 =>
                  optW (pUn .not v129) fun v130_1 =>
                  k_43 v130_1 h_59) h_59 fun v130 h_61 =>
                optW (pPick v124 (.bool true) v130) fun v131 =>
                gopW (gB v131 false) (fun k_44 =>
                  k_44 (e_2 0) h_61) h_61 fun v133 h_62 =>
                gopW (gB v131 false) (fun k_45 =>
                  optW (pOff 1 v10) fun v134_1 =>
                  k_45 v134_1 h_62) h_62 fun v134 h_63 =>
                gopW (gB v131 false) (fun k_46 =>
                  optW (rdRow false 1 v134 h_63) fun v135_1 =>
                  k_46 v135_1 h_63) h_63 fun v135 h_64 =>
                gopW (gB v131 false) (fun k_47 =>
                  X 51 [v133, v135, (.int .i64 2)] h_64 fun v136_1 h_66 =>
                  k_47 v136_1 h_66) h_64 fun v136 h_65 =>
                gopW (gB v131 false) (fun k_48 =>
                  optW (pUn .not v136) fun v137_1 =>
                  k_48 v137_1 h_65) h_65 fun v137 h_67 =>
                optW (pPick v131 (.bool true) v137) fun v138 =>
                gopW (gB v138 false) (fun k_49 =>
                  optW (pOff 2 v10) fun v140_1 =>
                  k_49 v140_1 h_67) h_67 fun v140 h_68 =>
                gopW (gB v138 false) (fun k_50 =>
                  optW (rdRow false 1 v140 h_68) fun v141_1 =>
                  k_50 v141_1 h_68) h_68 fun v141 h_69 =>
                gopW (gB v138 false) (fun k_51 =>
                  optW (pBin Try.prog .lss 3 v141 (.int .i64 0)) fun v142_1 =>
                  k_51 v142_1 h_69) h_69 fun v142 h_70 =>
                optW (pPick v138 (.bool true) v142) fun v143 =>
                gopW (gB v143 false) (fun k_52 =>
                  optW (pOff 2 v10) fun v145_1 =>
                  k_52 v145_1 h_70) h_70 fun v145 h_71 =>
                gopW (gB v143 false) (fun k_53 =>
                  optW (rdRow false 1 v145 h_71) fun v146_1 =>
                  k_53 v146_1 h_71) h_71 fun v146 h_72 =>
                gopW (gB v143 false) (fun k_54 =>
                  optW (pOff 1 (e_2 3)) fun v147_1 =>
                  k_54 v147_1 h_72) h_72 fun v147 h_73 =>
                gopW (gB v143 false) (fun k_55 =>
                  optW (rdRow false 1 v147 h_73) fun v148_1 =>
                  k_55 v148_1 h_73) h_73 fun v148 h_74 =>
                gopW (gB v143 false) (fun k_56 =>
                  optW (pBin Try.prog .gtr 3 v146 v148) fun v149_1 =>
                  k_56 v149_1 h_74) h_74 fun v149 h_75 =>
                optW (pPick v143 (.bool true) v149) fun v150 =>
                condW v150 (
                  K (.int .i64 9) h_75
                ) (
                  optW (pBin Try.prog .add 3 (e_2 9) (.int .i64 1)) fun v114 =>
                  I_2 (pt (pt (pt (pt (pt (pt (pt (pt (pt (pt (pt (pt (pt (pt (pt (pt (pt (pt (pt (pt (pt (pt (pt (pt (pt (pt (pt (pt (pt (pt (pt (pt (pt (pt (pt (pt (pt (pt (pt (pt (pt (pt (pt (pt (pt e_2 108 (e_2 9)) 109 v109) 110 v110) 111 v111) 112 v112) 115 v115) 116 v116) 117 (e_2 9)) 118 v118) 119 v119) 10 v10) 120 v120) 121 v121) 122 v122) 123 v123) 124 v124) 125 v124) 126 v126) 127 v127) 128 v128) 129 v129) 130 v130) 131 v131) 132 v131) 133 v133) 134 v134) 135 v135) 136 v136) 137 v137) 138 v138) 139 v138) 140 v140) 141 v141) 142 v142) 143 v143) 144 v143) 145 v145) 146 v146) 147 v147) 148 v148) 149 v149) 150 v150) 113 (e_2 9)) 114 v114) 9 v114) h_75)
              ) (
                loopE (fun I_3 e_3 h_76 =>
                  optW (pOff 6 (e_3 3)) fun v152 =>
                  optW (rdRow false 1 v152 h_76) fun v153 =>
                  optW (lenSl v153) fun v154 =>
                  optW (pBin Try.prog .lss 3 (e_3 11) v154) fun v155 =>
                  condW v155 (
                    optW (pOff 6 (e_3 3)) fun v158 =>
                    optW (rdRow false 1 v158 h_76) fun v159 =>
                    optW (pIdxS 3 v159 (e_3 11)) fun v161 =>
                    optW (rdRow true 3 v161 h_76) fun v162 =>
                    newR none [(.int .i64 0), (.int .i64 0), (.int .i64 0)] h_76 fun v12 h_77 =>
                    optW (pStore 3 v12 v162 h_77) fun h_78 =>
                    optW (rdRow true 7 (e_3 3) h_78) fun v163 =>
                    optW (pOff 0 v12) fun v164 =>
                    optW (rdRow false 1 v164 h_78) fun v165 =>
                    X 50 [v163, v165] h_78 fun v166 h_79 =>
                    optW (pUn .not v166) fun v167 =>
                    gopW (gB v167 false) (fun k_57 =>
                      optW (rdRow true 7 (e_3 3) h_79) fun v169_1 =>
                      k_57 v169_1 h_79) h_79 fun v169 h_80 =>
                    gopW (gB v167 false) (fun k_58 =>
                      optW (pOff 2 v12) fun v170_1 =>
                      k_58 v170_1 h_80) h_80 fun v170 h_81 =>
                    gopW (gB v167 false) (fun k_59 =>
                      optW (rdRow false 1 v170 h_81) fun v171_1 =>
                      k_59 v171_1 h_81) h_81 fun v171 h_82 =>
                    gopW (gB v167 false) (fun k_60 =>
                      X 50 [v169, v171] h_82 fun v172_1 h_84 =>
                      k_60 v172_1 h_84) h_82 fun v172 h_83 =>
                    gopW (gB v167 false) (fun k_61 =>
                      optW (pUn .not v172) fun v173_1 =>
                      k_61 v173_1 h_83) h_83 fun v173 h_85 =>
                    optW (pPick v167 (.bool true) v173) fun v174 =>
                    gopW (gB v174 false) (fun k_62 =>
                      k_62 (e_3 0) h_85) h_85 fun v176 h_86 =>
                    gopW (gB v174 false) (fun k_63 =>
                      optW (pOff 1 v12) fun v177_1 =>
                      k_63 v177_1 h_86) h_86 fun v177 h_87 =>
                    gopW (gB v174 false) (fun k_64 =>
                      optW (rdRow false 1 v177 h_87) fun v178_1 =>
                      k_64 v178_1 h_87) h_87 fun v178 h_88 =>
                    gopW (gB v174 false) (fun k_65 =>
                      X 51 [v176, v178, (.int .i64 3)] h_88 fun v179_1 h_90 =>
                      k_65 v179_1 h_90) h_88 fun v179 h_89 =>
                    gopW (gB v174 false) (fun k_66 =>
                      optW (pUn .not v179) fun v180_1 =>
                      k_66 v180_1 h_89) h_89 fun v180 h_91 =>
                    optW (pPick v174 (.bool true) v180) fun v181 =>
                    condW v181 (
                      K (.int .i64 9) h_91
                    ) (
                      optW (pBin Try.prog .add 3 (e_3 11) (.int .i64 1)) fun v157 =>
                      I_3 (pt (pt (pt (pt (pt (pt (pt (pt (pt (pt (pt (pt (pt (pt (pt (pt (pt (pt (pt (pt (pt (pt (pt (pt (pt (pt (pt (pt (pt (pt (pt (pt (pt e_3 151 (e_3 11)) 152 v152) 153 v153) 154 v154) 155 v155) 158 v158) 159 v159) 160 (e_3 11)) 161 v161) 162 v162) 12 v12) 163 v163) 164 v164) 165 v165) 166 v166) 167 v167) 168 v167) 169 v169) 170 v170) 171 v171) 172 v172) 173 v173) 174 v174) 175 v174) 176 v176) 177 v177) 178 v178) 179 v179) 180 v180) 181 v181) 156 (e_3 11)) 157 v157) 11 v157) h_91)
                  ) (
                    K (.int .i64 0) h_76))
                (pt (pt (pt (pt (pt (pt e_2 108 (e_2 9)) 109 v109) 110 v110) 111 v111) 112 v112) 11 (.int .i64 0)) h_52))
            (pt (pt (pt (pt (pt (pt e_1 65 (e_1 7)) 66 v66) 67 v67) 68 v68) 69 v69) 9 (.int .i64 0)) h_28))
        (pt (pt (pt (pt (pt e 52 (e 6)) 53 (e 5)) 54 v54) 55 v55) 7 (.int .i64 0)) h_26))
    (pt (pt (pt (pt (pt (pt (pt (pt (pt (pt (pt (pt (pt (pt (pt (pt (pt (pt (pt (pt (pt (pt (pt (pt (pt (pt (pt (pt (pt (pt (pt (pt (pt (pt (pt (pt (pt (pt (pt (pt (pt (pt (pt (envOf [a0, a1]) 3 v3) 4 (.int .i64 0)) 13 v13) 14 v14) 15 v15) 16 v15) 17 v17) 18 v18) 19 v19) 20 v20) 21 v20) 22 v22) 23 v23) 24 v24) 25 v25) 26 v25) 27 v27) 28 v28) 29 v29) 30 v30) 31 v30) 32 v32) 33 v33) 34 v34) 35 v35) 36 v36) 37 v37) 38 v38) 39 v39) 40 v40) 41 v41) 42 v42) 43 v43) 44 v44) 45 (.slice (some ⟨i, 0, none⟩) 0 0)) 46 v46) 47 v47) 48 v48) 49 v49) 50 v50) 51 v51) 5 v51) 6 (.int .i64 0)) h_25)
theorem e25 (X : CallT) (a0 a1 : Value) (h : AH) (K : Value → AH → Prop) : cwp2 Try.prog X (Try.f25.body.getD .skip) (endW Try.prog Try.f25 K) (envOf [a0, a1]) h = s25 X a0 a1 h K := by kernel_rfl
theorem c25 {a0 a1 : Value} {h : AH} {K : Value → AH → Prop} (hs : s25 (callW Try.prog) a0 a1 h K) : callW Try.prog 25 [a0, a1] h K := callW_of Try.func25 (by kernel_rfl) (Eq.mpr (e25 _ a0 a1 _ _) hs)

/-- canopy/canopyref1.Deep (I at e: live [0, 1, 5, 6, 7], writes [5, 6, 7, 8, 9, 10, 11, 12, 13, 14, 15, 16, 17, 18, 19, 20, 21, 22, 23, 24, 25, 26, 27, 28, 29, 30, 31, 32, 33]) -/
def s26 (X : CallT) (a0 a1 : Value) (h : AH) (K : Value → AH → Prop) : Prop :=
  loopE (fun I e h_1 =>
    optW (lenSl (e 1)) fun v10 =>
    optW (pBin Try.prog .lss 3 (e 7) v10) fun v11 =>
    condW v11 (
      optW (pIdxS 1 (e 1) (e 7)) fun v17 =>
      optW (rdRow false 1 v17 h_1) fun v18 =>
      optW (pIdxS 2 (e 0) v18) fun v19 =>
      optW (pOff 1 v19) fun v20 =>
      optW (rdRow false 1 v20 h_1) fun v21 =>
      optW (pBin Try.prog .eql 3 v21 (.int .i64 1)) fun v23 =>
      condW v23 (
        optW (pBin Try.prog .add 3 (e 6) (.int .i64 1)) fun v25 =>
        optW (pMax2 true (e 5) v25) fun v33 =>
        optW (pBin Try.prog .add 3 (e 7) (.int .i64 1)) fun v13 =>
        I (pt (pt (pt (pt (pt (pt (pt (pt (pt (pt (pt (pt (pt (pt (pt (pt (pt (pt (pt (pt (pt (pt (pt (pt e 8 (e 7)) 9 (e 1)) 10 v10) 11 v11) 14 (e 0)) 15 (e 1)) 16 (e 7)) 17 v17) 18 v18) 19 v19) 20 v20) 21 v21) 23 v23) 22 v23) 24 (e 6)) 25 v25) 6 v25) 31 (e 5)) 32 v25) 33 v33) 5 v33) 12 (e 7)) 13 v13) 7 v13) h_1
      ) (
        optW (pBin Try.prog .eql 3 v21 (.int .i64 2)) fun v27 =>
        condW v27 (
          optW (pBin Try.prog .sub 3 (e 6) (.int .i64 1)) fun v29 =>
          optW (pMax2 true v29 (.int .i64 0)) fun v30 =>
          optW (pMax2 true (e 5) v30) fun v33_1 =>
          optW (pBin Try.prog .add 3 (e 7) (.int .i64 1)) fun v13_1 =>
          I (pt (pt (pt (pt (pt (pt (pt (pt (pt (pt (pt (pt (pt (pt (pt (pt (pt (pt (pt (pt (pt (pt (pt (pt (pt (pt (pt e 8 (e 7)) 9 (e 1)) 10 v10) 11 v11) 14 (e 0)) 15 (e 1)) 16 (e 7)) 17 v17) 18 v18) 19 v19) 20 v20) 21 v21) 23 v23) 22 v23) 27 v27) 26 v27) 28 (e 6)) 29 v29) 30 v30) 6 v30) 31 (e 5)) 32 v30) 33 v33_1) 5 v33_1) 12 (e 7)) 13 v13_1) 7 v13_1) h_1
        ) (
          optW (pMax2 true (e 5) (e 6)) fun v33_2 =>
          optW (pBin Try.prog .add 3 (e 7) (.int .i64 1)) fun v13_2 =>
          I (pt (pt (pt (pt (pt (pt (pt (pt (pt (pt (pt (pt (pt (pt (pt (pt (pt (pt (pt (pt (pt (pt (pt e 8 (e 7)) 9 (e 1)) 10 v10) 11 v11) 14 (e 0)) 15 (e 1)) 16 (e 7)) 17 v17) 18 v18) 19 v19) 20 v20) 21 v21) 23 v23) 22 v23) 27 v27) 26 v27) 31 (e 5)) 32 (e 6)) 33 v33_2) 5 v33_2) 12 (e 7)) 13 v13_2) 7 v13_2) h_1))
    ) (
      K (e 5) h_1))
  (pt (pt (pt (pt (envOf [a0, a1]) 4 (.int .i64 0)) 5 (.int .i64 0)) 6 (.int .i64 0)) 7 (.int .i64 0)) h
theorem e26 (X : CallT) (a0 a1 : Value) (h : AH) (K : Value → AH → Prop) : cwp2 Try.prog X (Try.f26.body.getD .skip) (endW Try.prog Try.f26 K) (envOf [a0, a1]) h = s26 X a0 a1 h K := by kernel_rfl
theorem c26 {a0 a1 : Value} {h : AH} {K : Value → AH → Prop} (hs : s26 (callW Try.prog) a0 a1 h K) : callW Try.prog 26 [a0, a1] h K := callW_of Try.func26 (by kernel_rfl) (Eq.mpr (e26 _ a0 a1 _ _) hs)

/-- canopy/canopyref4.Takes (I at e: live [4, 7, 8, 9], writes [9, 42, 43, 44, 45, 46, 47, 48, 49, 50, 51, 52, 53, 54, 55, 56, 57, 58, 59, 60, 61, 62, 63, 64]; I_1 at e_1: live [0, 2, 4, 7, 8, 10, 11], writes [6, 10, 11, 12, 13, 14, 15, 16, 17, 18, 19, 20, 21, 65, 66, 67, 68, 69, 70, 71, 72, 73, 74, 75, 76, 77, 78, 79, 80, 81, 82, 83, 84, 85, 86, 87, 88, 89, 90, 91, 92, 93, 94, 95, 96, 97, 98, 99, 100, 101, 102, 103, 104, 105, 106, 107, 108, 109, 110, 111, 112, 113, 114, 115, 116, 117, 118, 119, 120, 121, 122, 123, 124, 125, 126, 127, 128, 129, 130, 131, 132, 133, 134, 135, 136, 137, 138, 139, 140, 141, 142, 143, 144, 145, 146, 147, 148, 149, 150, 151, 152, 153, 154, 155, 156, 157, 158, 159, 160, 161, 162, 163, 164, 165, 166, 167, 168, 169, 170, 171, 172, 173, 174, 175, 176, 177, 178, 179, 180, 181, 182, 183, 184, 185, 186, 187, 188, 189, 190, 191, 192, 193, 194, 195, 196, 197, 198, 199, 200, 201, 202, 203, 204, 205, 206, 207, 208, 209, 210, 211, 212, 213, 214, 215, 216, 217, 218, 219, 220, 221, 222, 223, 224, 225, 226, 227, 228, 229, 230, 231, 232, 233, 234, 235, 236, 237, 238, 239, 240, 241, 242, 243, 244, 245, 246, 247, 248, 249, 250, 251, 252, 253, 254, 255, 256, 257, 258, 259, 260, 261, 262, 263, 264, 265, 266, 267, 268, 269, 270, 271, 272, 273, 274, 275]; I_2 at e_2: live [2, 4, 7, 8, 11, 12, 13], writes [13, 14, 15, 147, 148, 149, 150, 151, 152, 153, 154, 155, 156, 157, 158, 159, 160, 161, 162, 163, 164, 165, 166, 167, 168, 169, 170, 171, 172, 173, 174, 175, 176, 177, 178, 179, 180, 181, 182, 183, 184, 185, 186, 187, 188, 189, 190, 191, 192]; I_3 at e_3: live [2, 7, 8, 11, 12, 14, 15], writes [15, 159, 160, 161, 162, 163, 164, 165, 166, 167, 168, 169, 170, 171, 172, 173, 174, 175, 176, 177, 178, 179, 180, 181, 182, 183, 184, 185, 186, 187, 188, 189, 190, 191, 192]; I_4 at e_4: live [2, 4, 7, 8, 11, 12, 16], writes [16, 17, 18, 225, 226, 227, 228, 229, 230, 231, 232, 233, 234, 235, 236, 237, 238, 239, 240, 241, 242, 243, 244, 245, 246, 247, 248, 249, 250, 251, 252, 253, 254, 255, 256, 257, 258, 259, 260, 261, 262, 263, 264, 265, 266, 267, 268, 269, 270, 271, 272, 273, 274]; I_5 at e_5: live [2, 7, 8, 11, 12, 17, 18], writes [18, 237, 238, 239, 240, 241, 242, 243, 244, 245, 246, 247, 248, 249, 250, 251, 252, 253, 254, 255, 256, 257, 258, 259, 260, 261, 262, 263, 264, 265, 266, 267, 268, 269, 270, 271, 272, 273, 274]; I_6 at e_6: live [2, 4, 7, 8, 11, 12, 19], writes [19, 20, 21, 100, 101, 102, 103, 104, 105, 106, 107, 108, 109, 110, 111, 112, 113, 114, 115, 116, 117, 118, 119, 120, 121, 122, 123, 124, 125, 126, 127, 128, 129, 130, 131, 132, 133, 134, 135, 136, 137, 138, 139, 140, 141, 142, 143, 144]; I_7 at e_7: live [2, 7, 8, 11, 12, 20, 21], writes [21, 112, 113, 114, 115, 116, 117, 118, 119, 120, 121, 122, 123, 124, 125, 126, 127, 128, 129, 130, 131, 132, 133, 134, 135, 136, 137, 138, 139, 140, 141, 142, 143, 144]; I_8 at e_8: live [4, 7, 8, 22], writes [6, 22, 23, 276, 277, 278, 279, 280, 281, 282, 283, 284, 285, 286, 287, 288, 289, 290, 291, 292, 293, 294, 295, 296, 297, 298, 299, 300]; I_9 at e_9: live [4, 7, 8, 22, 23], writes [6, 23, 283, 284, 285, 286, 287, 288, 289, 290, 291, 292, 293, 294, 295, 296, 297, 298, 299, 300]) -/
def s27 (X : CallT) (a0 a1 a2 : Value) (h : AH) (K : Value → AH → Prop) : Prop :=
  aBox a1 none h fun v4 h_1 =>
  optW (pOff 0 v4) fun v24 =>
  optW (rdRow false 1 v24 h_1) fun v25 =>
  optW (pBin Try.prog .lss 3 v25 (.int .i64 1)) fun v27 =>
  gopW (gB v27 false) (fun k =>
    k v25 h_1) h_1 fun v29 h_2 =>
  gopW (gB v27 false) (fun k_1 =>
    optW (pBin Try.prog .gtr 3 v29 (.int .i64 200)) fun v30_1 =>
    k_1 v30_1 h_2) h_2 fun v30 h_3 =>
  optW (pPick v27 (.bool true) v30) fun v31 =>
  gopW (gB v31 false) (fun k_2 =>
    optW (rdRow true 7 v4 h_3) fun v33_1 =>
    k_2 v33_1 h_3) h_3 fun v33 h_4 =>
  gopW (gB v31 false) (fun k_3 =>
    X 52 [v33] h_4 fun v34_1 h_6 =>
    k_3 v34_1 h_6) h_4 fun v34 h_5 =>
  gopW (gB v31 false) (fun k_4 =>
    optW (pUn .not v34) fun v35_1 =>
    k_4 v35_1 h_5) h_5 fun v35 h_7 =>
  optW (pPick v31 (.bool true) v35) fun v36 =>
  condW v36 (
    K (.bool false) h_7
  ) (
    optW (pBin Try.prog .mul 3 v25 v25) fun v39 =>
    optW (mkSl 1 1 [(.bool false)] v39 v39) fun c =>
    newW none (.row c.2.2 true) h_7 fun i h_8 =>
    optW (bld [(.slice none 0 0), (.int .i64 0)] [(0, 1), (1, 1)] [(0, (.slice (some ⟨i, 0, none⟩) c.1 c.2.1))]) fun v41 =>
    newR none [(.slice none 0 0), (.int .i64 0)] h_8 fun v8 h_9 =>
    optW (pStore 2 v8 v41 h_9) fun h_10 =>
    loopE (fun I e h_11 =>
      optW (pOff 2 (e 4)) fun v43 =>
      optW (rdRow false 1 v43 h_11) fun v44 =>
      optW (lenSl v44) fun v45 =>
      optW (pBin Try.prog .lss 3 (e 9) v45) fun v46 =>
      condW v46 (
        optW (pOff 0 (e 8)) fun v49 =>
        optW (rdRow false 1 v49 h_11) fun v50 =>
        optW (pOff 2 (e 4)) fun v51 =>
        optW (rdRow false 1 v51 h_11) fun v52 =>
        optW (pIdxS 1 v52 (e 9)) fun v54 =>
        optW (rdRow false 1 v54 h_11) fun v55 =>
        optW (pBin Try.prog .mul 3 v55 (e 7)) fun v57 =>
        optW (pOff 2 (e 4)) fun v58 =>
        optW (rdRow false 1 v58 h_11) fun v59 =>
        optW (pIdxS 1 v59 (e 9)) fun v61 =>
        optW (rdRow false 1 v61 h_11) fun v62 =>
        optW (pBin Try.prog .add 3 v57 v62) fun v63 =>
        optW (pIdxS 1 v50 v63) fun v64 =>
        optW (pStore 1 v64 (.bool true) h_11) fun h_12 =>
        optW (pBin Try.prog .add 3 (e 9) (.int .i64 1)) fun v48 =>
        I (pt (pt (pt (pt (pt (pt (pt (pt (pt (pt (pt (pt (pt (pt (pt (pt (pt (pt (pt (pt (pt (pt (pt (pt e 42 (e 9)) 43 v43) 44 v44) 45 v45) 46 v46) 49 v49) 50 v50) 51 v51) 52 v52) 53 (e 9)) 54 v54) 55 v55) 56 (e 7)) 57 v57) 58 v58) 59 v59) 60 (e 9)) 61 v61) 62 v62) 63 v63) 64 v64) 47 (e 9)) 48 v48) 9 v48) h_12
      ) (
        loopE (fun I_1 e_1 h_13 =>
          optW (lenSl (e_1 2)) fun v67 =>
          optW (pBin Try.prog .lss 3 (e_1 11) v67) fun v68 =>
          condW v68 (
            optW (pIdxS 1 (e_1 2) (e_1 11)) fun v73 =>
            optW (rdRow false 1 v73 h_13) fun v74 =>
            optW (pBin Try.prog .lss 3 v74 (.int .i64 0)) fun v75 =>
            gopW (gB v75 false) (fun k_5 =>
              k_5 (e_1 2) h_13) h_13 fun v77 h_14 =>
            gopW (gB v75 false) (fun k_6 =>
              k_6 (e_1 11) h_14) h_14 fun v78 h_15 =>
            gopW (gB v75 false) (fun k_7 =>
              optW (pIdxS 1 v77 v78) fun v79_1 =>
              k_7 v79_1 h_15) h_15 fun v79 h_16 =>
            gopW (gB v75 false) (fun k_8 =>
              optW (rdRow false 1 v79 h_16) fun v80_1 =>
              k_8 v80_1 h_16) h_16 fun v80 h_17 =>
            gopW (gB v75 false) (fun k_9 =>
              k_9 (e_1 0) h_17) h_17 fun v81 h_18 =>
            gopW (gB v75 false) (fun k_10 =>
              optW (lenSl v81) fun v82_1 =>
              k_10 v82_1 h_18) h_18 fun v82 h_19 =>
            gopW (gB v75 false) (fun k_11 =>
              optW (pBin Try.prog .geq 3 v80 v82) fun v83_1 =>
              k_11 v83_1 h_19) h_19 fun v83 h_20 =>
            optW (pPick v75 (.bool true) v83) fun v84 =>
            condW v84 (
              K (.bool false) h_20
            ) (
              optW (pBin Try.prog .mul 3 (e_1 7) (e_1 7)) fun v87 =>
              optW (mkSl 1 1 [(.bool false)] v87 v87) fun c_1 =>
              newW (some (h_20.length)) (.row c_1.2.2 true) (reserve 2 h_20) fun i_1 h_21 =>
              optW (pOff 1 (e_1 8)) fun v89 =>
              (∀ x ∈ (idOf v89), ((reserve 2 h_20) : AH)[x]? = (h_21 : AH)[x]?) ∧
              optW (rdRow false 1 v89 h_21) fun v90 =>
              optW (bld [(.slice none 0 0), (.int .i64 0)] [(0, 1), (1, 1)] [(0, (.slice (some ⟨i_1, 0, none⟩) c_1.1 c_1.2.1)), (1, v90)]) fun v91 =>
              newR (some (h_20.length + 1)) [(.slice none 0 0), (.int .i64 0)] h_21 fun v12 h_22 =>
              optW (pStore 2 v12 v91 h_22) fun h_23 =>
              optW (pIdxS 1 (e_1 2) (e_1 11)) fun v95 =>
              optW (rdRow false 1 v95 h_23) fun v96 =>
              optW (pIdxS 2 (e_1 0) v96) fun v97 =>
              optW (pOff 1 v97) fun v98 =>
              optW (rdRow false 1 v98 h_23) fun v99 =>
              optW (pBin Try.prog .eql 3 v99 (.int .i64 1)) fun v146 =>
              condW v146 (
                loopE (fun I_2 e_2 h_24 =>
                  optW (pOff 4 (e_2 4)) fun v148 =>
                  optW (rdRow false 1 v148 h_24) fun v149 =>
                  optW (lenSl v149) fun v150 =>
                  optW (pBin Try.prog .lss 3 (e_2 13) v150) fun v151 =>
                  condW v151 (
                    optW (pOff 4 (e_2 4)) fun v154 =>
                    optW (rdRow false 1 v154 h_24) fun v155 =>
                    optW (pIdxS 4 v155 (e_2 13)) fun v157 =>
                    optW (rdRow true 4 v157 h_24) fun v158 =>
                    newR none [(.int .i64 0), (.int .i64 0), (.int .i64 0), (.int .i64 0)] h_24 fun v14 h_25 =>
                    optW (pStore 4 v14 v158 h_25) fun h_26 =>
                    loopE (fun I_3 e_3 h_27 =>
                      optW (pBin Try.prog .lss 3 (e_3 15) (e_3 7)) fun v161 =>
                      gopD (gB v161 true) (fun k_12 =>
                        optW (pOff 1 (e_3 14)) fun v163_1 =>
                        k_12 v163_1 h_27 [] []) h_27 [] [] fun v163 h_28 H S =>
                      gopD (gB v161 true) (fun k_13 =>
                        histC #[0, 0, 3, 7, 15, 31, 15, 15, 207, 463, 1023, 2047] 5 (idOf v163) H (
                          optW (rdRow false 1 v163 h_28) fun v164_1 =>
                          k_13 v164_1 h_28 H ((5, (idOf v163)) :: S))) h_28 H S fun v164 h_29 H_1 S_1 =>
                      gopD (gB v161 true) (fun k_14 =>
                        k_14 (e_3 2) h_29 H_1 S_1) h_29 H_1 S_1 fun v165 h_30 H_2 S_2 =>
                      gopD (gB v161 true) (fun k_15 =>
                        k_15 (e_3 11) h_30 H_2 S_2) h_30 H_2 S_2 fun v166 h_31 H_3 S_3 =>
                      gopD (gB v161 true) (fun k_16 =>
                        optW (pIdxS 1 v165 v166) fun v167_1 =>
                        k_16 v167_1 h_31 H_3 S_3) h_31 H_3 S_3 fun v167 h_32 H_4 S_4 =>
                      gopD (gB v161 true) (fun k_17 =>
                        histC #[0, 0, 3, 7, 15, 31, 15, 15, 207, 463, 1023, 2047] 9 (idOf v167) H_4 (
                          optW (rdRow false 1 v167 h_32) fun v168_1 =>
                          k_17 v168_1 h_32 H_4 ((9, (idOf v167)) :: S_4))) h_32 H_4 S_4 fun v168 h_33 H_5 S_5 =>
                      gopD (gB v161 true) (fun k_18 =>
                        optW (pBin Try.prog .eql 3 v164 v168) fun v169_1 =>
                        k_18 v169_1 h_33 H_5 S_5) h_33 H_5 S_5 fun v169 h_34 H_6 S_6 =>
                      optW (pPick v161 v169 (.bool false)) fun v170 =>
                      condW v170 (
                        optW (pOff 0 (e_3 8)) fun v173 =>
                        optW (rdRow false 1 v173 h_34) fun v174 =>
                        optW (pBin Try.prog .mul 3 (e_3 15) (e_3 7)) fun v177 =>
                        optW (pOff 0 (e_3 14)) fun v178 =>
                        optW (rdRow false 1 v178 h_34) fun v179 =>
                        optW (pBin Try.prog .add 3 v177 v179) fun v180 =>
                        optW (pIdxS 1 v174 v180) fun v181 =>
                        optW (rdRow false 1 v181 h_34) fun v182 =>
                        condW v182 (
                          optW (pOff 0 (e_3 12)) fun v183 =>
                          optW (rdRow false 1 v183 h_34) fun v184 =>
                          optW (pOff 2 (e_3 14)) fun v185 =>
                          optW (rdRow false 1 v185 h_34) fun v186 =>
                          optW (pBin Try.prog .mul 3 v186 (e_3 7)) fun v188 =>
                          optW (pOff 2 (e_3 14)) fun v189 =>
                          optW (rdRow false 1 v189 h_34) fun v190 =>
                          optW (pBin Try.prog .add 3 v188 v190) fun v191 =>
                          optW (pIdxS 1 v184 v191) fun v192 =>
                          optW (pStore 1 v192 (.bool true) h_34) fun h_35 =>
                          optW (pBin Try.prog .add 3 (e_3 15) (.int .i64 1)) fun v172 =>
                          I_3 (pt (pt (pt (pt (pt (pt (pt (pt (pt (pt (pt (pt (pt (pt (pt (pt (pt (pt (pt (pt (pt (pt (pt (pt (pt (pt (pt (pt (pt (pt (pt (pt (pt (pt (pt e_3 159 (e_3 15)) 160 (e_3 7)) 161 v161) 162 v161) 163 v163) 164 v164) 165 v165) 166 v166) 167 v167) 168 v168) 169 v169) 170 v170) 173 v173) 174 v174) 175 (e_3 15)) 176 (e_3 7)) 177 v177) 178 v178) 179 v179) 180 v180) 181 v181) 182 v182) 183 v183) 184 v184) 185 v185) 186 v186) 187 (e_3 7)) 188 v188) 189 v189) 190 v190) 191 v191) 192 v192) 171 (e_3 15)) 172 v172) 15 v172) h_35
                        ) (
                          optW (pBin Try.prog .add 3 (e_3 15) (.int .i64 1)) fun v172_1 =>
                          I_3 (pt (pt (pt (pt (pt (pt (pt (pt (pt (pt (pt (pt (pt (pt (pt (pt (pt (pt (pt (pt (pt (pt (pt (pt (pt e_3 159 (e_3 15)) 160 (e_3 7)) 161 v161) 162 v161) 163 v163) 164 v164) 165 v165) 166 v166) 167 v167) 168 v168) 169 v169) 170 v170) 173 v173) 174 v174) 175 (e_3 15)) 176 (e_3 7)) 177 v177) 178 v178) 179 v179) 180 v180) 181 v181) 182 v182) 171 (e_3 15)) 172 v172_1) 15 v172_1) h_34)
                      ) (
                        optW (pBin Try.prog .add 3 (e_3 13) (.int .i64 1)) fun v153 =>
                        I_2 (pt (pt (pt (pt (pt (pt (pt (pt (pt (pt (pt (pt (pt (pt (pt e_3 159 (e_3 15)) 160 (e_3 7)) 161 v161) 162 v161) 163 v163) 164 v164) 165 v165) 166 v166) 167 v167) 168 v168) 169 v169) 170 v170) 152 (e_3 13)) 153 v153) 13 v153) h_34))
                    (pt (pt (pt (pt (pt (pt (pt (pt (pt (pt (pt (pt e_2 147 (e_2 13)) 148 v148) 149 v149) 150 v150) 151 v151) 154 v154) 155 v155) 156 (e_2 13)) 157 v157) 158 v158) 14 v14) 15 (.int .i64 0)) h_26
                  ) (
                    optW (rdRow true 2 (e_2 8) (reserve 1 h_24)) fun v194 =>
                    optW (bldSl 2 [(.slice none 0 0), (.int .i64 0)] 1 [(0, v194)]) fun c_2 =>
                    newW (some (h_24.length)) (.row c_2 true) (reserve 1 h_24) fun i_2 h_36 =>
                    appSl 2 (e_2 10) (.slice (some ⟨i_2, 0, none⟩) 1 1) h_36 fun v196 h_37 =>
                    optW (pIdxS 1 (e_2 2) (e_2 11)) fun v199 =>
                    (∀ x ∈ (idOf v199), (h_36 : AH)[x]? = (h_37 : AH)[x]?) ∧
                    (∀ x ∈ (idOf v199), ((reserve 1 h_24) : AH)[x]? = (h_36 : AH)[x]?) ∧
                    optW (rdRow false 1 v199 h_37) fun v200 =>
                    optW (pOff 1 (e_2 12)) fun v201 =>
                    optW (pStore 1 v201 v200 h_37) fun h_38 =>
                    optW (rdRow true 2 (e_2 12) h_38) fun v275 =>
                    optW (pStore 2 (e_2 8) v275 h_38) fun h_39 =>
                    optW (pBin Try.prog .add 3 (e_2 11) (.int .i64 1)) fun v70 =>
                    I_1 (pt (pt (pt (pt (pt (pt (pt (pt (pt (pt (pt (pt (pt (pt (pt (pt (pt (pt (pt e_2 147 (e_2 13)) 148 v148) 149 v149) 150 v150) 151 v151) 193 (e_2 10)) 194 v194) 195 (.slice (some ⟨i_2, 0, none⟩) 1 1)) 196 v196) 197 (e_2 2)) 198 (e_2 11)) 199 v199) 200 v200) 10 v196) 201 v201) 275 v275) 69 (e_2 11)) 70 v70) 11 v70) h_39))
                (pt (pt (pt (pt (pt (pt (pt (pt (pt (pt (pt (pt (pt (pt (pt (pt (pt (pt (pt (pt (pt (pt (pt (pt (pt (pt (pt (pt (pt (pt (pt (pt (pt (pt (pt (pt (pt e_1 65 (e_1 11)) 66 (e_1 2)) 67 v67) 68 v68) 71 (e_1 2)) 72 (e_1 11)) 73 v73) 74 v74) 75 v75) 76 v75) 77 v77) 78 v78) 79 v79) 80 v80) 81 v81) 82 v82) 83 v83) 84 v84) 85 (e_1 7)) 86 (e_1 7)) 87 v87) 88 (.slice (some ⟨i_1, 0, none⟩) c_1.1 c_1.2.1)) 89 v89) 90 v90) 91 v91) 12 v12) 92 (e_1 0)) 93 (e_1 2)) 94 (e_1 11)) 95 v95) 96 v96) 97 v97) 98 v98) 99 v99) 146 v146) 145 v146) 13 (.int .i64 0)) h_23
              ) (
                optW (pBin Try.prog .eql 3 v99 (.int .i64 2)) fun v203 =>
                condW v203 (
                  optW (lenSl (e_1 10)) fun v205 =>
                  optW (pBin Try.prog .gtr 3 v205 (.int .i64 0)) fun v206 =>
                  condW v206 (
                    optW (rdRow true 7 (e_1 4) h_23) fun v207 =>
                    optW (lenSl (e_1 10)) fun v210 =>
                    optW (pBin Try.prog .sub 3 v210 (.int .i64 1)) fun v211 =>
                    optW (pIdxS 2 (e_1 10) v211) fun v212 =>
                    optW (rdRow true 2 v212 h_23) fun v213 =>
                    optW (rdRow true 2 (e_1 8) h_23) fun v214 =>
                    optW (pIdxS 1 (e_1 2) (e_1 11)) fun v217 =>
                    optW (rdRow false 1 v217 h_23) fun v218 =>
                    X 53 [v207, v213, v214, v218] h_23 fun v219 h_40 =>
                    optW (pStore 2 v12 v219 h_40) fun h_41 =>
                    optW (lenSl (e_1 10)) fun v222 =>
                    optW (pBin Try.prog .sub 3 v222 (.int .i64 1)) fun v223 =>
                    optW (pSliceSl 2 (e_1 10) none (some v223) none) fun v224 =>
                    optW (rdRow true 2 v12 h_41) fun v275_1 =>
                    optW (pStore 2 (e_1 8) v275_1 h_41) fun h_42 =>
                    optW (pBin Try.prog .add 3 (e_1 11) (.int .i64 1)) fun v70_1 =>
                    I_1 (pt (pt (pt (pt (pt (pt (pt (pt (pt (pt (pt (pt (pt (pt (pt (pt (pt (pt (pt (pt (pt (pt (pt (pt (pt (pt (pt (pt (pt (pt (pt (pt (pt (pt (pt (pt (pt (pt (pt (pt (pt (pt (pt (pt (pt (pt (pt (pt (pt (pt (pt (pt (pt (pt (pt (pt (pt (pt (pt (pt (pt (pt (pt (pt e_1 65 (e_1 11)) 66 (e_1 2)) 67 v67) 68 v68) 71 (e_1 2)) 72 (e_1 11)) 73 v73) 74 v74) 75 v75) 76 v75) 77 v77) 78 v78) 79 v79) 80 v80) 81 v81) 82 v82) 83 v83) 84 v84) 85 (e_1 7)) 86 (e_1 7)) 87 v87) 88 (.slice (some ⟨i_1, 0, none⟩) c_1.1 c_1.2.1)) 89 v89) 90 v90) 91 v91) 12 v12) 92 (e_1 0)) 93 (e_1 2)) 94 (e_1 11)) 95 v95) 96 v96) 97 v97) 98 v98) 99 v99) 146 v146) 145 v146) 203 v203) 202 v203) 204 (e_1 10)) 205 v205) 206 v206) 207 v207) 208 (e_1 10)) 209 (e_1 10)) 210 v210) 211 v211) 212 v212) 213 v213) 214 v214) 215 (e_1 2)) 216 (e_1 11)) 217 v217) 218 v218) 219 v219) 220 (e_1 10)) 221 (e_1 10)) 222 v222) 223 v223) 224 v224) 10 v224) 275 v275_1) 69 (e_1 11)) 70 v70_1) 11 v70_1) h_42
                  ) (
                    loopE (fun I_4 e_4 h_43 =>
                      optW (pOff 5 (e_4 4)) fun v226 =>
                      optW (rdRow false 1 v226 h_43) fun v227 =>
                      optW (lenSl v227) fun v228 =>
                      optW (pBin Try.prog .lss 3 (e_4 16) v228) fun v229 =>
                      condW v229 (
                        optW (pOff 5 (e_4 4)) fun v232 =>
                        optW (rdRow false 1 v232 h_43) fun v233 =>
                        optW (pIdxS 4 v233 (e_4 16)) fun v235 =>
                        optW (rdRow true 4 v235 h_43) fun v236 =>
                        newR none [(.int .i64 0), (.int .i64 0), (.int .i64 0), (.int .i64 0)] h_43 fun v17 h_44 =>
                        optW (pStore 4 v17 v236 h_44) fun h_45 =>
                        loopE (fun I_5 e_5 h_46 =>
                          optW (pBin Try.prog .lss 3 (e_5 18) (e_5 7)) fun v239 =>
                          gopD (gB v239 true) (fun k_19 =>
                            optW (pOff 1 (e_5 17)) fun v241_1 =>
                            k_19 v241_1 h_46 [] []) h_46 [] [] fun v241 h_47 H_7 S_7 =>
                          gopD (gB v239 true) (fun k_20 =>
                            histC #[0, 0, 3, 7, 15, 31, 15, 15, 207, 463, 1023, 2047, 4095, 8191, 16383, 32767, 65535] 5 (idOf v241) H_7 (
                              optW (rdRow false 1 v241 h_47) fun v242_1 =>
                              k_20 v242_1 h_47 H_7 ((5, (idOf v241)) :: S_7))) h_47 H_7 S_7 fun v242 h_48 H_8 S_8 =>
                          gopD (gB v239 true) (fun k_21 =>
                            k_21 (e_5 2) h_48 H_8 S_8) h_48 H_8 S_8 fun v243 h_49 H_9 S_9 =>
                          gopD (gB v239 true) (fun k_22 =>
                            k_22 (e_5 11) h_49 H_9 S_9) h_49 H_9 S_9 fun v244 h_50 H_10 S_10 =>
                          gopD (gB v239 true) (fun k_23 =>
                            optW (pIdxS 1 v243 v244) fun v245_1 =>
                            k_23 v245_1 h_50 H_10 S_10) h_50 H_10 S_10 fun v245 h_51 H_11 S_11 =>
                          gopD (gB v239 true) (fun k_24 =>
                            histC #[0, 0, 3, 7, 15, 31, 15, 15, 207, 463, 1023, 2047, 4095, 8191, 16383, 32767, 65535] 9 (idOf v245) H_11 (
                              optW (rdRow false 1 v245 h_51) fun v246_1 =>
                              k_24 v246_1 h_51 H_11 ((9, (idOf v245)) :: S_11))) h_51 H_11 S_11 fun v246 h_52 H_12 S_12 =>
                          gopD (gB v239 true) (fun k_25 =>
                            optW (pBin Try.prog .eql 3 v242 v246) fun v247_1 =>
                            k_25 v247_1 h_52 H_12 S_12) h_52 H_12 S_12 fun v247 h_53 H_13 S_13 =>
                          optW (pPick v239 v247 (.bool false)) fun v248 =>
                          gopD (gB v248 true) (fun k_26 =>
                            optW (pOff 2 (e_5 17)) fun v250_1 =>
                            k_26 v250_1 h_53 H_13 S_13) h_53 H_13 S_13 fun v250 h_54 H_14 S_14 =>
                          gopD (gB v248 true) (fun k_27 =>
                            histC #[0, 0, 3, 7, 15, 31, 15, 15, 207, 463, 1023, 2047, 4095, 8191, 16383, 32767, 65535] 14 (idOf v250) H_14 (
                              optW (rdRow false 1 v250 h_54) fun v251_1 =>
                              k_27 v251_1 h_54 H_14 ((14, (idOf v250)) :: S_14))) h_54 H_14 S_14 fun v251 h_55 H_15 S_15 =>
                          gopD (gB v248 true) (fun k_28 =>
                            optW (pBin Try.prog .eql 3 v251 (.int .i64 0)) fun v252_1 =>
                            k_28 v252_1 h_55 H_15 S_15) h_55 H_15 S_15 fun v252 h_56 H_16 S_16 =>
                          optW (pPick v248 v252 (.bool false)) fun v253 =>
                          condW v253 (
                            optW (pOff 0 (e_5 8)) fun v256 =>
                            optW (rdRow false 1 v256 h_56) fun v257 =>
                            optW (pBin Try.prog .mul 3 (e_5 18) (e_5 7)) fun v260 =>
                            optW (pOff 0 (e_5 17)) fun v261 =>
                            optW (rdRow false 1 v261 h_56) fun v262 =>
                            optW (pBin Try.prog .add 3 v260 v262) fun v263 =>
                            optW (pIdxS 1 v257 v263) fun v264 =>
                            optW (rdRow false 1 v264 h_56) fun v265 =>
                            condW v265 (
                              optW (pOff 0 (e_5 12)) fun v266 =>
                              optW (rdRow false 1 v266 h_56) fun v267 =>
                              optW (pBin Try.prog .mul 3 (e_5 18) (e_5 7)) fun v270 =>
                              optW (pOff 3 (e_5 17)) fun v271 =>
                              optW (rdRow false 1 v271 h_56) fun v272 =>
                              optW (pBin Try.prog .add 3 v270 v272) fun v273 =>
                              optW (pIdxS 1 v267 v273) fun v274 =>
                              optW (pStore 1 v274 (.bool true) h_56) fun h_57 =>
                              optW (pBin Try.prog .add 3 (e_5 18) (.int .i64 1)) fun v255 =>
                              I_5 (pt (pt (pt (pt (pt (pt (pt (pt (pt (pt (pt (pt (pt (pt (pt (pt (pt (pt (pt (pt (pt (pt (pt (pt (pt (pt (pt (pt (pt (pt (pt (pt (pt (pt (pt (pt (pt (pt (pt e_5 237 (e_5 18)) 238 (e_5 7)) 239 v239) 240 v239) 241 v241) 242 v242) 243 v243) 244 v244) 245 v245) 246 v246) 247 v247) 248 v248) 249 v248) 250 v250) 251 v251) 252 v252) 253 v253) 256 v256) 257 v257) 258 (e_5 18)) 259 (e_5 7)) 260 v260) 261 v261) 262 v262) 263 v263) 264 v264) 265 v265) 266 v266) 267 v267) 268 (e_5 18)) 269 (e_5 7)) 270 v270) 271 v271) 272 v272) 273 v273) 274 v274) 254 (e_5 18)) 255 v255) 18 v255) h_57
                            ) (
                              optW (pBin Try.prog .add 3 (e_5 18) (.int .i64 1)) fun v255_1 =>
                              I_5 (pt (pt (pt (pt (pt (pt (pt (pt (pt (pt (pt (pt (pt (pt (pt (pt (pt (pt (pt (pt (pt (pt (pt (pt (pt (pt (pt (pt (pt (pt e_5 237 (e_5 18)) 238 (e_5 7)) 239 v239) 240 v239) 241 v241) 242 v242) 243 v243) 244 v244) 245 v245) 246 v246) 247 v247) 248 v248) 249 v248) 250 v250) 251 v251) 252 v252) 253 v253) 256 v256) 257 v257) 258 (e_5 18)) 259 (e_5 7)) 260 v260) 261 v261) 262 v262) 263 v263) 264 v264) 265 v265) 254 (e_5 18)) 255 v255_1) 18 v255_1) h_56)
                          ) (
                            optW (pBin Try.prog .add 3 (e_5 16) (.int .i64 1)) fun v231 =>
                            I_4 (pt (pt (pt (pt (pt (pt (pt (pt (pt (pt (pt (pt (pt (pt (pt (pt (pt (pt (pt (pt e_5 237 (e_5 18)) 238 (e_5 7)) 239 v239) 240 v239) 241 v241) 242 v242) 243 v243) 244 v244) 245 v245) 246 v246) 247 v247) 248 v248) 249 v248) 250 v250) 251 v251) 252 v252) 253 v253) 230 (e_5 16)) 231 v231) 16 v231) h_56))
                        (pt (pt (pt (pt (pt (pt (pt (pt (pt (pt (pt (pt e_4 225 (e_4 16)) 226 v226) 227 v227) 228 v228) 229 v229) 232 v232) 233 v233) 234 (e_4 16)) 235 v235) 236 v236) 17 v17) 18 (.int .i64 0)) h_45
                      ) (
                        optW (rdRow true 2 (e_4 12) h_43) fun v275_2 =>
                        optW (pStore 2 (e_4 8) v275_2 h_43) fun h_58 =>
                        optW (pBin Try.prog .add 3 (e_4 11) (.int .i64 1)) fun v70_2 =>
                        I_1 (pt (pt (pt (pt (pt (pt (pt (pt (pt e_4 225 (e_4 16)) 226 v226) 227 v227) 228 v228) 229 v229) 275 v275_2) 69 (e_4 11)) 70 v70_2) 11 v70_2) h_58))
                    (pt (pt (pt (pt (pt (pt (pt (pt (pt (pt (pt (pt (pt (pt (pt (pt (pt (pt (pt (pt (pt (pt (pt (pt (pt (pt (pt (pt (pt (pt (pt (pt (pt (pt (pt (pt (pt (pt (pt (pt (pt (pt e_1 65 (e_1 11)) 66 (e_1 2)) 67 v67) 68 v68) 71 (e_1 2)) 72 (e_1 11)) 73 v73) 74 v74) 75 v75) 76 v75) 77 v77) 78 v78) 79 v79) 80 v80) 81 v81) 82 v82) 83 v83) 84 v84) 85 (e_1 7)) 86 (e_1 7)) 87 v87) 88 (.slice (some ⟨i_1, 0, none⟩) c_1.1 c_1.2.1)) 89 v89) 90 v90) 91 v91) 12 v12) 92 (e_1 0)) 93 (e_1 2)) 94 (e_1 11)) 95 v95) 96 v96) 97 v97) 98 v98) 99 v99) 146 v146) 145 v146) 203 v203) 202 v203) 204 (e_1 10)) 205 v205) 206 v206) 16 (.int .i64 0)) h_23)
                ) (
                  loopE (fun I_6 e_6 h_59 =>
                    optW (pOff 6 (e_6 4)) fun v101 =>
                    optW (rdRow false 1 v101 h_59) fun v102 =>
                    optW (lenSl v102) fun v103 =>
                    optW (pBin Try.prog .lss 3 (e_6 19) v103) fun v104 =>
                    condW v104 (
                      optW (pOff 6 (e_6 4)) fun v107 =>
                      optW (rdRow false 1 v107 h_59) fun v108 =>
                      optW (pIdxS 3 v108 (e_6 19)) fun v110 =>
                      optW (rdRow true 3 v110 h_59) fun v111 =>
                      newR none [(.int .i64 0), (.int .i64 0), (.int .i64 0)] h_59 fun v20 h_60 =>
                      optW (pStore 3 v20 v111 h_60) fun h_61 =>
                      loopE (fun I_7 e_7 h_62 =>
                        optW (pBin Try.prog .lss 3 (e_7 21) (e_7 7)) fun v114 =>
                        gopD (gB v114 true) (fun k_29 =>
                          optW (pOff 1 (e_7 20)) fun v116_1 =>
                          k_29 v116_1 h_62 [] []) h_62 [] [] fun v116 h_63 H_17 S_17 =>
                        gopD (gB v114 true) (fun k_30 =>
                          histC #[0, 0, 3, 7, 15, 31, 15, 15, 207, 463, 1023, 2047] 5 (idOf v116) H_17 (
                            optW (rdRow false 1 v116 h_63) fun v117_1 =>
                            k_30 v117_1 h_63 H_17 ((5, (idOf v116)) :: S_17))) h_63 H_17 S_17 fun v117 h_64 H_18 S_18 =>
                        gopD (gB v114 true) (fun k_31 =>
                          k_31 (e_7 2) h_64 H_18 S_18) h_64 H_18 S_18 fun v118 h_65 H_19 S_19 =>
                        gopD (gB v114 true) (fun k_32 =>
                          k_32 (e_7 11) h_65 H_19 S_19) h_65 H_19 S_19 fun v119 h_66 H_20 S_20 =>
                        gopD (gB v114 true) (fun k_33 =>
                          optW (pIdxS 1 v118 v119) fun v120_1 =>
                          k_33 v120_1 h_66 H_20 S_20) h_66 H_20 S_20 fun v120 h_67 H_21 S_21 =>
                        gopD (gB v114 true) (fun k_34 =>
                          histC #[0, 0, 3, 7, 15, 31, 15, 15, 207, 463, 1023, 2047] 9 (idOf v120) H_21 (
                            optW (rdRow false 1 v120 h_67) fun v121_1 =>
                            k_34 v121_1 h_67 H_21 ((9, (idOf v120)) :: S_21))) h_67 H_21 S_21 fun v121 h_68 H_22 S_22 =>
                        gopD (gB v114 true) (fun k_35 =>
                          optW (pBin Try.prog .eql 3 v117 v121) fun v122_1 =>
                          k_35 v122_1 h_68 H_22 S_22) h_68 H_22 S_22 fun v122 h_69 H_23 S_23 =>
                        optW (pPick v114 v122 (.bool false)) fun v123 =>
                        condW v123 (
                          optW (pOff 0 (e_7 8)) fun v126 =>
                          optW (rdRow false 1 v126 h_69) fun v127 =>
                          optW (pBin Try.prog .mul 3 (e_7 21) (e_7 7)) fun v130 =>
                          optW (pOff 0 (e_7 20)) fun v131 =>
                          optW (rdRow false 1 v131 h_69) fun v132 =>
                          optW (pBin Try.prog .add 3 v130 v132) fun v133 =>
                          optW (pIdxS 1 v127 v133) fun v134 =>
                          optW (rdRow false 1 v134 h_69) fun v135 =>
                          condW v135 (
                            optW (pOff 0 (e_7 12)) fun v136 =>
                            optW (rdRow false 1 v136 h_69) fun v137 =>
                            optW (pBin Try.prog .mul 3 (e_7 21) (e_7 7)) fun v140 =>
                            optW (pOff 2 (e_7 20)) fun v141 =>
                            optW (rdRow false 1 v141 h_69) fun v142 =>
                            optW (pBin Try.prog .add 3 v140 v142) fun v143 =>
                            optW (pIdxS 1 v137 v143) fun v144 =>
                            optW (pStore 1 v144 (.bool true) h_69) fun h_70 =>
                            optW (pBin Try.prog .add 3 (e_7 21) (.int .i64 1)) fun v125 =>
                            I_7 (pt (pt (pt (pt (pt (pt (pt (pt (pt (pt (pt (pt (pt (pt (pt (pt (pt (pt (pt (pt (pt (pt (pt (pt (pt (pt (pt (pt (pt (pt (pt (pt (pt (pt e_7 112 (e_7 21)) 113 (e_7 7)) 114 v114) 115 v114) 116 v116) 117 v117) 118 v118) 119 v119) 120 v120) 121 v121) 122 v122) 123 v123) 126 v126) 127 v127) 128 (e_7 21)) 129 (e_7 7)) 130 v130) 131 v131) 132 v132) 133 v133) 134 v134) 135 v135) 136 v136) 137 v137) 138 (e_7 21)) 139 (e_7 7)) 140 v140) 141 v141) 142 v142) 143 v143) 144 v144) 124 (e_7 21)) 125 v125) 21 v125) h_70
                          ) (
                            optW (pBin Try.prog .add 3 (e_7 21) (.int .i64 1)) fun v125_1 =>
                            I_7 (pt (pt (pt (pt (pt (pt (pt (pt (pt (pt (pt (pt (pt (pt (pt (pt (pt (pt (pt (pt (pt (pt (pt (pt (pt e_7 112 (e_7 21)) 113 (e_7 7)) 114 v114) 115 v114) 116 v116) 117 v117) 118 v118) 119 v119) 120 v120) 121 v121) 122 v122) 123 v123) 126 v126) 127 v127) 128 (e_7 21)) 129 (e_7 7)) 130 v130) 131 v131) 132 v132) 133 v133) 134 v134) 135 v135) 124 (e_7 21)) 125 v125_1) 21 v125_1) h_69)
                        ) (
                          optW (pBin Try.prog .add 3 (e_7 19) (.int .i64 1)) fun v106 =>
                          I_6 (pt (pt (pt (pt (pt (pt (pt (pt (pt (pt (pt (pt (pt (pt (pt e_7 112 (e_7 21)) 113 (e_7 7)) 114 v114) 115 v114) 116 v116) 117 v117) 118 v118) 119 v119) 120 v120) 121 v121) 122 v122) 123 v123) 105 (e_7 19)) 106 v106) 19 v106) h_69))
                      (pt (pt (pt (pt (pt (pt (pt (pt (pt (pt (pt (pt e_6 100 (e_6 19)) 101 v101) 102 v102) 103 v103) 104 v104) 107 v107) 108 v108) 109 (e_6 19)) 110 v110) 111 v111) 20 v20) 21 (.int .i64 0)) h_61
                    ) (
                      optW (rdRow true 2 (e_6 12) h_59) fun v275_3 =>
                      optW (pStore 2 (e_6 8) v275_3 h_59) fun h_71 =>
                      optW (pBin Try.prog .add 3 (e_6 11) (.int .i64 1)) fun v70_3 =>
                      I_1 (pt (pt (pt (pt (pt (pt (pt (pt (pt e_6 100 (e_6 19)) 101 v101) 102 v102) 103 v103) 104 v104) 275 v275_3) 69 (e_6 11)) 70 v70_3) 11 v70_3) h_71))
                  (pt (pt (pt (pt (pt (pt (pt (pt (pt (pt (pt (pt (pt (pt (pt (pt (pt (pt (pt (pt (pt (pt (pt (pt (pt (pt (pt (pt (pt (pt (pt (pt (pt (pt (pt (pt (pt (pt (pt e_1 65 (e_1 11)) 66 (e_1 2)) 67 v67) 68 v68) 71 (e_1 2)) 72 (e_1 11)) 73 v73) 74 v74) 75 v75) 76 v75) 77 v77) 78 v78) 79 v79) 80 v80) 81 v81) 82 v82) 83 v83) 84 v84) 85 (e_1 7)) 86 (e_1 7)) 87 v87) 88 (.slice (some ⟨i_1, 0, none⟩) c_1.1 c_1.2.1)) 89 v89) 90 v90) 91 v91) 12 v12) 92 (e_1 0)) 93 (e_1 2)) 94 (e_1 11)) 95 v95) 96 v96) 97 v97) 98 v98) 99 v99) 146 v146) 145 v146) 203 v203) 202 v203) 19 (.int .i64 0)) h_23)))
          ) (
            loopE (fun I_8 e_8 h_72 =>
              optW (pOff 3 (e_8 4)) fun v277 =>
              optW (rdRow false 1 v277 h_72) fun v278 =>
              optW (lenSl v278) fun v279 =>
              optW (pBin Try.prog .lss 3 (e_8 22) v279) fun v280 =>
              condW v280 (
                loopE (fun I_9 e_9 h_73 =>
                  optW (pBin Try.prog .lss 3 (e_9 23) (e_9 7)) fun v285 =>
                  condW v285 (
                    optW (pOff 0 (e_9 8)) fun v288 =>
                    optW (rdRow false 1 v288 h_73) fun v289 =>
                    optW (pBin Try.prog .mul 3 (e_9 23) (e_9 7)) fun v292 =>
                    optW (pOff 3 (e_9 4)) fun v293 =>
                    optW (rdRow false 1 v293 h_73) fun v294 =>
                    optW (pIdxS 1 v294 (e_9 22)) fun v296 =>
                    optW (rdRow false 1 v296 h_73) fun v297 =>
                    optW (pBin Try.prog .add 3 v292 v297) fun v298 =>
                    optW (pIdxS 1 v289 v298) fun v299 =>
                    optW (rdRow false 1 v299 h_73) fun v300 =>
                    condW v300 (
                      K (.bool true) h_73
                    ) (
                      optW (pBin Try.prog .add 3 (e_9 23) (.int .i64 1)) fun v287 =>
                      I_9 (pt (pt (pt (pt (pt (pt (pt (pt (pt (pt (pt (pt (pt (pt (pt (pt (pt (pt (pt e_9 283 (e_9 23)) 284 (e_9 7)) 285 v285) 288 v288) 289 v289) 290 (e_9 23)) 291 (e_9 7)) 292 v292) 293 v293) 294 v294) 295 (e_9 22)) 296 v296) 297 v297) 298 v298) 299 v299) 300 v300) 286 (e_9 23)) 287 v287) 23 v287) h_73)
                  ) (
                    optW (pBin Try.prog .add 3 (e_9 22) (.int .i64 1)) fun v282 =>
                    I_8 (pt (pt (pt (pt (pt (pt e_9 283 (e_9 23)) 284 (e_9 7)) 285 v285) 281 (e_9 22)) 282 v282) 22 v282) h_73))
                (pt (pt (pt (pt (pt (pt e_8 276 (e_8 22)) 277 v277) 278 v278) 279 v279) 280 v280) 23 (.int .i64 0)) h_72
              ) (
                K (.bool false) h_72))
            (pt (pt (pt (pt (pt e_1 65 (e_1 11)) 66 (e_1 2)) 67 v67) 68 v68) 22 (.int .i64 0)) h_13))
        (pt (pt (pt (pt (pt (pt (pt e 42 (e 9)) 43 v43) 44 v44) 45 v45) 46 v46) 10 (.slice none 0 0)) 11 (.int .i64 0)) h_11))
    (pt (pt (pt (pt (pt (pt (pt (pt (pt (pt (pt (pt (pt (pt (pt (pt (pt (pt (pt (pt (pt (pt (pt (envOf [a0, a1, a2]) 4 v4) 6 (.bool false)) 24 v24) 25 v25) 7 v25) 26 v25) 27 v27) 28 v27) 29 v29) 30 v30) 31 v31) 32 v31) 33 v33) 34 v34) 35 v35) 36 v36) 37 v25) 38 v25) 39 v39) 40 (.slice (some ⟨i, 0, none⟩) c.1 c.2.1)) 41 v41) 8 v8) 9 (.int .i64 0)) h_10)
theorem e27 (X : CallT) (a0 a1 a2 : Value) (h : AH) (K : Value → AH → Prop) : cwp2 Try.prog X (Try.f27.body.getD .skip) (endW Try.prog Try.f27 K) (envOf [a0, a1, a2]) h = s27 X a0 a1 a2 h K := by kernel_rfl
theorem c27 {a0 a1 a2 : Value} {h : AH} {K : Value → AH → Prop} (hs : s27 (callW Try.prog) a0 a1 a2 h K) : callW Try.prog 27 [a0, a1, a2] h K := callW_of Try.func27 (by kernel_rfl) (Eq.mpr (e27 _ a0 a1 a2 _ _) hs)

end Go.Proofs.Ytebbjimmgblcpaa.W
end
