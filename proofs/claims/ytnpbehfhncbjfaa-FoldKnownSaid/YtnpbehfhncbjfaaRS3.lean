/- Go functions, printed by a program as predicates on what may come behind; each is the function. Conditions: none. -/
import Derived.Test.YtnpbehfhncbjfaaRA2
import Derived.Test.YtnpbehfhncbjfaaProg
namespace Go.Proofs.Ytnpbehfhncbjfaa.W
open Go Go.AM
set_option linter.unusedVariables false
set_option maxRecDepth 100000

/-- canopy/canopylaw13.within () -/
def s16 (X : CallT) (a0 a1 : Value) (h : AH) (K : Value → AH → Prop) : Prop :=
  optW (pBin Try.prog .rem 3 a0 a1) fun v8 =>
  optW (pBin Try.prog .lss 3 v8 (.int .i64 0)) fun v10 =>
  condW v10 (
    optW (pBin Try.prog .add 3 v8 a1) fun v13 =>
    K v13 h
  ) (
    K v8 h)
theorem e16 (X : CallT) (a0 a1 : Value) (h : AH) (K : Value → AH → Prop) : cwp2 Try.prog X (Try.f16.body.getD .skip) (endW Try.prog Try.f16 K) (envOf [a0, a1]) h = s16 X a0 a1 h K := by kernel_rfl
theorem c16 {a0 a1 : Value} {h : AH} {K : Value → AH → Prop} (hs : s16 (callW Try.prog) a0 a1 h K) : callW Try.prog 16 [a0, a1] h K := callW_of Try.func16 (by kernel_rfl) (Eq.mpr (e16 _ a0 a1 _ _) hs)

/-- canopy/canopyref13.Check (I at e: live [1, 3, 4, 5], writes [2, 5, 48, 49, 50, 51, 52, 53, 54, 55, 56, 57, 58, 59, 60, 61, 62, 63, 64, 65, 66, 67]; I_1 at e_1: live [1, 3, 4, 6], writes [2, 6, 68, 69, 70, 71, 72, 73, 74, 75, 76, 77, 78, 79, 80, 81, 82, 83, 84, 85, 86, 87, 88, 89, 90, 91, 92, 93, 94, 95, 96, 97, 98, 99, 100]; I_2 at e_2: live [1, 3, 7], writes [2, 7, 127, 128, 129, 130, 131, 132, 133, 134, 135]) -/
def s17 (X : CallT) (a0 : Value) (h : AH) (K : Value → AH → Prop) : Prop :=
  aBox a0 none h fun v1 h =>
  optW (pOff 2 v1) fun v8 =>
  optW (rdRow false 1 v8 h) fun v9 =>
  optW (lenSl v9) fun v10 =>
  optW (pOff 3 v1) fun v11 =>
  optW (rdRow false 1 v11 h) fun v12 =>
  optW (lenSl v12) fun v13 =>
  optW (pOff 0 v1) fun v14 =>
  optW (rdRow false 1 v14 h) fun v15 =>
  optW (pBin Try.prog .lss 3 v15 (.int .i64 0)) fun v16 =>
  gopW (gB v16 false) (fun k =>
    optW (pOff 0 v1) fun v18_1 =>
    k v18_1 h) h fun v18 h_1 =>
  gopW (gB v16 false) (fun k_1 =>
    optW (rdRow false 1 v18 h_1) fun v19_1 =>
    k_1 v19_1 h_1) h_1 fun v19 h_2 =>
  gopW (gB v16 false) (fun k_2 =>
    optW (pBin Try.prog .gtr 3 v19 (.int .i64 20)) fun v20_1 =>
    k_2 v20_1 h_2) h_2 fun v20 h_3 =>
  optW (pPick v16 (.bool true) v20) fun v21 =>
  gopW (gB v21 false) (fun k_3 =>
    optW (pOff 1 v1) fun v23_1 =>
    k_3 v23_1 h_3) h_3 fun v23 h_4 =>
  gopW (gB v21 false) (fun k_4 =>
    optW (rdRow false 1 v23 h_4) fun v24_1 =>
    k_4 v24_1 h_4) h_4 fun v24 h_5 =>
  gopW (gB v21 false) (fun k_5 =>
    optW (pBin Try.prog .lss 3 v24 (.int .i64 0)) fun v25_1 =>
    k_5 v25_1 h_5) h_5 fun v25 h_6 =>
  optW (pPick v21 (.bool true) v25) fun v26 =>
  gopW (gB v26 false) (fun k_6 =>
    optW (pOff 1 v1) fun v28_1 =>
    k_6 v28_1 h_6) h_6 fun v28 h_7 =>
  gopW (gB v26 false) (fun k_7 =>
    optW (rdRow false 1 v28 h_7) fun v29_1 =>
    k_7 v29_1 h_7) h_7 fun v29 h_8 =>
  gopW (gB v26 false) (fun k_8 =>
    optW (pBin Try.prog .gtr 3 v29 (.int .i64 20)) fun v30_1 =>
    k_8 v30_1 h_8) h_8 fun v30 h_9 =>
  optW (pPick v26 (.bool true) v30) fun v31 =>
  gopW (gB v31 false) (fun k_9 =>
    k_9 v10 h_9) h_9 fun v33 h_10 =>
  gopW (gB v31 false) (fun k_10 =>
    optW (pBin Try.prog .lss 3 v33 (.int .i64 1)) fun v34_1 =>
    k_10 v34_1 h_10) h_10 fun v34 h_11 =>
  optW (pPick v31 (.bool true) v34) fun v35 =>
  gopW (gB v35 false) (fun k_11 =>
    k_11 v10 h_11) h_11 fun v37 h_12 =>
  gopW (gB v35 false) (fun k_12 =>
    optW (pBin Try.prog .gtr 3 v37 (.int .i64 60)) fun v38_1 =>
    k_12 v38_1 h_12) h_12 fun v38 h_13 =>
  optW (pPick v35 (.bool true) v38) fun v39 =>
  gopW (gB v39 false) (fun k_13 =>
    k_13 v13 h_13) h_13 fun v41 h_14 =>
  gopW (gB v39 false) (fun k_14 =>
    optW (pBin Try.prog .lss 3 v41 (.int .i64 1)) fun v42_1 =>
    k_14 v42_1 h_14) h_14 fun v42 h_15 =>
  optW (pPick v39 (.bool true) v42) fun v43 =>
  gopW (gB v43 false) (fun k_15 =>
    k_15 v13 h_15) h_15 fun v45 h_16 =>
  gopW (gB v43 false) (fun k_16 =>
    optW (pBin Try.prog .gtr 3 v45 (.int .i64 21)) fun v46_1 =>
    k_16 v46_1 h_16) h_16 fun v46 h_17 =>
  optW (pPick v43 (.bool true) v46) fun v47 =>
  condW v47 (
    K (.int .i64 11) h_17
  ) (
    loopE (fun I e h_18 =>
      optW (pBin Try.prog .lss 3 (e 5) (e 3)) fun v50 =>
      condW v50 (
        optW (pOff 2 (e 1)) fun v53 =>
        optW (rdRow false 1 v53 h_18) fun v54 =>
        optW (pIdxS 1 v54 (e 5)) fun v56 =>
        optW (rdRow false 1 v56 h_18) fun v57 =>
        optW (pBin Try.prog .lss 3 v57 (.int .i64 0)) fun v58 =>
        gopW (gB v58 false) (fun k_17 =>
          optW (pOff 2 (e 1)) fun v60_1 =>
          k_17 v60_1 h_18) h_18 fun v60 h_19 =>
        gopW (gB v58 false) (fun k_18 =>
          optW (rdRow false 1 v60 h_19) fun v61_1 =>
          k_18 v61_1 h_19) h_19 fun v61 h_20 =>
        gopW (gB v58 false) (fun k_19 =>
          k_19 (e 5) h_20) h_20 fun v62 h_21 =>
        gopW (gB v58 false) (fun k_20 =>
          optW (pIdxS 1 v61 v62) fun v63_1 =>
          k_20 v63_1 h_21) h_21 fun v63 h_22 =>
        gopW (gB v58 false) (fun k_21 =>
          optW (rdRow false 1 v63 h_22) fun v64_1 =>
          k_21 v64_1 h_22) h_22 fun v64 h_23 =>
        gopW (gB v58 false) (fun k_22 =>
          k_22 (e 4) h_23) h_23 fun v65 h_24 =>
        gopW (gB v58 false) (fun k_23 =>
          optW (pBin Try.prog .geq 3 v64 v65) fun v66_1 =>
          k_23 v66_1 h_24) h_24 fun v66 h_25 =>
        optW (pPick v58 (.bool true) v66) fun v67 =>
        condW v67 (
          K (.int .i64 11) h_25
        ) (
          optW (pBin Try.prog .add 3 (e 5) (.int .i64 1)) fun v52 =>
          I (pt (pt (pt (pt (pt (pt (pt (pt (pt (pt (pt (pt (pt (pt (pt (pt (pt (pt (pt (pt (pt e 48 (e 5)) 49 (e 3)) 50 v50) 53 v53) 54 v54) 55 (e 5)) 56 v56) 57 v57) 58 v58) 59 v58) 60 v60) 61 v61) 62 v62) 63 v63) 64 v64) 65 v65) 66 v66) 67 v67) 51 (e 5)) 52 v52) 5 v52) h_25)
      ) (
        loopE (fun I_1 e_1 h_26 =>
          optW (pBin Try.prog .lss 3 (e_1 6) (e_1 4)) fun v70 =>
          condW v70 (
            optW (pOff 3 (e_1 1)) fun v73 =>
            optW (rdRow false 1 v73 h_26) fun v74 =>
            optW (pIdxS 1 v74 (e_1 6)) fun v76 =>
            optW (rdRow false 1 v76 h_26) fun v77 =>
            optW (pBin Try.prog .lss 3 v77 (.int .i64 0)) fun v78 =>
            gopD (gB v78 false) (fun k_24 =>
              optW (pOff 3 (e_1 1)) fun v80_1 =>
              k_24 v80_1 h_26 [] ((4, (idOf v76)) :: ((1, (idOf v73)) :: []))) h_26 [] ((4, (idOf v76)) :: ((1, (idOf v73)) :: [])) fun v80 h_27 H S =>
            gopD (gB v78 false) (fun k_25 =>
              histC #[0, 1, 0, 7, 15, 31, 63, 127, 255, 127, 1023, 2047, 127, 8191, 16383, 32767, 65535, 131071, 65535, 327679, 65535, 1900543, 3997695, 8388607, 16777215, 65535, 67108863, 134217727] 8 (idOf v80) H (
                optW (rdRow false 1 v80 h_27) fun v81_1 =>
                k_25 v81_1 h_27 H ((8, (idOf v80)) :: S))) h_27 H S fun v81 h_28 H_1 S_1 =>
            gopD (gB v78 false) (fun k_26 =>
              k_26 (e_1 6) h_28 H_1 S_1) h_28 H_1 S_1 fun v82 h_29 H_2 S_2 =>
            gopD (gB v78 false) (fun k_27 =>
              optW (pIdxS 1 v81 v82) fun v83_1 =>
              k_27 v83_1 h_29 H_2 S_2) h_29 H_2 S_2 fun v83 h_30 H_3 S_3 =>
            gopD (gB v78 false) (fun k_28 =>
              histC #[0, 1, 0, 7, 15, 31, 63, 127, 255, 127, 1023, 2047, 127, 8191, 16383, 32767, 65535, 131071, 65535, 327679, 65535, 1900543, 3997695, 8388607, 16777215, 65535, 67108863, 134217727] 11 (idOf v83) H_3 (
                optW (rdRow false 1 v83 h_30) fun v84_1 =>
                k_28 v84_1 h_30 H_3 ((11, (idOf v83)) :: S_3))) h_30 H_3 S_3 fun v84 h_31 H_4 S_4 =>
            gopD (gB v78 false) (fun k_29 =>
              k_29 (e_1 3) h_31 H_4 S_4) h_31 H_4 S_4 fun v85 h_32 H_5 S_5 =>
            gopD (gB v78 false) (fun k_30 =>
              optW (pBin Try.prog .geq 3 v84 v85) fun v86_1 =>
              k_30 v86_1 h_32 H_5 S_5) h_32 H_5 S_5 fun v86 h_33 H_6 S_6 =>
            optW (pPick v78 (.bool true) v86) fun v87 =>
            gopD (gB v87 false) (fun k_31 =>
              optW (pOff 2 (e_1 1)) fun v89_1 =>
              k_31 v89_1 h_33 H_6 S_6) h_33 H_6 S_6 fun v89 h_34 H_7 S_7 =>
            gopD (gB v87 false) (fun k_32 =>
              histC #[0, 1, 0, 7, 15, 31, 63, 127, 255, 127, 1023, 2047, 127, 8191, 16383, 32767, 65535, 131071, 65535, 327679, 65535, 1900543, 3997695, 8388607, 16777215, 65535, 67108863, 134217727] 17 (idOf v89) H_7 (
                optW (rdRow false 1 v89 h_34) fun v90_1 =>
                k_32 v90_1 h_34 H_7 ((17, (idOf v89)) :: S_7))) h_34 H_7 S_7 fun v90 h_35 H_8 S_8 =>
            gopD (gB v87 false) (fun k_33 =>
              optW (pOff 3 (e_1 1)) fun v91_1 =>
              k_33 v91_1 h_35 H_8 S_8) h_35 H_8 S_8 fun v91 h_36 H_9 S_9 =>
            gopD (gB v87 false) (fun k_34 =>
              histC #[0, 1, 0, 7, 15, 31, 63, 127, 255, 127, 1023, 2047, 127, 8191, 16383, 32767, 65535, 131071, 65535, 327679, 65535, 1900543, 3997695, 8388607, 16777215, 65535, 67108863, 134217727] 19 (idOf v91) H_9 (
                optW (rdRow false 1 v91 h_36) fun v92_1 =>
                k_34 v92_1 h_36 H_9 ((19, (idOf v91)) :: S_9))) h_36 H_9 S_9 fun v92 h_37 H_10 S_10 =>
            gopD (gB v87 false) (fun k_35 =>
              k_35 (e_1 6) h_37 H_10 S_10) h_37 H_10 S_10 fun v93 h_38 H_11 S_11 =>
            gopD (gB v87 false) (fun k_36 =>
              optW (pIdxS 1 v92 v93) fun v94_1 =>
              k_36 v94_1 h_38 H_11 S_11) h_38 H_11 S_11 fun v94 h_39 H_12 S_12 =>
            gopD (gB v87 false) (fun k_37 =>
              histC #[0, 1, 0, 7, 15, 31, 63, 127, 255, 127, 1023, 2047, 127, 8191, 16383, 32767, 65535, 131071, 65535, 327679, 65535, 1900543, 3997695, 8388607, 16777215, 65535, 67108863, 134217727] 22 (idOf v94) H_12 (
                optW (rdRow false 1 v94 h_39) fun v95_1 =>
                k_37 v95_1 h_39 H_12 ((22, (idOf v94)) :: S_12))) h_39 H_12 S_12 fun v95 h_40 H_13 S_13 =>
            gopD (gB v87 false) (fun k_38 =>
              optW (pIdxS 1 v90 v95) fun v96_1 =>
              k_38 v96_1 h_40 H_13 S_13) h_40 H_13 S_13 fun v96 h_41 H_14 S_14 =>
            gopD (gB v87 false) (fun k_39 =>
              histC #[0, 1, 0, 7, 15, 31, 63, 127, 255, 127, 1023, 2047, 127, 8191, 16383, 32767, 65535, 131071, 65535, 327679, 65535, 1900543, 3997695, 8388607, 16777215, 65535, 67108863, 134217727] 24 (idOf v96) H_14 (
                optW (rdRow false 1 v96 h_41) fun v97_1 =>
                k_39 v97_1 h_41 H_14 ((24, (idOf v96)) :: S_14))) h_41 H_14 S_14 fun v97 h_42 H_15 S_15 =>
            gopD (gB v87 false) (fun k_40 =>
              k_40 (e_1 6) h_42 H_15 S_15) h_42 H_15 S_15 fun v98 h_43 H_16 S_16 =>
            gopD (gB v87 false) (fun k_41 =>
              optW (pBin Try.prog .neq 3 v97 v98) fun v99_1 =>
              k_41 v99_1 h_43 H_16 S_16) h_43 H_16 S_16 fun v99 h_44 H_17 S_17 =>
            optW (pPick v87 (.bool true) v99) fun v100 =>
            condW v100 (
              K (.int .i64 11) h_44
            ) (
              optW (pBin Try.prog .add 3 (e_1 6) (.int .i64 1)) fun v72 =>
              I_1 (pt (pt (pt (pt (pt (pt (pt (pt (pt (pt (pt (pt (pt (pt (pt (pt (pt (pt (pt (pt (pt (pt (pt (pt (pt (pt (pt (pt (pt (pt (pt (pt (pt (pt e_1 68 (e_1 6)) 69 (e_1 4)) 70 v70) 73 v73) 74 v74) 75 (e_1 6)) 76 v76) 77 v77) 78 v78) 79 v78) 80 v80) 81 v81) 82 v82) 83 v83) 84 v84) 85 v85) 86 v86) 87 v87) 88 v87) 89 v89) 90 v90) 91 v91) 92 v92) 93 v93) 94 v94) 95 v95) 96 v96) 97 v97) 98 v98) 99 v99) 100 v100) 71 (e_1 6)) 72 v72) 6 v72) h_44)
          ) (
            optW (pOff 4 (e_1 1)) fun v101 =>
            optW (rdRow false 1 v101 h_26) fun v102 =>
            optW (lenSl v102) fun v103 =>
            optW (pBin Try.prog .neq 3 v103 (e_1 3)) fun v105 =>
            gopW (gB v105 false) (fun k_42 =>
              optW (pOff 5 (e_1 1)) fun v107_1 =>
              k_42 v107_1 h_26) h_26 fun v107 h_45 =>
            gopW (gB v105 false) (fun k_43 =>
              optW (rdRow false 1 v107 h_45) fun v108_1 =>
              k_43 v108_1 h_45) h_45 fun v108 h_46 =>
            gopW (gB v105 false) (fun k_44 =>
              optW (lenSl v108) fun v109_1 =>
              k_44 v109_1 h_46) h_46 fun v109 h_47 =>
            gopW (gB v105 false) (fun k_45 =>
              k_45 (e_1 3) h_47) h_47 fun v110 h_48 =>
            gopW (gB v105 false) (fun k_46 =>
              optW (pBin Try.prog .neq 3 v109 v110) fun v111_1 =>
              k_46 v111_1 h_48) h_48 fun v111 h_49 =>
            optW (pPick v105 (.bool true) v111) fun v112 =>
            gopW (gB v112 false) (fun k_47 =>
              optW (pOff 6 (e_1 1)) fun v114_1 =>
              k_47 v114_1 h_49) h_49 fun v114 h_50 =>
            gopW (gB v112 false) (fun k_48 =>
              optW (rdRow false 1 v114 h_50) fun v115_1 =>
              k_48 v115_1 h_50) h_50 fun v115 h_51 =>
            gopW (gB v112 false) (fun k_49 =>
              optW (lenSl v115) fun v116_1 =>
              k_49 v116_1 h_51) h_51 fun v116 h_52 =>
            gopW (gB v112 false) (fun k_50 =>
              k_50 (e_1 3) h_52) h_52 fun v117 h_53 =>
            gopW (gB v112 false) (fun k_51 =>
              optW (pBin Try.prog .neq 3 v116 v117) fun v118_1 =>
              k_51 v118_1 h_53) h_53 fun v118 h_54 =>
            optW (pPick v112 (.bool true) v118) fun v119 =>
            gopW (gB v119 false) (fun k_52 =>
              optW (pOff 7 (e_1 1)) fun v121_1 =>
              k_52 v121_1 h_54) h_54 fun v121 h_55 =>
            gopW (gB v119 false) (fun k_53 =>
              optW (rdRow false 1 v121 h_55) fun v122_1 =>
              k_53 v122_1 h_55) h_55 fun v122 h_56 =>
            gopW (gB v119 false) (fun k_54 =>
              optW (lenSl v122) fun v123_1 =>
              k_54 v123_1 h_56) h_56 fun v123 h_57 =>
            gopW (gB v119 false) (fun k_55 =>
              k_55 (e_1 3) h_57) h_57 fun v124 h_58 =>
            gopW (gB v119 false) (fun k_56 =>
              optW (pBin Try.prog .neq 3 v123 v124) fun v125_1 =>
              k_56 v125_1 h_58) h_58 fun v125 h_59 =>
            optW (pPick v119 (.bool true) v125) fun v126 =>
            condW v126 (
              K (.int .i64 11) h_59
            ) (
              loopE (fun I_2 e_2 h_60 =>
                optW (pBin Try.prog .lss 3 (e_2 7) (e_2 3)) fun v129 =>
                condW v129 (
                  optW (rdRow true 8 (e_2 1) h_60) fun v132 =>
                  X 37 [v132, (e_2 7)] h_60 fun v134 h_61 =>
                  optW (pUn .not v134) fun v135 =>
                  condW v135 (
                    K (.int .i64 11) h_61
                  ) (
                    optW (pBin Try.prog .add 3 (e_2 7) (.int .i64 1)) fun v131 =>
                    I_2 (pt (pt (pt (pt (pt (pt (pt (pt (pt (pt e_2 127 (e_2 7)) 128 (e_2 3)) 129 v129) 132 v132) 133 (e_2 7)) 134 v134) 135 v135) 130 (e_2 7)) 131 v131) 7 v131) h_61)
                ) (
                  K (.int .i64 0) h_60))
              (pt (pt (pt (pt (pt (pt (pt (pt (pt (pt (pt (pt (pt (pt (pt (pt (pt (pt (pt (pt (pt (pt (pt (pt (pt (pt (pt (pt (pt (pt e_1 68 (e_1 6)) 69 (e_1 4)) 70 v70) 101 v101) 102 v102) 103 v103) 104 (e_1 3)) 105 v105) 106 v105) 107 v107) 108 v108) 109 v109) 110 v110) 111 v111) 112 v112) 113 v112) 114 v114) 115 v115) 116 v116) 117 v117) 118 v118) 119 v119) 120 v119) 121 v121) 122 v122) 123 v123) 124 v124) 125 v125) 126 v126) 7 (.int .i64 0)) h_59)))
        (pt (pt (pt (pt e 48 (e 5)) 49 (e 3)) 50 v50) 6 (.int .i64 0)) h_18))
    (pt (pt (pt (pt (pt (pt (pt (pt (pt (pt (pt (pt (pt (pt (pt (pt (pt (pt (pt (pt (pt (pt (pt (pt (pt (pt (pt (pt (pt (pt (pt (pt (pt (pt (pt (pt (pt (pt (pt (pt (pt (pt (pt (pt (pt (envOf [a0]) 1 v1) 2 (.int .i64 0)) 8 v8) 9 v9) 10 v10) 11 v11) 12 v12) 13 v13) 3 v10) 4 v13) 14 v14) 15 v15) 16 v16) 17 v16) 18 v18) 19 v19) 20 v20) 21 v21) 22 v21) 23 v23) 24 v24) 25 v25) 26 v26) 27 v26) 28 v28) 29 v29) 30 v30) 31 v31) 32 v31) 33 v33) 34 v34) 35 v35) 36 v35) 37 v37) 38 v38) 39 v39) 40 v39) 41 v41) 42 v42) 43 v43) 44 v43) 45 v45) 46 v46) 47 v47) 5 (.int .i64 0)) h_17)
theorem e17 (X : CallT) (a0 : Value) (h : AH) (K : Value → AH → Prop) : cwp2 Try.prog X (Try.f17.body.getD .skip) (endW Try.prog Try.f17 K) (envOf [a0]) h = s17 X a0 h K := by kernel_rfl
theorem c17 {a0 : Value} {h : AH} {K : Value → AH → Prop} (hs : s17 (callW Try.prog) a0 h K) : callW Try.prog 17 [a0] h K := callW_of Try.func17 (by kernel_rfl) (Eq.mpr (e17 _ a0 _ _) hs)

/-- canopy/fold.Small (I at e: live [5, 6, 7], writes [7, 8, 36, 37, 38, 39, 40, 41, 42, 43, 44, 45, 46, 47, 48, 49, 50, 51, 52]; I_1 at e_1: live [1, 5, 6, 9, 10, 63, 64, 65], writes [12, 13, 15, 16, 18, 65, 66, 67, 68, 69, 70, 71, 72, 73, 74, 75, 76, 77, 78, 79, 80, 81, 82, 83, 84, 85, 86, 87, 88, 89, 90, 91, 92, 93, 94, 95, 96, 97, 98, 99, 100, 101, 102, 103, 104, 105, 106, 107, 108, 109, 110, 111, 112, 113, 114, 115, 116, 117, 118, 119, 120, 121, 122, 123, 124, 125, 126, 127, 128, 129, 130, 131, 132, 133, 134, 135, 136, 137, 138, 139, 140, 141, 142, 143, 144, 145, 146, 147, 148, 149, 150, 151, 152, 153, 154, 155, 156]; I_2 at e_2: live [5, 6, 13, 117, 118, 119], writes [13, 15, 16, 18, 119, 120, 121, 122, 123, 124, 125, 126, 127, 128, 129, 130, 131, 132, 133, 134, 135, 136, 137, 138, 139, 140, 141, 142, 143, 144, 145, 146, 147, 148]; I_3 at e_3: live [5, 15, 16, 123, 124, 125], writes [16, 18, 125, 126, 127, 128, 129, 130, 131, 132, 133, 134, 135, 136, 137, 138, 139, 140, 141, 142]) -/
def s18 (X : CallT) (a0 : Value) (h : AH) (K : Value → AH → Prop) : Prop :=
  aBox a0 none h fun v1 h =>
  newR none [(.int .i64 0), (.int .i64 0), (.slice none 0 0), (.slice none 0 0), (.slice none 0 0), (.slice none 0 0), (.slice none 0 0), (.slice none 0 0)] h fun v2 h_1 =>
  optW (rdRow true 8 v1 h_1) fun v19 =>
  X 15 [v19] h_1 fun v20 h_2 =>
  optW (pBin Try.prog .neq 30 v20 (.int .i64 0)) fun v22 =>
  condW v22 (
    optW (bld [(.int .i64 0), (.int .i64 0), (.slice none 0 0), (.slice none 0 0), (.slice none 0 0), (.slice none 0 0), (.slice none 0 0), (.slice none 0 0)] [(0, 1), (1, 1), (2, 1), (3, 1), (4, 1), (5, 1), (6, 1), (7, 1)] []) fun v23 =>
    optW (pStore 8 v2 v23 h_2) fun h_3 =>
    optW (resList Try.prog (pt (pt (pt (pt (pt (pt (pt (pt (pt (pt (pt (envOf [a0]) 1 v1) 2 v2) 3 (.int .i64 0)) 19 v19) 20 v20) 4 v20) 21 v20) 22 v22) 23 v23) 24 v20) 3 v20) h_3 Try.f18.results.toList) fun vs => K (resOf vs) h_3
  ) (
    optW (rdRow true 8 v1 h_2) fun v25 =>
    X 38 [v25] h_2 fun v26 h_4 =>
    newR none [(.pointer none)] h_4 fun v5 h_5 =>
    optW (pStore 1 v5 v26 h_5) fun h_6 =>
    optW (rdRow false 1 v5 h_6) fun v27 =>
    optW (pNilCheck v27) fun v28 =>
    optW (pOff 10 v28) fun v29 =>
    optW (rdRow false 1 v29 h_6) fun v30 =>
    optW (mkSl 1 8 [(.int .i64 0)] v30 v30) fun c =>
    newW none (.row c.2.2 true) h_6 fun i h_7 =>
    optW (pOff 2 v1) fun v32 =>
    optW (rdRow false 1 v32 h_7) fun v33 =>
    optW (lenSl v33) fun v34 =>
    optW (pBin Try.prog .sub 3 v34 (.int .i64 1)) fun v35 =>
    loopE (fun I e h_8 =>
      optW (pBin Try.prog .geq 3 (e 7) (.int .i64 0)) fun v37 =>
      condW v37 (
        optW (rdRow false 1 (e 5) h_8) fun v40 =>
        optW (pNilCheck v40) fun v41 =>
        optW (pOff 9 v41) fun v42 =>
        optW (rdRow false 1 v42 h_8) fun v43 =>
        optW (pIdxS 1 v43 (e 7)) fun v45 =>
        optW (rdRow false 1 v45 h_8) fun v46 =>
        optW (pBin Try.prog .geq 3 v46 (.int .i64 0)) fun v48 =>
        condW v48 (
          optW (pIdxS 1 (e 6) v46) fun v52 =>
          optW (pStore 1 v52 (e 7) h_8) fun h_9 =>
          optW (pBin Try.prog .sub 3 (e 7) (.int .i64 1)) fun v39 =>
          I (pt (pt (pt (pt (pt (pt (pt (pt (pt (pt (pt (pt (pt (pt (pt (pt (pt (pt (pt e 36 (e 7)) 37 v37) 40 v40) 41 v41) 42 v42) 43 v43) 44 (e 7)) 45 v45) 46 v46) 8 v46) 47 v46) 48 v48) 49 (e 6)) 50 v46) 51 (e 7)) 52 v52) 38 (e 7)) 39 v39) 7 v39) h_9
        ) (
          optW (pBin Try.prog .sub 3 (e 7) (.int .i64 1)) fun v39_1 =>
          I (pt (pt (pt (pt (pt (pt (pt (pt (pt (pt (pt (pt (pt (pt (pt e 36 (e 7)) 37 v37) 40 v40) 41 v41) 42 v42) 43 v43) 44 (e 7)) 45 v45) 46 v46) 8 v46) 47 v46) 48 v48) 38 (e 7)) 39 v39_1) 7 v39_1) h_8)
      ) (
        optW (pOff 0 (e 1)) fun v54 =>
        optW (rdRow false 1 v54 (reserve 1 h_8)) fun v55 =>
        optW (pOff 1 (e 1)) fun v56 =>
        optW (rdRow false 1 v56 (reserve 1 h_8)) fun v57 =>
        optW (pOff 3 (e 1)) fun v59 =>
        optW (rdRow false 1 v59 (reserve 1 h_8)) fun v60 =>
        X 39 [v60, (e 5)] (reserve 1 h_8) fun v61 h_10 =>
        (∀ x ∈ (idOf v56), ((reserve 1 h_8) : AH)[x]? = (h_10 : AH)[x]?) ∧
        (∀ x ∈ (idOf v54), ((reserve 1 h_8) : AH)[x]? = (h_10 : AH)[x]?) ∧
        optW (bld [(.int .i64 0), (.int .i64 0), (.slice none 0 0), (.slice none 0 0), (.slice none 0 0), (.slice none 0 0), (.slice none 0 0), (.slice none 0 0)] [(0, 1), (1, 1), (2, 1), (3, 1), (4, 1), (5, 1), (6, 1), (7, 1)] [(0, v55), (1, v57), (3, v61)]) fun v62 =>
        newR (some (h_8.length)) [(.int .i64 0), (.int .i64 0), (.slice none 0 0), (.slice none 0 0), (.slice none 0 0), (.slice none 0 0), (.slice none 0 0), (.slice none 0 0)] h_10 fun v10 h_11 =>
        optW (pStore 8 v10 v62 h_11) fun h_12 =>
        optW (lenSl (e 6)) fun v64 =>
        loopE (fun I_1 e_1 h_13 =>
          optW (pBin Try.prog .lss 3 (e_1 65) (e_1 64)) fun v66 =>
          condW v66 (
            optW (pIdxS 1 (e_1 63) (e_1 65)) fun v67 =>
            optW (rdRow false 1 v67 h_13) fun v68 =>
            optW (pOff 2 (e_1 10)) fun v69 =>
            optW (rdRow false 1 v69 (reserve 1 h_13)) fun v70 =>
            optW (pOff 2 (e_1 1)) fun v71 =>
            optW (rdRow false 1 v71 (reserve 1 h_13)) fun v72 =>
            optW (pIdxS 1 v72 v68) fun v74 =>
            optW (rdRow false 1 v74 (reserve 1 h_13)) fun v75 =>
            optW (bldSl 1 [(.int .i64 0)] 1 [(0, v75)]) fun c_1 =>
            newW (some (h_13.length)) (.row c_1 true) (reserve 1 h_13) fun i_1 h_14 =>
            appSl 1 v70 (.slice (some ⟨i_1, 0, none⟩) 1 1) h_14 fun v77 h_15 =>
            optW (pOff 2 (e_1 10)) fun v78 =>
            optW (pStore 1 v78 v77 h_15) fun h_16 =>
            optW (pOff 4 (e_1 10)) fun v79 =>
            optW (rdRow false 1 v79 (reserve 1 h_16)) fun v80 =>
            optW (pOff 4 (e_1 1)) fun v81 =>
            optW (rdRow false 1 v81 (reserve 1 h_16)) fun v82 =>
            optW (pIdxS 1 v82 v68) fun v84 =>
            optW (rdRow false 1 v84 (reserve 1 h_16)) fun v85 =>
            optW (bldSl 1 [(.bool false)] 1 [(0, v85)]) fun c_2 =>
            newW (some (h_16.length)) (.row c_2 true) (reserve 1 h_16) fun i_2 h_17 =>
            appSl 1 v80 (.slice (some ⟨i_2, 0, none⟩) 1 1) h_17 fun v87 h_18 =>
            optW (pOff 4 (e_1 10)) fun v88 =>
            optW (pStore 1 v88 v87 h_18) fun h_19 =>
            optW (pOff 5 (e_1 10)) fun v89 =>
            optW (rdRow false 1 v89 (reserve 1 h_19)) fun v90 =>
            optW (pOff 5 (e_1 1)) fun v92 =>
            optW (rdRow false 1 v92 (reserve 1 h_19)) fun v93 =>
            optW (pIdxS 1 v93 v68) fun v95 =>
            optW (rdRow false 1 v95 (reserve 1 h_19)) fun v96 =>
            callV X (e_1 9) [v96] (reserve 1 h_19) fun v97 h_20 =>
            (∀ x ∈ (idOf v89), ((reserve 1 h_19) : AH)[x]? = (h_20 : AH)[x]?) ∧
            optW (bldSl 1 [(.slice none 0 0)] 1 [(0, v97)]) fun c_3 =>
            newW (some (h_19.length)) (.row c_3 true) h_20 fun i_3 h_21 =>
            appSl 1 v90 (.slice (some ⟨i_3, 0, none⟩) 1 1) h_21 fun v99 h_22 =>
            optW (pOff 5 (e_1 10)) fun v100 =>
            optW (pStore 1 v100 v99 h_22) fun h_23 =>
            optW (pOff 6 (e_1 10)) fun v101 =>
            optW (rdRow false 1 v101 (reserve 1 h_23)) fun v102 =>
            optW (pOff 6 (e_1 1)) fun v104 =>
            optW (rdRow false 1 v104 (reserve 1 h_23)) fun v105 =>
            optW (pIdxS 1 v105 v68) fun v107 =>
            optW (rdRow false 1 v107 (reserve 1 h_23)) fun v108 =>
            callV X (e_1 9) [v108] (reserve 1 h_23) fun v109 h_24 =>
            (∀ x ∈ (idOf v101), ((reserve 1 h_23) : AH)[x]? = (h_24 : AH)[x]?) ∧
            optW (bldSl 1 [(.slice none 0 0)] 1 [(0, v109)]) fun c_4 =>
            newW (some (h_23.length)) (.row c_4 true) h_24 fun i_4 h_25 =>
            appSl 1 v102 (.slice (some ⟨i_4, 0, none⟩) 1 1) h_25 fun v111 h_26 =>
            optW (pOff 6 (e_1 10)) fun v112 =>
            optW (pStore 1 v112 v111 h_26) fun h_27 =>
            optW (pOff 7 (e_1 1)) fun v113 =>
            optW (rdRow false 1 v113 h_27) fun v114 =>
            optW (pIdxS 1 v114 v68) fun v116 =>
            optW (rdRow false 1 v116 h_27) fun v117 =>
            optW (lenSl v117) fun v118 =>
            loopE (fun I_2 e_2 h_28 =>
              optW (pBin Try.prog .lss 3 (e_2 119) (e_2 118)) fun v120 =>
              condW v120 (
                optW (pIdxS 1 (e_2 117) (e_2 119)) fun v121 =>
                optW (rdRow false 1 v121 h_28) fun v122 =>
                optW (lenSl (e_2 6)) fun v124 =>
                loopE (fun I_3 e_3 h_29 =>
                  optW (pBin Try.prog .lss 3 (e_3 125) (e_3 124)) fun v126 =>
                  condW v126 (
                    optW (pIdxS 1 (e_3 123) (e_3 125)) fun v127 =>
                    optW (rdRow false 1 v127 h_29) fun v128 =>
                    optW (rdRow false 1 (e_3 5) (reserve 1 h_29)) fun v130 =>
                    optW (pNilCheck v130) fun v131 =>
                    optW (pOff 9 v131) fun v132 =>
                    optW (rdRow false 1 v132 (reserve 1 h_29)) fun v133 =>
                    optW (pIdxS 1 (e_3 15) v128) fun v136 =>
                    optW (rdRow false 1 v136 (reserve 1 h_29)) fun v137 =>
                    optW (pIdxS 1 v133 v137) fun v138 =>
                    optW (rdRow false 1 v138 (reserve 1 h_29)) fun v139 =>
                    optW (bldSl 1 [(.int .i64 0)] 1 [(0, v139)]) fun c_5 =>
                    newW (some (h_29.length)) (.row c_5 true) (reserve 1 h_29) fun i_5 h_30 =>
                    appSl 1 (e_3 16) (.slice (some ⟨i_5, 0, none⟩) 1 1) h_30 fun v141 h_31 =>
                    optW (pBin Try.prog .add 3 (e_3 125) (.int .i64 1)) fun v142 =>
                    I_3 (pt (pt (pt (pt (pt (pt (pt (pt (pt (pt (pt (pt (pt (pt (pt (pt (pt (pt (pt (pt e_3 126 v126) 127 v127) 128 v128) 18 v128) 129 (e_3 16)) 130 v130) 131 v131) 132 v132) 133 v133) 134 (e_3 15)) 135 v128) 136 v136) 137 v137) 138 v138) 139 v139) 140 (.slice (some ⟨i_5, 0, none⟩) 1 1)) 141 v141) 16 v141) 142 v142) 125 v142) h_31
                  ) (
                    X 40 [(e_3 16)] h_29 fun v145 h_32 =>
                    optW (bldSl 1 [(.slice none 0 0)] 1 [(0, v145)]) fun c_6 =>
                    newW none (.row c_6 true) h_32 fun i_6 h_33 =>
                    appSl 1 (e_3 13) (.slice (some ⟨i_6, 0, none⟩) 1 1) h_33 fun v147 h_34 =>
                    optW (pBin Try.prog .add 3 (e_3 119) (.int .i64 1)) fun v148 =>
                    I_2 (pt (pt (pt (pt (pt (pt (pt (pt (pt e_3 126 v126) 143 (e_3 13)) 144 (e_3 16)) 145 v145) 146 (.slice (some ⟨i_6, 0, none⟩) 1 1)) 147 v147) 13 v147) 148 v148) 119 v148) h_34))
                (pt (pt (pt (pt (pt (pt (pt (pt e_2 120 v120) 121 v121) 122 v122) 15 v122) 16 (.slice none 0 0)) 123 (e_2 6)) 124 v124) 125 (.int .i64 0)) h_28
              ) (
                optW (pOff 7 (e_2 10)) fun v149 =>
                optW (rdRow false 1 v149 (reserve 1 h_28)) fun v150 =>
                X 41 [(e_2 13)] (reserve 1 h_28) fun v152 h_35 =>
                (∀ x ∈ (idOf v149), ((reserve 1 h_28) : AH)[x]? = (h_35 : AH)[x]?) ∧
                optW (bldSl 1 [(.slice none 0 0)] 1 [(0, v152)]) fun c_7 =>
                newW (some (h_28.length)) (.row c_7 true) h_35 fun i_7 h_36 =>
                appSl 1 v150 (.slice (some ⟨i_7, 0, none⟩) 1 1) h_36 fun v154 h_37 =>
                optW (pOff 7 (e_2 10)) fun v155 =>
                optW (pStore 1 v155 v154 h_37) fun h_38 =>
                optW (pBin Try.prog .add 3 (e_2 65) (.int .i64 1)) fun v156 =>
                I_1 (pt (pt (pt (pt (pt (pt (pt (pt (pt (pt e_2 120 v120) 149 v149) 150 v150) 151 (e_2 13)) 152 v152) 153 (.slice (some ⟨i_7, 0, none⟩) 1 1)) 154 v154) 155 v155) 156 v156) 65 v156) h_38))
            (pt (pt (pt (pt (pt (pt (pt (pt (pt (pt (pt (pt (pt (pt (pt (pt (pt (pt (pt (pt (pt (pt (pt (pt (pt (pt (pt (pt (pt (pt (pt (pt (pt (pt (pt (pt (pt (pt (pt (pt (pt (pt (pt (pt (pt (pt (pt (pt (pt (pt (pt (pt (pt (pt (pt (pt e_1 66 v66) 67 v67) 68 v68) 12 v68) 69 v69) 70 v70) 71 v71) 72 v72) 73 v68) 74 v74) 75 v75) 76 (.slice (some ⟨i_1, 0, none⟩) 1 1)) 77 v77) 78 v78) 79 v79) 80 v80) 81 v81) 82 v82) 83 v68) 84 v84) 85 v85) 86 (.slice (some ⟨i_2, 0, none⟩) 1 1)) 87 v87) 88 v88) 89 v89) 90 v90) 91 (e_1 9)) 92 v92) 93 v93) 94 v68) 95 v95) 96 v96) 97 v97) 98 (.slice (some ⟨i_3, 0, none⟩) 1 1)) 99 v99) 100 v100) 101 v101) 102 v102) 103 (e_1 9)) 104 v104) 105 v105) 106 v68) 107 v107) 108 v108) 109 v109) 110 (.slice (some ⟨i_4, 0, none⟩) 1 1)) 111 v111) 112 v112) 13 (.slice none 0 0)) 113 v113) 114 v114) 115 v68) 116 v116) 117 v117) 118 v118) 119 (.int .i64 0)) h_27
          ) (
            optW (pOff 2 (e_1 10)) fun v157 =>
            optW (rdRow false 1 v157 h_13) fun v158 =>
            X 40 [v158] h_13 fun v159 h_39 =>
            optW (pOff 4 (e_1 10)) fun v160 =>
            (∀ x ∈ (idOf v160), (h_13 : AH)[x]? = (h_39 : AH)[x]?) ∧
            optW (rdRow false 1 v160 h_39) fun v161 =>
            X 42 [v161] h_39 fun v162 h_40 =>
            optW (pOff 2 (e_1 10)) fun v163 =>
            optW (pStore 1 v163 v159 h_40) fun h_41 =>
            optW (pOff 4 (e_1 10)) fun v164 =>
            optW (pStore 1 v164 v162 h_41) fun h_42 =>
            optW (pOff 5 (e_1 10)) fun v165 =>
            optW (rdRow false 1 v165 h_42) fun v166 =>
            X 41 [v166] h_42 fun v167 h_43 =>
            optW (pOff 6 (e_1 10)) fun v168 =>
            (∀ x ∈ (idOf v168), (h_42 : AH)[x]? = (h_43 : AH)[x]?) ∧
            optW (rdRow false 1 v168 h_43) fun v169 =>
            X 41 [v169] h_43 fun v170 h_44 =>
            optW (pOff 7 (e_1 10)) fun v171 =>
            (∀ x ∈ (idOf v171), (h_43 : AH)[x]? = (h_44 : AH)[x]?) ∧
            (∀ x ∈ (idOf v171), (h_42 : AH)[x]? = (h_43 : AH)[x]?) ∧
            optW (rdRow false 1 v171 h_44) fun v172 =>
            X 43 [v172] h_44 fun v173 h_45 =>
            optW (pOff 5 (e_1 10)) fun v174 =>
            optW (pStore 1 v174 v167 h_45) fun h_46 =>
            optW (pOff 6 (e_1 10)) fun v175 =>
            optW (pStore 1 v175 v170 h_46) fun h_47 =>
            optW (pOff 7 (e_1 10)) fun v176 =>
            optW (pStore 1 v176 v173 h_47) fun h_48 =>
            optW (rdRow true 8 (e_1 10) h_48) fun v177 =>
            optW (pStore 8 (e_1 2) v177 h_48) fun h_49 =>
            optW (resList Try.prog (pt (pt (pt (pt (pt (pt (pt (pt (pt (pt (pt (pt (pt (pt (pt (pt (pt (pt (pt (pt (pt (pt (pt e_1 66 v66) 157 v157) 158 v158) 159 v159) 160 v160) 161 v161) 162 v162) 163 v163) 164 v164) 165 v165) 166 v166) 167 v167) 168 v168) 169 v169) 170 v170) 171 v171) 172 v172) 173 v173) 174 v174) 175 v175) 176 v176) 177 v177) 3 (.int .i64 0)) h_49 Try.f18.results.toList) fun vs => K (resOf vs) h_49))
        (pt (pt (pt (pt (pt (pt (pt (pt (pt (pt (pt (pt (pt (pt (pt (pt (pt e 36 (e 7)) 37 v37) 53 (.func (.func 39) #[] #[(e 5)])) 9 (.func (.func 39) #[] #[(e 5)])) 54 v54) 55 v55) 56 v56) 57 v57) 58 (.func (.func 39) #[] #[(e 5)])) 59 v59) 60 v60) 61 v61) 62 v62) 10 v10) 63 (e 6)) 64 v64) 65 (.int .i64 0)) h_12))
    (pt (pt (pt (pt (pt (pt (pt (pt (pt (pt (pt (pt (pt (pt (pt (pt (pt (pt (pt (pt (pt (pt (envOf [a0]) 1 v1) 2 v2) 3 (.int .i64 0)) 19 v19) 20 v20) 4 v20) 21 v20) 22 v22) 25 v25) 26 v26) 5 v5) 27 v27) 28 v28) 29 v29) 30 v30) 31 (.slice (some ⟨i, 0, none⟩) c.1 c.2.1)) 6 (.slice (some ⟨i, 0, none⟩) c.1 c.2.1)) 32 v32) 33 v33) 34 v34) 35 v35) 7 v35) h_7)
theorem e18 (X : CallT) (a0 : Value) (h : AH) (K : Value → AH → Prop) : cwp2 Try.prog X (Try.f18.body.getD .skip) (endW Try.prog Try.f18 K) (envOf [a0]) h = s18 X a0 h K := by kernel_rfl
theorem c18 {a0 : Value} {h : AH} {K : Value → AH → Prop} (hs : s18 (callW Try.prog) a0 h K) : callW Try.prog 18 [a0] h K := callW_of Try.func18 (by kernel_rfl) (Eq.mpr (e18 _ a0 _ _) hs)

/-- canopy/canopyref13.Small (I at e: live [4, 5, 6], writes [5, 6, 21, 22, 23, 24, 25, 26, 27, 28, 29, 30, 31, 32, 33, 34, 35, 36, 37]; I_1 at e_1: live [1, 4, 7, 8], writes [8, 43, 44, 45, 46, 47, 48, 49, 50, 51, 52, 53, 54, 55, 56, 57, 58, 59, 60, 61, 62]; I_2 at e_2: live [1, 4, 5, 7, 9], writes [9, 10, 11, 12, 13, 14, 63, 64, 65, 66, 67, 68, 69, 70, 71, 72, 73, 74, 75, 76, 77, 78, 79, 80, 81, 82, 83, 84, 85, 86, 87, 88, 89, 90, 91, 92, 93, 94, 95, 96, 97, 98, 99, 100, 101, 102, 103, 104, 105, 106, 107, 108, 109, 110, 111, 112, 113, 114, 115, 116, 117, 118, 119, 120, 121, 122, 123, 124, 125, 126, 127, 128, 129, 130, 131, 132, 133, 134, 135, 136, 137, 138, 139, 140, 141, 142, 143, 144, 145, 146, 147, 148, 149, 150, 151, 152, 153, 154, 155, 156, 157, 158, 159, 160, 161, 162]; I_3 at e_3: live [1, 4, 5, 10, 11, 12], writes [11, 12, 13, 14, 117, 118, 119, 120, 121, 122, 123, 124, 125, 126, 127, 128, 129, 130, 131, 132, 133, 134, 135, 136, 137, 138, 139, 140, 141, 142, 143, 144, 145, 146, 147, 148, 149, 150, 151, 152, 153, 154, 155, 156]; I_4 at e_4: live [1, 4, 5, 10, 12, 13, 14], writes [13, 14, 127, 128, 129, 130, 131, 132, 133, 134, 135, 136, 137, 138, 139, 140, 141, 142, 143, 144, 145, 146, 147, 148, 149, 150, 151, 152]) -/
def s19 (X : CallT) (a0 : Value) (h : AH) (K : Value → AH → Prop) : Prop :=
  aBox a0 none h fun v1 h =>
  newR none [(.int .i64 0), (.int .i64 0), (.slice none 0 0), (.slice none 0 0), (.slice none 0 0), (.slice none 0 0), (.slice none 0 0), (.slice none 0 0)] h fun v2 h_1 =>
  optW (rdRow true 8 v1 h_1) fun v15 =>
  X 17 [v15] h_1 fun v16 h_2 =>
  optW (pBin Try.prog .neq 3 v16 (.int .i64 0)) fun v17 =>
  condW v17 (
    optW (bld [(.int .i64 0), (.int .i64 0), (.slice none 0 0), (.slice none 0 0), (.slice none 0 0), (.slice none 0 0), (.slice none 0 0), (.slice none 0 0)] [(0, 1), (1, 1), (2, 1), (3, 1), (4, 1), (5, 1), (6, 1), (7, 1)] []) fun v18 =>
    optW (pStore 8 v2 v18 h_2) fun h_3 =>
    optW (resList Try.prog (pt (pt (pt (pt (pt (pt (pt (pt (envOf [a0]) 1 v1) 2 v2) 3 (.int .i64 0)) 15 v15) 16 v16) 17 v17) 18 v18) 3 (.int .i64 11)) h_3 Try.f19.results.toList) fun vs => K (resOf vs) h_3
  ) (
    optW (rdRow true 8 v1 h_2) fun v19 =>
    X 25 [v19] h_2 fun v20 h_4 =>
    loopE (fun I e h_5 =>
      optW (lenSl (e 4)) fun v23 =>
      optW (pBin Try.prog .lss 3 (e 6) v23) fun v24 =>
      condW v24 (
        optW (pIdxS 1 (e 4) (e 6)) fun v29 =>
        optW (rdRow false 1 v29 h_5) fun v30 =>
        optW (lenSl (e 5)) fun v32 =>
        optW (pBin Try.prog .eql 3 v30 v32) fun v33 =>
        condW v33 (
          optW (bldSl 1 [(.int .i64 0)] 1 [(0, (e 6))]) fun c =>
          newW none (.row c true) h_5 fun i h_6 =>
          appSl 1 (e 5) (.slice (some ⟨i, 0, none⟩) 1 1) h_6 fun v37 h_7 =>
          optW (pBin Try.prog .add 3 (e 6) (.int .i64 1)) fun v26 =>
          I (pt (pt (pt (pt (pt (pt (pt (pt (pt (pt (pt (pt (pt (pt (pt (pt (pt (pt (pt e 21 (e 6)) 22 (e 4)) 23 v23) 24 v24) 27 (e 4)) 28 (e 6)) 29 v29) 30 v30) 31 (e 5)) 32 v32) 33 v33) 34 (e 5)) 35 (e 6)) 36 (.slice (some ⟨i, 0, none⟩) 1 1)) 37 v37) 5 v37) 25 (e 6)) 26 v26) 6 v26) h_7
        ) (
          optW (pBin Try.prog .add 3 (e 6) (.int .i64 1)) fun v26_1 =>
          I (pt (pt (pt (pt (pt (pt (pt (pt (pt (pt (pt (pt (pt (pt e 21 (e 6)) 22 (e 4)) 23 v23) 24 v24) 27 (e 4)) 28 (e 6)) 29 v29) 30 v30) 31 (e 5)) 32 v32) 33 v33) 25 (e 6)) 26 v26_1) 6 v26_1) h_5)
      ) (
        optW (pOff 0 (e 1)) fun v38 =>
        optW (rdRow false 1 v38 h_5) fun v39 =>
        optW (pOff 1 (e 1)) fun v40 =>
        optW (rdRow false 1 v40 h_5) fun v41 =>
        optW (bld [(.int .i64 0), (.int .i64 0), (.slice none 0 0), (.slice none 0 0), (.slice none 0 0), (.slice none 0 0), (.slice none 0 0), (.slice none 0 0)] [(0, 1), (1, 1), (2, 1), (3, 1), (4, 1), (5, 1), (6, 1), (7, 1)] [(0, v39), (1, v41)]) fun v42 =>
        newR none [(.int .i64 0), (.int .i64 0), (.slice none 0 0), (.slice none 0 0), (.slice none 0 0), (.slice none 0 0), (.slice none 0 0), (.slice none 0 0)] h_5 fun v7 h_8 =>
        optW (pStore 8 v7 v42 h_8) fun h_9 =>
        loopE (fun I_1 e_1 h_10 =>
          optW (pOff 3 (e_1 1)) fun v44 =>
          optW (rdRow false 1 v44 h_10) fun v45 =>
          optW (lenSl v45) fun v46 =>
          optW (pBin Try.prog .lss 3 (e_1 8) v46) fun v47 =>
          condW v47 (
            optW (pOff 3 (e_1 7)) fun v50 =>
            optW (rdRow false 1 v50 (reserve 1 h_10)) fun v51 =>
            optW (pOff 3 (e_1 1)) fun v53 =>
            optW (rdRow false 1 v53 (reserve 1 h_10)) fun v54 =>
            optW (pIdxS 1 v54 (e_1 8)) fun v56 =>
            optW (rdRow false 1 v56 (reserve 1 h_10)) fun v57 =>
            optW (pIdxS 1 (e_1 4) v57) fun v58 =>
            optW (rdRow false 1 v58 (reserve 1 h_10)) fun v59 =>
            optW (bldSl 1 [(.int .i64 0)] 1 [(0, v59)]) fun c_1 =>
            newW (some (h_10.length)) (.row c_1 true) (reserve 1 h_10) fun i_1 h_11 =>
            appSl 1 v51 (.slice (some ⟨i_1, 0, none⟩) 1 1) h_11 fun v61 h_12 =>
            optW (pOff 3 (e_1 7)) fun v62 =>
            optW (pStore 1 v62 v61 h_12) fun h_13 =>
            optW (pBin Try.prog .add 3 (e_1 8) (.int .i64 1)) fun v49 =>
            I_1 (pt (pt (pt (pt (pt (pt (pt (pt (pt (pt (pt (pt (pt (pt (pt (pt (pt (pt (pt (pt (pt e_1 43 (e_1 8)) 44 v44) 45 v45) 46 v46) 47 v47) 50 v50) 51 v51) 52 (e_1 4)) 53 v53) 54 v54) 55 (e_1 8)) 56 v56) 57 v57) 58 v58) 59 v59) 60 (.slice (some ⟨i_1, 0, none⟩) 1 1)) 61 v61) 62 v62) 48 (e_1 8)) 49 v49) 8 v49) h_13
          ) (
            loopE (fun I_2 e_2 h_14 =>
              optW (lenSl (e_2 5)) fun v65 =>
              optW (pBin Try.prog .lss 3 (e_2 9) v65) fun v66 =>
              condW v66 (
                optW (pIdxS 1 (e_2 5) (e_2 9)) fun v71 =>
                optW (rdRow false 1 v71 h_14) fun v72 =>
                optW (pOff 2 (e_2 7)) fun v73 =>
                optW (rdRow false 1 v73 (reserve 2 h_14)) fun v74 =>
                optW (pOff 2 (e_2 1)) fun v75 =>
                optW (rdRow false 1 v75 (reserve 2 h_14)) fun v76 =>
                optW (pIdxS 1 v76 v72) fun v78 =>
                optW (rdRow false 1 v78 (reserve 2 h_14)) fun v79 =>
                optW (bldSl 1 [(.int .i64 0)] 1 [(0, v79)]) fun c_2 =>
                newW (some (h_14.length)) (.row c_2 true) (reserve 2 h_14) fun i_2 h_15 =>
                appSl 1 v74 (.slice (some ⟨i_2, 0, none⟩) 1 1) h_15 fun v81 h_16 =>
                optW (pOff 4 (e_2 7)) fun v82 =>
                (∀ x ∈ (idOf v82), (h_15 : AH)[x]? = (h_16 : AH)[x]?) ∧
                (∀ x ∈ (idOf v82), ((reserve 2 h_14) : AH)[x]? = (h_15 : AH)[x]?) ∧
                optW (rdRow false 1 v82 h_16) fun v83 =>
                optW (pOff 4 (e_2 1)) fun v84 =>
                (∀ x ∈ (idOf v84), (h_15 : AH)[x]? = (h_16 : AH)[x]?) ∧
                (∀ x ∈ (idOf v84), ((reserve 2 h_14) : AH)[x]? = (h_15 : AH)[x]?) ∧
                optW (rdRow false 1 v84 h_16) fun v85 =>
                optW (pIdxS 1 v85 v72) fun v87 =>
                (∀ x ∈ (idOf v87), (h_15 : AH)[x]? = (h_16 : AH)[x]?) ∧
                (∀ x ∈ (idOf v87), ((reserve 2 h_14) : AH)[x]? = (h_15 : AH)[x]?) ∧
                optW (rdRow false 1 v87 h_16) fun v88 =>
                optW (bldSl 1 [(.bool false)] 1 [(0, v88)]) fun c_3 =>
                newW (some (h_14.length + 1)) (.row c_3 true) h_16 fun i_3 h_17 =>
                appSl 1 v83 (.slice (some ⟨i_3, 0, none⟩) 1 1) h_17 fun v90 h_18 =>
                optW (pOff 2 (e_2 7)) fun v91 =>
                optW (pStore 1 v91 v81 h_18) fun h_19 =>
                optW (pOff 4 (e_2 7)) fun v92 =>
                optW (pStore 1 v92 v90 h_19) fun h_20 =>
                optW (pOff 5 (e_2 7)) fun v93 =>
                optW (rdRow false 1 v93 (reserve 2 h_20)) fun v94 =>
                optW (pOff 5 (e_2 1)) fun v96 =>
                optW (rdRow false 1 v96 (reserve 2 h_20)) fun v97 =>
                optW (pIdxS 1 v97 v72) fun v99 =>
                optW (rdRow false 1 v99 (reserve 2 h_20)) fun v100 =>
                X 44 [(e_2 4), v100] (reserve 2 h_20) fun v101 h_21 =>
                (∀ x ∈ (idOf v93), ((reserve 2 h_20) : AH)[x]? = (h_21 : AH)[x]?) ∧
                optW (bldSl 1 [(.slice none 0 0)] 1 [(0, v101)]) fun c_4 =>
                newW (some (h_20.length)) (.row c_4 true) h_21 fun i_4 h_22 =>
                appSl 1 v94 (.slice (some ⟨i_4, 0, none⟩) 1 1) h_22 fun v103 h_23 =>
                optW (pOff 6 (e_2 7)) fun v104 =>
                (∀ x ∈ (idOf v104), (h_22 : AH)[x]? = (h_23 : AH)[x]?) ∧
                (∀ x ∈ (idOf v104), (h_21 : AH)[x]? = (h_22 : AH)[x]?) ∧
                (∀ x ∈ (idOf v104), ((reserve 2 h_20) : AH)[x]? = (h_21 : AH)[x]?) ∧
                optW (rdRow false 1 v104 h_23) fun v105 =>
                optW (pOff 6 (e_2 1)) fun v107 =>
                (∀ x ∈ (idOf v107), (h_22 : AH)[x]? = (h_23 : AH)[x]?) ∧
                (∀ x ∈ (idOf v107), (h_21 : AH)[x]? = (h_22 : AH)[x]?) ∧
                (∀ x ∈ (idOf v107), ((reserve 2 h_20) : AH)[x]? = (h_21 : AH)[x]?) ∧
                optW (rdRow false 1 v107 h_23) fun v108 =>
                optW (pIdxS 1 v108 v72) fun v110 =>
                (∀ x ∈ (idOf v110), (h_22 : AH)[x]? = (h_23 : AH)[x]?) ∧
                (∀ x ∈ (idOf v110), (h_21 : AH)[x]? = (h_22 : AH)[x]?) ∧
                (∀ x ∈ (idOf v110), ((reserve 2 h_20) : AH)[x]? = (h_21 : AH)[x]?) ∧
                optW (rdRow false 1 v110 h_23) fun v111 =>
                X 44 [(e_2 4), v111] h_23 fun v112 h_24 =>
                (∀ x ∈ (idOf v104), (h_23 : AH)[x]? = (h_24 : AH)[x]?) ∧
                optW (bldSl 1 [(.slice none 0 0)] 1 [(0, v112)]) fun c_5 =>
                newW (some (h_20.length + 1)) (.row c_5 true) h_24 fun i_5 h_25 =>
                appSl 1 v105 (.slice (some ⟨i_5, 0, none⟩) 1 1) h_25 fun v114 h_26 =>
                optW (pOff 5 (e_2 7)) fun v115 =>
                optW (pStore 1 v115 v103 h_26) fun h_27 =>
                optW (pOff 6 (e_2 7)) fun v116 =>
                optW (pStore 1 v116 v114 h_27) fun h_28 =>
                loopE (fun I_3 e_3 h_29 =>
                  optW (pOff 7 (e_3 1)) fun v118 =>
                  optW (rdRow false 1 v118 h_29) fun v119 =>
                  optW (pIdxS 1 v119 (e_3 10)) fun v121 =>
                  optW (rdRow false 1 v121 h_29) fun v122 =>
                  optW (lenSl v122) fun v123 =>
                  optW (pBin Try.prog .lss 3 (e_3 12) v123) fun v124 =>
                  condW v124 (
                    loopE (fun I_4 e_4 h_30 =>
                      optW (lenSl (e_4 5)) fun v129 =>
                      optW (pBin Try.prog .lss 3 (e_4 14) v129) fun v130 =>
                      condW v130 (
                        optW (pOff 7 (e_4 1)) fun v135 =>
                        optW (rdRow false 1 v135 (reserve 1 h_30)) fun v136 =>
                        optW (pIdxS 1 v136 (e_4 10)) fun v138 =>
                        optW (rdRow false 1 v138 (reserve 1 h_30)) fun v139 =>
                        optW (pIdxS 1 v139 (e_4 12)) fun v141 =>
                        optW (rdRow false 1 v141 (reserve 1 h_30)) fun v142 =>
                        optW (pIdxS 1 (e_4 5) (e_4 14)) fun v145 =>
                        optW (rdRow false 1 v145 (reserve 1 h_30)) fun v146 =>
                        optW (pIdxS 1 v142 v146) fun v147 =>
                        optW (rdRow false 1 v147 (reserve 1 h_30)) fun v148 =>
                        optW (pIdxS 1 (e_4 4) v148) fun v149 =>
                        optW (rdRow false 1 v149 (reserve 1 h_30)) fun v150 =>
                        optW (bldSl 1 [(.int .i64 0)] 1 [(0, v150)]) fun c_6 =>
                        newW (some (h_30.length)) (.row c_6 true) (reserve 1 h_30) fun i_6 h_31 =>
                        appSl 1 (e_4 13) (.slice (some ⟨i_6, 0, none⟩) 1 1) h_31 fun v152 h_32 =>
                        optW (pBin Try.prog .add 3 (e_4 14) (.int .i64 1)) fun v132 =>
                        I_4 (pt (pt (pt (pt (pt (pt (pt (pt (pt (pt (pt (pt (pt (pt (pt (pt (pt (pt (pt (pt (pt (pt (pt (pt (pt (pt (pt (pt e_4 127 (e_4 14)) 128 (e_4 5)) 129 v129) 130 v130) 133 (e_4 13)) 134 (e_4 4)) 135 v135) 136 v136) 137 (e_4 10)) 138 v138) 139 v139) 140 (e_4 12)) 141 v141) 142 v142) 143 (e_4 5)) 144 (e_4 14)) 145 v145) 146 v146) 147 v147) 148 v148) 149 v149) 150 v150) 151 (.slice (some ⟨i_6, 0, none⟩) 1 1)) 152 v152) 13 v152) 131 (e_4 14)) 132 v132) 14 v132) h_32
                      ) (
                        optW (bldSl 1 [(.slice none 0 0)] 1 [(0, (e_4 13))]) fun c_7 =>
                        newW none (.row c_7 true) h_30 fun i_7 h_33 =>
                        appSl 1 (e_4 11) (.slice (some ⟨i_7, 0, none⟩) 1 1) h_33 fun v156 h_34 =>
                        optW (pBin Try.prog .add 3 (e_4 12) (.int .i64 1)) fun v126 =>
                        I_3 (pt (pt (pt (pt (pt (pt (pt (pt (pt (pt (pt (pt e_4 127 (e_4 14)) 128 (e_4 5)) 129 v129) 130 v130) 153 (e_4 11)) 154 (e_4 13)) 155 (.slice (some ⟨i_7, 0, none⟩) 1 1)) 156 v156) 11 v156) 125 (e_4 12)) 126 v126) 12 v126) h_34))
                    (pt (pt (pt (pt (pt (pt (pt (pt (pt (pt e_3 117 (e_3 12)) 118 v118) 119 v119) 120 (e_3 10)) 121 v121) 122 v122) 123 v123) 124 v124) 13 (.slice none 0 0)) 14 (.int .i64 0)) h_29
                  ) (
                    optW (pOff 7 (e_3 7)) fun v157 =>
                    optW (rdRow false 1 v157 h_29) fun v158 =>
                    optW (bldSl 1 [(.slice none 0 0)] 1 [(0, (e_3 11))]) fun c_8 =>
                    newW none (.row c_8 true) h_29 fun i_8 h_35 =>
                    appSl 1 v158 (.slice (some ⟨i_8, 0, none⟩) 1 1) h_35 fun v161 h_36 =>
                    optW (pOff 7 (e_3 7)) fun v162 =>
                    optW (pStore 1 v162 v161 h_36) fun h_37 =>
                    optW (pBin Try.prog .add 3 (e_3 9) (.int .i64 1)) fun v68 =>
                    I_2 (pt (pt (pt (pt (pt (pt (pt (pt (pt (pt (pt (pt (pt (pt (pt (pt (pt e_3 117 (e_3 12)) 118 v118) 119 v119) 120 (e_3 10)) 121 v121) 122 v122) 123 v123) 124 v124) 157 v157) 158 v158) 159 (e_3 11)) 160 (.slice (some ⟨i_8, 0, none⟩) 1 1)) 161 v161) 162 v162) 67 (e_3 9)) 68 v68) 9 v68) h_37))
                (pt (pt (pt (pt (pt (pt (pt (pt (pt (pt (pt (pt (pt (pt (pt (pt (pt (pt (pt (pt (pt (pt (pt (pt (pt (pt (pt (pt (pt (pt (pt (pt (pt (pt (pt (pt (pt (pt (pt (pt (pt (pt (pt (pt (pt (pt (pt (pt (pt (pt (pt (pt (pt (pt (pt e_2 63 (e_2 9)) 64 (e_2 5)) 65 v65) 66 v66) 69 (e_2 5)) 70 (e_2 9)) 71 v71) 72 v72) 10 v72) 73 v73) 74 v74) 75 v75) 76 v76) 77 v72) 78 v78) 79 v79) 80 (.slice (some ⟨i_2, 0, none⟩) 1 1)) 81 v81) 82 v82) 83 v83) 84 v84) 85 v85) 86 v72) 87 v87) 88 v88) 89 (.slice (some ⟨i_3, 0, none⟩) 1 1)) 90 v90) 91 v91) 92 v92) 93 v93) 94 v94) 95 (e_2 4)) 96 v96) 97 v97) 98 v72) 99 v99) 100 v100) 101 v101) 102 (.slice (some ⟨i_4, 0, none⟩) 1 1)) 103 v103) 104 v104) 105 v105) 106 (e_2 4)) 107 v107) 108 v108) 109 v72) 110 v110) 111 v111) 112 v112) 113 (.slice (some ⟨i_5, 0, none⟩) 1 1)) 114 v114) 115 v115) 116 v116) 11 (.slice none 0 0)) 12 (.int .i64 0)) h_28
              ) (
                optW (rdRow true 8 (e_2 7) h_14) fun v163 =>
                optW (pStore 8 (e_2 2) v163 h_14) fun h_38 =>
                optW (resList Try.prog (pt (pt (pt (pt (pt (pt e_2 63 (e_2 9)) 64 (e_2 5)) 65 v65) 66 v66) 163 v163) 3 (.int .i64 0)) h_38 Try.f19.results.toList) fun vs => K (resOf vs) h_38))
            (pt (pt (pt (pt (pt (pt e_1 43 (e_1 8)) 44 v44) 45 v45) 46 v46) 47 v47) 9 (.int .i64 0)) h_10))
        (pt (pt (pt (pt (pt (pt (pt (pt (pt (pt (pt e 21 (e 6)) 22 (e 4)) 23 v23) 24 v24) 38 v38) 39 v39) 40 v40) 41 v41) 42 v42) 7 v7) 8 (.int .i64 0)) h_9))
    (pt (pt (pt (pt (pt (pt (pt (pt (pt (pt (pt (envOf [a0]) 1 v1) 2 v2) 3 (.int .i64 0)) 15 v15) 16 v16) 17 v17) 19 v19) 20 v20) 4 v20) 5 (.slice none 0 0)) 6 (.int .i64 0)) h_4)
theorem e19 (X : CallT) (a0 : Value) (h : AH) (K : Value → AH → Prop) : cwp2 Try.prog X (Try.f19.body.getD .skip) (endW Try.prog Try.f19 K) (envOf [a0]) h = s19 X a0 h K := by kernel_rfl
theorem c19 {a0 : Value} {h : AH} {K : Value → AH → Prop} (hs : s19 (callW Try.prog) a0 h K) : callW Try.prog 19 [a0] h K := callW_of Try.func19 (by kernel_rfl) (Eq.mpr (e19 _ a0 _ _) hs)

end Go.Proofs.Ytnpbehfhncbjfaa.W
