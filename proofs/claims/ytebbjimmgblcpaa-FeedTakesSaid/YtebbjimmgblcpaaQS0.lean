/- Go functions, printed by a program as predicates on what may come behind; each is the function. Conditions: none. -/
import Derived.Test.YtebbjimmgblcpaaQA1
import Derived.Test.YtebbjimmgblcpaaProg
namespace Go.Proofs.Ytebbjimmgblcpaa.W
open Go Go.AM
set_option linter.unusedVariables false
set_option maxRecDepth 100000

/-- gosem.cut.init () -/
def s2 (X : CallT) (h : AH) (K : Value → AH → Prop) : Prop :=
  X 1 [] h fun v0 h_1 =>
  K (.tuple #[]) h_1
theorem e2 (X : CallT) (h : AH) (K : Value → AH → Prop) : cwp2 Try.prog X (Try.f2.body.getD .skip) (endW Try.prog Try.f2 K) (envOf []) h = s2 X  h K := by kernel_rfl
theorem c2 {h : AH} {K : Value → AH → Prop} (hs : s2 (callW Try.prog)  h K) : callW Try.prog 2 [] h K := callW_of Try.func2 (by kernel_rfl) (Eq.mpr (e2 _  _ _) hs)

/-- canopy/canopylaw14.FeedPlays (I at e: live [9, 21, 22, 25, 26, 27], writes [20, 27, 94, 95, 96, 97, 98, 99, 100, 101, 102, 103, 104, 105, 106, 107, 108, 109, 110, 111, 112, 113, 114, 115, 116, 117]) -/
def s3 (X : CallT) (a0 a1 a2 a3 a4 a5 a6 a7 a8 a9 : Value) (h : AH) (K : Value → AH → Prop) : Prop :=
  X 13 [] h fun v28 h_1 =>
  optW (pUn .not v28) fun v29 =>
  condW v29 (
    K (.bool false) h_1
  ) (
    optW (lenStr a7) fun v31 =>
    optW (pBin Try.prog .gtr 3 v31 (.int .i64 30)) fun v32 =>
    gopW (gB v32 false) (fun k =>
      k a8 h_1) h_1 fun v34 h_2 =>
    gopW (gB v32 false) (fun k_1 =>
      optW (lenStr v34) fun v35_1 =>
      k_1 v35_1 h_2) h_2 fun v35 h_3 =>
    gopW (gB v32 false) (fun k_2 =>
      optW (pBin Try.prog .gtr 3 v35 (.int .i64 100)) fun v36_1 =>
      k_2 v36_1 h_3) h_3 fun v36 h_4 =>
    optW (pPick v32 (.bool true) v36) fun v37 =>
    condW v37 (
      K (.bool true) h_4
    ) (
      X 14 [a0, a2] h_4 fun v40 h_5 =>
      X 15 [v40, a1, a2] h_5 fun v44 h_6 =>
      newR none [(.int .i64 0), (.int .i64 0), (.slice none 0 0), (.slice none 0 0), (.slice none 0 0), (.slice none 0 0), (.slice none 0 0)] h_6 fun v22 h_7 =>
      optW (pStore 7 v22 v44 h_7) fun h_8 =>
      X 17 [v40, a3, (.int .i64 8)] h_8 fun v48 h_9 =>
      X 16 [v40, v48, a5] h_9 fun v50 h_10 =>
      optW (lenStr v50) fun v53 =>
      optW (pBin Try.prog .add 3 v53 (.int .i64 1)) fun v54 =>
      X 18 [a5, v54] h_10 fun v55 h_11 =>
      optW (bldSl 1 [(.int .i64 0)] 6 [(0, (.int .i64 0)), (1, (.int .i64 1)), (2, (.int .i64 2)), (3, (.int .i64 3)), (4, (.int .i64 100)), (5, (.int .i64 (-1)))]) fun c =>
      newW none (.row c true) h_11 fun i h_12 =>
      X 18 [a4, (.int .i64 6)] h_12 fun v58 h_13 =>
      optW (pIdxS 1 (.slice (some ⟨i, 0, none⟩) 6 6) v58) fun v59 =>
      optW (rdRow false 1 v59 h_13) fun v60 =>
      X 19 [v50, a5, a6] (reserve 1 h_13) fun v65 h_14 =>
      optW (pSliceStr v50 none (some v55)) fun v68 =>
      optW (pSliceStr v50 none (some v55)) fun v71 =>
      optW (pBin Try.prog .add 9 v71 a7) fun v73 =>
      optW (pSliceStr v50 (some v55) none) fun v76 =>
      optW (pBin Try.prog .add 9 v73 v76) fun v77 =>
      optW (pBin Try.prog .add 9 v50 a8) fun v80 =>
      optW (pBin Try.prog .add 9 v50 (.string (bs [60, 97]))) fun v82 =>
      optW (pBin Try.prog .add 9 v50 (.string (bs [32, 97, 98, 99, 100, 101, 102, 103, 104, 105]))) fun v84 =>
      optW (pBin Try.prog .add 9 v50 (.string (bs [32, 60, 97, 98, 99, 100, 101, 102, 103, 104, 105, 62]))) fun v86 =>
      optW (pBin Try.prog .add 9 v50 (.string (bs [32, 122, 122, 32]))) fun v88 =>
      optW (pBin Try.prog .add 9 v50 (.string (bs [60, 47]))) fun v90 =>
      optW (pBin Try.prog .add 9 v50 (.string (bs [98, 49]))) fun v92 =>
      optW (bldSl 1 [(.string (bs []))] 11 [(0, v50), (1, v65), (2, v68), (3, v77), (4, v80), (5, v82), (6, v84), (7, v86), (8, v88), (9, v90), (10, v92)]) fun c_1 =>
      newW (some (h_13.length)) (.row c_1 true) h_14 fun i_1 h_15 =>
      loopE (fun I e h_16 =>
        optW (lenSl (e 26)) fun v96 =>
        optW (pBin Try.prog .lss 3 (e 27) v96) fun v97 =>
        condW v97 (
          optW (pIdxS 1 (e 26) (e 27)) fun v102 =>
          optW (rdRow false 1 v102 h_16) fun v103 =>
          X 20 [v103] h_16 fun v104 h_17 =>
          optW (pBin Try.prog .lss 3 v104 (.int .i64 7)) fun v105 =>
          gopD (gB v105 true) (fun k_3 =>
            k_3 (e 21) h_17 ((4, h_16, h_17) :: []) ((3, (idOf v102)) :: [])) h_17 ((4, h_16, h_17) :: []) ((3, (idOf v102)) :: []) fun v107 h_18 H S =>
          gopD (gB v105 true) (fun k_4 =>
            histC #[0, 0, 3, 7, 15, 31, 63, 127, 127, 127, 127, 127, 3199, 7295, 127, 32767, 65535, 131071] 8 (idOf (e 22)) H (
              optW (rdRow true 7 (e 22) h_18) fun v108_1 =>
              k_4 v108_1 h_18 H ((8, (idOf (e 22))) :: S))) h_18 H S fun v108 h_19 H_1 S_1 =>
          gopD (gB v105 true) (fun k_5 =>
            k_5 (e 25) h_19 H_1 S_1) h_19 H_1 S_1 fun v109 h_20 H_2 S_2 =>
          gopD (gB v105 true) (fun k_6 =>
            k_6 (e 26) h_20 H_2 S_2) h_20 H_2 S_2 fun v110 h_21 H_3 S_3 =>
          gopD (gB v105 true) (fun k_7 =>
            k_7 (e 27) h_21 H_3 S_3) h_21 H_3 S_3 fun v111 h_22 H_4 S_4 =>
          gopD (gB v105 true) (fun k_8 =>
            optW (pIdxS 1 v110 v111) fun v112_1 =>
            k_8 v112_1 h_22 H_4 S_4) h_22 H_4 S_4 fun v112 h_23 H_5 S_5 =>
          gopD (gB v105 true) (fun k_9 =>
            histC #[0, 0, 3, 7, 15, 31, 63, 127, 127, 127, 127, 127, 3199, 7295, 127, 32767, 65535, 131071] 13 (idOf v112) H_5 (
              optW (rdRow false 1 v112 h_23) fun v113_1 =>
              k_9 v113_1 h_23 H_5 ((13, (idOf v112)) :: S_5))) h_23 H_5 S_5 fun v113 h_24 H_6 S_6 =>
          gopD (gB v105 true) (fun k_10 =>
            k_10 (e 9) h_24 H_6 S_6) h_24 H_6 S_6 fun v114 h_25 H_7 S_7 =>
          gopD (gB v105 true) (fun k_11 =>
            X 21 [v107, v108, v109, v113, v114] h_25 fun v115_1 h_27 =>
            readC #[0, 0, 3, 7, 15, 31, 63, 127, 127, 127, 127, 127, 3199, 7295, 127, 32767, 65535, 131071] 15 h_25 h_27 S_7 (
              k_11 v115_1 h_27 ((15, h_25, h_27) :: H_7) S_7)) h_25 H_7 S_7 fun v115 h_26 H_8 S_8 =>
          gopD (gB v105 true) (fun k_12 =>
            optW (pUn .not v115) fun v116_1 =>
            k_12 v116_1 h_26 H_8 S_8) h_26 H_8 S_8 fun v116 h_28 H_9 S_9 =>
          optW (pPick v105 v116 (.bool false)) fun v117 =>
          condW v117 (
            K (.bool false) h_28
          ) (
            optW (pBin Try.prog .add 3 (e 27) (.int .i64 1)) fun v99 =>
            I (pt (pt (pt (pt (pt (pt (pt (pt (pt (pt (pt (pt (pt (pt (pt (pt (pt (pt (pt (pt (pt (pt (pt (pt (pt e 94 (e 27)) 95 (e 26)) 96 v96) 97 v97) 100 (e 26)) 101 (e 27)) 102 v102) 103 v103) 104 v104) 105 v105) 106 v105) 107 v107) 108 v108) 109 v109) 110 v110) 111 v111) 112 v112) 113 v113) 114 v114) 115 v115) 116 v116) 117 v117) 98 (e 27)) 99 v99) 27 v99) h_28)
        ) (
          K (.bool true) h_16))
      (pt (pt (pt (pt (pt (pt (pt (pt (pt (pt (pt (pt (pt (pt (pt (pt (pt (pt (pt (pt (pt (pt (pt (pt (pt (pt (pt (pt (pt (pt (pt (pt (pt (pt (pt (pt (pt (pt (pt (pt (pt (pt (pt (pt (pt (pt (pt (pt (pt (pt (pt (pt (pt (pt (pt (pt (pt (pt (pt (pt (pt (pt (pt (pt (pt (pt (pt (pt (pt (pt (pt (pt (pt (pt (envOf [a0, a1, a2, a3, a4, a5, a6, a7, a8, a9]) 20 (.bool false)) 28 v28) 29 v29) 30 a7) 31 v31) 32 v32) 33 v32) 34 v34) 35 v35) 36 v36) 37 v37) 38 a0) 39 a2) 40 v40) 21 v40) 41 v40) 42 a1) 43 a2) 44 v44) 22 v22) 45 v40) 46 v40) 47 a3) 48 v48) 49 a5) 50 v50) 23 v50) 51 a5) 52 v50) 53 v53) 54 v54) 55 v55) 24 v55) 56 (.slice (some ⟨i, 0, none⟩) 6 6)) 57 a4) 58 v58) 59 v59) 60 v60) 25 v60) 61 v50) 62 v50) 63 a5) 64 a6) 65 v65) 66 v50) 67 v55) 68 v68) 69 v50) 70 v55) 71 v71) 72 a7) 73 v73) 74 v50) 75 v55) 76 v76) 77 v77) 78 v50) 79 a8) 80 v80) 81 v50) 82 v82) 83 v50) 84 v84) 85 v50) 86 v86) 87 v50) 88 v88) 89 v50) 90 v90) 91 v50) 92 v92) 93 (.slice (some ⟨i_1, 0, none⟩) 11 11)) 26 (.slice (some ⟨i_1, 0, none⟩) 11 11)) 27 (.int .i64 0)) h_15))
theorem ee3 (X : CallT) (a0 a1 a2 a3 a4 a5 a6 a7 a8 a9 : Value) (h : AH) (K : Value → AH → Prop) : cwp2 Try.prog X (Try.f3.body.getD .skip) (endW Try.prog Try.f3 K) (envOf [a0, a1, a2, a3, a4, a5, a6, a7, a8, a9]) h = s3 X a0 a1 a2 a3 a4 a5 a6 a7 a8 a9 h K := by kernel_rfl
theorem c3 {a0 a1 a2 a3 a4 a5 a6 a7 a8 a9 : Value} {h : AH} {K : Value → AH → Prop} (hs : s3 (callW Try.prog) a0 a1 a2 a3 a4 a5 a6 a7 a8 a9 h K) : callW Try.prog 3 [a0, a1, a2, a3, a4, a5, a6, a7, a8, a9] h K := callW_of Try.func3 (by kernel_rfl) (Eq.mpr (ee3 _ a0 a1 a2 a3 a4 a5 a6 a7 a8 a9 _ _) hs)

/-- canopy/canopylaw14.FeedCuts (I at e: live [19, 22, 24], writes [24, 88, 89, 90, 91, 92, 93, 94, 95, 96, 97, 98, 99]; I_1 at e_1: live [7, 19, 23, 25, 26], writes [25, 26, 27, 100, 101, 102, 103, 104, 105, 106, 107, 108, 109, 110, 111, 112, 113, 114, 115, 116, 117, 118, 119, 120, 121, 122, 123, 124, 125, 126, 127, 128, 129]) -/
def s4 (X : CallT) (a0 a1 a2 a3 a4 a5 a6 a7 : Value) (h : AH) (K : Value → AH → Prop) : Prop :=
  X 13 [] h fun v37 h_1 =>
  optW (pUn .not v37) fun v38 =>
  condW v38 (
    K (.bool false) h_1
  ) (
    optW (lenStr a6) fun v40 =>
    optW (pBin Try.prog .gtr 3 v40 (.int .i64 60)) fun v41 =>
    condW v41 (
      K (.bool true) h_1
    ) (
      X 14 [a0, a2] h_1 fun v44 h_2 =>
      X 15 [v44, a1, a2] h_2 fun v48 h_3 =>
      newR none [(.int .i64 0), (.int .i64 0), (.slice none 0 0), (.slice none 0 0), (.slice none 0 0), (.slice none 0 0), (.slice none 0 0)] h_3 fun v18 h_4 =>
      optW (pStore 7 v18 v48 h_4) fun h_5 =>
      X 17 [v44, a3, (.int .i64 7)] h_5 fun v52 h_6 =>
      X 16 [v44, v52, a5] h_6 fun v54 h_7 =>
      optW (pBin Try.prog .add 9 v54 a6) fun v56 =>
      X 20 [v56] h_7 fun v58 h_8 =>
      optW (pBin Try.prog .gtr 3 v58 (.int .i64 7)) fun v59 =>
      condW v59 (
        K (.bool true) h_8
      ) (
        X 18 [a4, (.int .i64 6)] h_8 fun v61 h_9 =>
        optW (rdRow true 7 v18 h_9) fun v63 =>
        X 22 [v44, v63, v61] h_9 fun v65 h_10 =>
        (∀ x ∈ (idOf v18), (h_9 : AH)[x]? = (h_10 : AH)[x]?) ∧
        optW (rdRow true 7 v18 h_10) fun v67 =>
        X 22 [v44, v67, v61] h_10 fun v69 h_11 =>
        (∀ x ∈ (idOf v18), (h_10 : AH)[x]? = (h_11 : AH)[x]?) ∧
        (∀ x ∈ (idOf v18), (h_9 : AH)[x]? = (h_10 : AH)[x]?) ∧
        optW (rdRow true 7 v18 h_11) fun v71 =>
        X 22 [v44, v71, v61] h_11 fun v73 h_12 =>
        optW (pBin Try.prog .eql 40 v65 (.pointer none)) fun v75 =>
        gopW (gB v75 false) (fun k =>
          k v69 h_12) h_12 fun v77 h_13 =>
        gopW (gB v75 false) (fun k_1 =>
          optW (pBin Try.prog .eql 40 v77 (.pointer none)) fun v78_1 =>
          k_1 v78_1 h_13) h_13 fun v78 h_14 =>
        optW (pPick v75 (.bool true) v78) fun v79 =>
        gopW (gB v79 false) (fun k_2 =>
          k_2 v73 h_14) h_14 fun v81 h_15 =>
        gopW (gB v79 false) (fun k_3 =>
          optW (pBin Try.prog .eql 40 v81 (.pointer none)) fun v82_1 =>
          k_3 v82_1 h_15) h_15 fun v82 h_16 =>
        optW (pPick v79 (.bool true) v82) fun v83 =>
        condW v83 (
          K (.bool false) h_16
        ) (
          strB v56 none h_16 fun v86 h_17 =>
          X 23 [v65, v86] h_17 fun v87 h_18 =>
          loopE (fun I e h_19 =>
            optW (lenStr (e 19)) fun v90 =>
            optW (pBin Try.prog .lss 3 (e 24) v90) fun v91 =>
            condW v91 (
              optW (pIdxStr (e 19) (e 24)) fun v97 =>
              optW (bldSl 1 [(.int .u8 0)] 1 [(0, v97)]) fun c =>
              newW none (.row c true) h_19 fun i h_20 =>
              X 23 [(e 22), (.slice (some ⟨i, 0, none⟩) 1 1)] h_20 fun v99 h_21 =>
              optW (pBin Try.prog .add 3 (e 24) (.int .i64 1)) fun v93 =>
              I (pt (pt (pt (pt (pt (pt (pt (pt (pt (pt (pt (pt (pt e 88 (e 24)) 89 (e 19)) 90 v90) 91 v91) 94 (e 22)) 95 (e 19)) 96 (e 24)) 97 v97) 98 (.slice (some ⟨i, 0, none⟩) 1 1)) 99 v99) 92 (e 24)) 93 v93) 24 v93) h_21
            ) (
              loopE (fun I_1 e_1 h_22 =>
                optW (lenSl (e_1 7)) fun v102 =>
                optW (pBin Try.prog .lss 3 (e_1 26) v102) fun v103 =>
                gopW (gB v103 true) (fun k_4 =>
                  k_4 (e_1 26) h_22) h_22 fun v105 h_23 =>
                gopW (gB v103 true) (fun k_5 =>
                  optW (pBin Try.prog .lss 3 v105 (.int .i64 8)) fun v106_1 =>
                  k_5 v106_1 h_23) h_23 fun v106 h_24 =>
                optW (pPick v103 v106 (.bool false)) fun v107 =>
                condW v107 (
                  optW (pIdxS 1 (e_1 7) (e_1 26)) fun v113 =>
                  optW (rdRow false 1 v113 h_24) fun v114 =>
                  optW (lenStr (e_1 19)) fun v116 =>
                  optW (pBin Try.prog .sub 3 v116 (e_1 25)) fun v118 =>
                  optW (pBin Try.prog .add 3 v118 (.int .i64 1)) fun v119 =>
                  X 18 [v114, v119] h_24 fun v120 h_25 =>
                  optW (pBin Try.prog .add 3 (e_1 25) v120) fun v121 =>
                  optW (pSliceStr (e_1 19) (some (e_1 25)) (some v121)) fun v126 =>
                  strB v126 none h_25 fun v127 h_26 =>
                  X 23 [(e_1 23), v127] h_26 fun v128 h_27 =>
                  optW (pBin Try.prog .add 3 (e_1 26) (.int .i64 1)) fun v109 =>
                  I_1 (pt (pt (pt (pt (pt (pt (pt (pt (pt (pt (pt (pt (pt (pt (pt (pt (pt (pt (pt (pt (pt (pt (pt (pt (pt (pt (pt (pt (pt (pt (pt (pt (pt e_1 100 (e_1 26)) 101 (e_1 7)) 102 v102) 103 v103) 104 v103) 105 v105) 106 v106) 107 v107) 110 (e_1 25)) 111 (e_1 7)) 112 (e_1 26)) 113 v113) 114 v114) 115 (e_1 19)) 116 v116) 117 (e_1 25)) 118 v118) 119 v119) 120 v120) 121 v121) 27 v121) 122 (e_1 23)) 123 (e_1 19)) 124 (e_1 25)) 125 v121) 126 v126) 127 v127) 128 v128) 129 v121) 25 v121) 108 (e_1 26)) 109 v109) 26 v109) h_27
                ) (
                  optW (pSliceStr (e_1 19) (some (e_1 25)) none) fun v133 =>
                  strB v133 none h_24 fun v134 h_28 =>
                  X 23 [(e_1 23), v134] h_28 fun v135 h_29 =>
                  X 24 [(e_1 21)] h_29 fun v138 h_30 =>
                  optW (pExtract v138 0) fun v139 =>
                  optW (pExtract v138 1) fun v140 =>
                  optW (pExtract v138 2) fun v141 =>
                  X 24 [(e_1 22)] h_30 fun v144 h_31 =>
                  optW (pExtract v144 0) fun v145 =>
                  optW (pExtract v144 1) fun v146 =>
                  optW (pExtract v144 2) fun v147 =>
                  X 24 [(e_1 23)] h_31 fun v150 h_32 =>
                  optW (pExtract v150 0) fun v151 =>
                  optW (pExtract v150 1) fun v152 =>
                  optW (pExtract v150 2) fun v153 =>
                  optW (pBin Try.prog .eql 4 v139 v145) fun v156 =>
                  gopW (gB v156 true) (fun k_6 =>
                    k_6 v139 h_32) h_32 fun v158 h_33 =>
                  gopW (gB v156 true) (fun k_7 =>
                    k_7 v151 h_33) h_33 fun v159 h_34 =>
                  gopW (gB v156 true) (fun k_8 =>
                    optW (pBin Try.prog .eql 4 v158 v159) fun v160_1 =>
                    k_8 v160_1 h_34) h_34 fun v160 h_35 =>
                  optW (pPick v156 v160 (.bool false)) fun v161 =>
                  gopW (gB v161 true) (fun k_9 =>
                    k_9 v140 h_35) h_35 fun v163 h_36 =>
                  gopW (gB v161 true) (fun k_10 =>
                    k_10 v146 h_36) h_36 fun v164 h_37 =>
                  gopW (gB v161 true) (fun k_11 =>
                    optW (pBin Try.prog .eql 3 v163 v164) fun v165_1 =>
                    k_11 v165_1 h_37) h_37 fun v165 h_38 =>
                  optW (pPick v161 v165 (.bool false)) fun v166 =>
                  gopW (gB v166 true) (fun k_12 =>
                    k_12 v140 h_38) h_38 fun v168 h_39 =>
                  gopW (gB v166 true) (fun k_13 =>
                    k_13 v152 h_39) h_39 fun v169 h_40 =>
                  gopW (gB v166 true) (fun k_14 =>
                    optW (pBin Try.prog .eql 3 v168 v169) fun v170_1 =>
                    k_14 v170_1 h_40) h_40 fun v170 h_41 =>
                  optW (pPick v166 v170 (.bool false)) fun v171 =>
                  gopW (gB v171 true) (fun k_15 =>
                    k_15 v141 h_41) h_41 fun v173 h_42 =>
                  gopW (gB v171 true) (fun k_16 =>
                    k_16 v147 h_42) h_42 fun v174 h_43 =>
                  gopW (gB v171 true) (fun k_17 =>
                    optW (pBin Try.prog .eql 42 v173 v174) fun v175_1 =>
                    k_17 v175_1 h_43) h_43 fun v175 h_44 =>
                  optW (pPick v171 v175 (.bool false)) fun v176 =>
                  gopW (gB v176 true) (fun k_18 =>
                    k_18 v141 h_44) h_44 fun v178 h_45 =>
                  gopW (gB v176 true) (fun k_19 =>
                    k_19 v153 h_45) h_45 fun v179 h_46 =>
                  gopW (gB v176 true) (fun k_20 =>
                    optW (pBin Try.prog .eql 42 v178 v179) fun v180_1 =>
                    k_20 v180_1 h_46) h_46 fun v180 h_47 =>
                  optW (pPick v176 v180 (.bool false)) fun v181 =>
                  K v181 h_47))
              (pt (pt (pt (pt (pt (pt e 88 (e 24)) 89 (e 19)) 90 v90) 91 v91) 25 (.int .i64 0)) 26 (.int .i64 0)) h_19))
          (pt (pt (pt (pt (pt (pt (pt (pt (pt (pt (pt (pt (pt (pt (pt (pt (pt (pt (pt (pt (pt (pt (pt (pt (pt (pt (pt (pt (pt (pt (pt (pt (pt (pt (pt (pt (pt (pt (pt (pt (pt (pt (pt (pt (pt (pt (pt (pt (pt (pt (pt (pt (pt (pt (pt (pt (pt (pt (pt (pt (envOf [a0, a1, a2, a3, a4, a5, a6, a7]) 16 (.bool false)) 37 v37) 38 v38) 39 a6) 40 v40) 41 v41) 42 a0) 43 a2) 44 v44) 17 v44) 45 v44) 46 a1) 47 a2) 48 v48) 18 v18) 49 v44) 50 v44) 51 a3) 52 v52) 53 a5) 54 v54) 55 a6) 56 v56) 19 v56) 57 v56) 58 v58) 59 v59) 60 a4) 61 v61) 20 v61) 62 v44) 63 v63) 64 v61) 65 v65) 66 v44) 67 v67) 68 v61) 69 v69) 70 v44) 71 v71) 72 v61) 73 v73) 21 v65) 22 v69) 23 v73) 74 v65) 75 v75) 76 v75) 77 v77) 78 v78) 79 v79) 80 v79) 81 v81) 82 v82) 83 v83) 84 v65) 85 v56) 86 v86) 87 v87) 24 (.int .i64 0)) h_18))))
theorem ee4 (X : CallT) (a0 a1 a2 a3 a4 a5 a6 a7 : Value) (h : AH) (K : Value → AH → Prop) : cwp2 Try.prog X (Try.f4.body.getD .skip) (endW Try.prog Try.f4 K) (envOf [a0, a1, a2, a3, a4, a5, a6, a7]) h = s4 X a0 a1 a2 a3 a4 a5 a6 a7 h K := by kernel_rfl
theorem c4 {a0 a1 a2 a3 a4 a5 a6 a7 : Value} {h : AH} {K : Value → AH → Prop} (hs : s4 (callW Try.prog) a0 a1 a2 a3 a4 a5 a6 a7 h K) : callW Try.prog 4 [a0, a1, a2, a3, a4, a5, a6, a7] h K := callW_of Try.func4 (by kernel_rfl) (Eq.mpr (ee4 _ a0 a1 a2 a3 a4 a5 a6 a7 _ _) hs)

/-- canopy/canopylaw14.FeedTakes () -/
def s5 (X : CallT) (a0 a1 a2 a3 a4 a5 : Value) (h : AH) (K : Value → AH → Prop) : Prop :=
  X 13 [] h fun v23 h_1 =>
  optW (pUn .not v23) fun v24 =>
  condW v24 (
    K (.bool false) h_1
  ) (
    X 14 [a0, a2] h_1 fun v27 h_2 =>
    X 15 [v27, a1, a2] h_2 fun v31 h_3 =>
    newR none [(.int .i64 0), (.int .i64 0), (.slice none 0 0), (.slice none 0 0), (.slice none 0 0), (.slice none 0 0), (.slice none 0 0)] h_3 fun v14 h_4 =>
    optW (pStore 7 v14 v31 h_4) fun h_5 =>
    X 17 [v27, a3, (.int .i64 8)] h_5 fun v34 h_6 =>
    X 18 [a4, (.int .i64 6)] h_6 fun v36 h_7 =>
    optW (rdRow true 7 v14 h_7) fun v38 =>
    X 22 [v27, v38, v36] h_7 fun v40 h_8 =>
    optW (pBin Try.prog .eql 40 v40 (.pointer none)) fun v42 =>
    gopW (gB v42 false) (fun k =>
      k v27 h_8) h_8 fun v44 h_9 =>
    gopW (gB v42 false) (fun k_1 =>
      optW (rdRow true 7 v14 h_9) fun v45_1 =>
      k_1 v45_1 h_9) h_9 fun v45 h_10 =>
    gopW (gB v42 false) (fun k_2 =>
      X 25 [v44, v45] h_10 fun v46_1 h_12 =>
      k_2 v46_1 h_12) h_10 fun v46 h_11 =>
    gopW (gB v42 false) (fun k_3 =>
      optW (pBin Try.prog .neq 3 v46 (.int .i64 0)) fun v47_1 =>
      k_3 v47_1 h_11) h_11 fun v47 h_13 =>
    optW (pPick v42 (.bool true) v47) fun v48 =>
    condW v48 (
      K (.bool false) h_13
    ) (
      X 16 [v27, v34, a5] h_13 fun v54 h_14 =>
      strB v54 none h_14 fun v55 h_15 =>
      X 23 [v40, v55] h_15 fun v56 h_16 =>
      optW (pExtract v56 0) fun v57 =>
      optW (pExtract v56 1) fun v58 =>
      X 24 [v40] h_16 fun v61 h_17 =>
      optW (pExtract v61 0) fun v62 =>
      optW (pExtract v61 1) fun v63 =>
      optW (pExtract v61 2) fun v64 =>
      X 26 [v27, v34] h_17 fun v67 h_18 =>
      optW (pBin Try.prog .gtr 3 v67 v36) fun v69 =>
      condW v69 (
        optW (pUn .not v62) fun v71 =>
        gopW (gB v71 true) (fun k_4 =>
          k_4 v64 h_18) h_18 fun v73 h_19 =>
        gopW (gB v71 true) (fun k_5 =>
          optW (pBin Try.prog .eql 42 v73 (.int .i64 13)) fun v74_1 =>
          k_5 v74_1 h_19) h_19 fun v74 h_20 =>
        optW (pPick v71 v74 (.bool false)) fun v75 =>
        gopW (gB v75 true) (fun k_6 =>
          k_6 v58 h_20) h_20 fun v77 h_21 =>
        gopW (gB v75 true) (fun k_7 =>
          optW (pBin Try.prog .eql 42 v77 (.int .i64 0)) fun v78_1 =>
          k_7 v78_1 h_21) h_21 fun v78 h_22 =>
        gopW (gB v75 true) (fun k_8 =>
          k_8 v78 h_22) h_22 fun v79 h_23 =>
        gopW (gB v79 false) (fun k_9 =>
          k_9 v58 h_23) h_23 fun v80 h_24 =>
        gopW (gB v79 false) (fun k_10 =>
          k_10 v64 h_24) h_24 fun v81 h_25 =>
        gopW (gB v79 false) (fun k_11 =>
          optW (pBin Try.prog .eql 42 v80 v81) fun v82_1 =>
          k_11 v82_1 h_25) h_25 fun v82 h_26 =>
        gopW (gB v79 false) (fun k_12 =>
          k_12 v82 h_26) h_26 fun v83 h_27 =>
        gopW (gB v83 true) (fun k_13 =>
          k_13 v57 h_27) h_27 fun v84 h_28 =>
        gopW (gB v83 true) (fun k_14 =>
          k_14 v63 h_28) h_28 fun v85 h_29 =>
        gopW (gB v83 true) (fun k_15 =>
          optW (pBin Try.prog .eql 3 v84 v85) fun v86_1 =>
          k_15 v86_1 h_29) h_29 fun v86 h_30 =>
        gopW (gB v79 false) (fun k_16 =>
          optW (pPick v83 v86 (.bool false)) fun v87_1 =>
          k_16 v87_1 h_30) h_30 fun v87 h_31 =>
        gopW (gB v75 true) (fun k_17 =>
          optW (pPick v79 (.bool true) v87) fun v88_1 =>
          k_17 v88_1 h_31) h_31 fun v88 h_32 =>
        optW (pPick v75 v88 (.bool false)) fun v89 =>
        K v89 h_32
      ) (
        optW (pBin Try.prog .eql 42 v58 (.int .i64 0)) fun v91 =>
        gopW (gB v91 true) (fun k_18 =>
          k_18 v64 h_18) h_18 fun v93 h_33 =>
        gopW (gB v91 true) (fun k_19 =>
          optW (pBin Try.prog .eql 42 v93 (.int .i64 0)) fun v94_1 =>
          k_19 v94_1 h_33) h_33 fun v94 h_34 =>
        optW (pPick v91 v94 (.bool false)) fun v95 =>
        gopW (gB v95 true) (fun k_20 =>
          k_20 v63 h_34) h_34 fun v97 h_35 =>
        gopW (gB v95 true) (fun k_21 =>
          optW (pBin Try.prog .eql 3 v97 (.int .i64 0)) fun v98_1 =>
          k_21 v98_1 h_35) h_35 fun v98 h_36 =>
        optW (pPick v95 v98 (.bool false)) fun v99 =>
        gopW (gB v99 true) (fun k_22 =>
          k_22 v62 h_36) h_36 fun v101 h_37 =>
        gopW (gB v99 true) (fun k_23 =>
          k_23 v27 h_37) h_37 fun v102 h_38 =>
        gopW (gB v99 true) (fun k_24 =>
          optW (rdRow true 7 v14 h_38) fun v103_1 =>
          k_24 v103_1 h_38) h_38 fun v103 h_39 =>
        gopW (gB v99 true) (fun k_25 =>
          k_25 v34 h_39) h_39 fun v104 h_40 =>
        gopW (gB v99 true) (fun k_26 =>
          X 27 [v102, v103, v104] h_40 fun v105_1 h_42 =>
          k_26 v105_1 h_42) h_40 fun v105 h_41 =>
        gopW (gB v99 true) (fun k_27 =>
          optW (pBin Try.prog .eql 4 v101 v105) fun v106_1 =>
          k_27 v106_1 h_41) h_41 fun v106 h_43 =>
        optW (pPick v99 v106 (.bool false)) fun v107 =>
        K v107 h_43)))
theorem e5 (X : CallT) (a0 a1 a2 a3 a4 a5 : Value) (h : AH) (K : Value → AH → Prop) : cwp2 Try.prog X (Try.f5.body.getD .skip) (endW Try.prog Try.f5 K) (envOf [a0, a1, a2, a3, a4, a5]) h = s5 X a0 a1 a2 a3 a4 a5 h K := by kernel_rfl
theorem c5 {a0 a1 a2 a3 a4 a5 : Value} {h : AH} {K : Value → AH → Prop} (hs : s5 (callW Try.prog) a0 a1 a2 a3 a4 a5 h K) : callW Try.prog 5 [a0, a1, a2, a3, a4, a5] h K := callW_of Try.func5 (by kernel_rfl) (Eq.mpr (e5 _ a0 a1 a2 a3 a4 a5 _ _) hs)

/-- canopy/canopylaw14.FeedTokens (I at e: live [15, 18, 19], writes [14, 19, 20, 21, 22, 23, 24, 25, 54, 55, 56, 57, 58, 59, 60, 61, 62, 63, 64, 65, 66, 67, 68, 69, 70, 71, 72, 73, 74, 75, 76, 77, 78, 79, 80, 81, 82, 83, 84, 85, 86, 87, 88, 89, 90, 91, 92, 93]) -/
def s6 (X : CallT) (a0 a1 a2 a3 a4 a5 a6 : Value) (h : AH) (K : Value → AH → Prop) : Prop :=
  X 13 [] h fun v29 h_1 =>
  optW (pUn .not v29) fun v30 =>
  condW v30 (
    K (.bool false) h_1
  ) (
    optW (lenStr a6) fun v32 =>
    optW (pBin Try.prog .gtr 3 v32 (.int .i64 200)) fun v33 =>
    condW v33 (
      K (.bool true) h_1
    ) (
      X 14 [a0, a1] h_1 fun v36 h_2 =>
      X 17 [v36, a2, (.int .i64 30)] h_2 fun v39 h_3 =>
      X 16 [v36, v39, a3] h_3 fun v43 h_4 =>
      X 19 [v43, a4, a5] h_4 fun v48 h_5 =>
      optW (pBin Try.prog .add 9 v43 a6) fun v52 =>
      optW (bldSl 1 [(.string (bs []))] 20 [(0, v43), (1, v48), (2, a6), (3, v52), (4, (.string (bs [60, 97]))), (5, (.string (bs [60]))), (6, (.string (bs [60, 47]))), (7, (.string (bs [60, 32, 97, 62]))), (8, (.string (bs [60, 97, 32, 62]))), (9, (.string (bs [60, 62]))), (10, (.string (bs [97, 62]))), (11, (.string (bs [97, 98, 99, 100, 101, 102, 103, 104]))), (12, (.string (bs [97, 98, 99, 100, 101, 102, 103, 104, 105]))), (13, (.string (bs [60, 97, 98, 99, 100, 101, 102, 103, 104, 62]))), (14, (.string (bs [60, 97, 98, 99, 100, 101, 102, 103, 104, 105, 62]))), (15, (.string (bs [60, 47, 97, 98, 99, 100, 101, 102, 103, 104, 105, 62]))), (16, (.string (bs [98]))), (17, (.string (bs [98, 98]))), (18, (.string (bs [98, 13]))), (19, (.string (bs [60, 97, 47, 47, 62])))]) fun c =>
      newW none (.row c true) h_5 fun i h_6 =>
      loopE (fun I e h_7 =>
        optW (lenSl (e 18)) fun v56 =>
        optW (pBin Try.prog .lss 3 (e 19) v56) fun v57 =>
        condW v57 (
          optW (pIdxS 1 (e 18) (e 19)) fun v64 =>
          optW (rdRow false 1 v64 h_7) fun v65 =>
          X 28 [(e 15), v65] h_7 fun v66 h_8 =>
          optW (pExtract v66 0) fun v67 =>
          optW (pExtract v66 1) fun v68 =>
          optW (pExtract v66 2) fun v69 =>
          optW (pIdxS 1 (e 18) (e 19)) fun v74 =>
          optW (rdRow false 1 v74 h_8) fun v75 =>
          X 29 [(e 15), v75] h_8 fun v76 h_9 =>
          optW (pExtract v76 0) fun v77 =>
          optW (pExtract v76 1) fun v78 =>
          optW (pExtract v76 2) fun v79 =>
          optW (pBin Try.prog .neq 3 v69 v79) fun v82 =>
          gopW (gB v82 false) (fun k =>
            k v68 h_9) h_9 fun v84 h_10 =>
          gopW (gB v82 false) (fun k_1 =>
            k_1 v78 h_10) h_10 fun v85 h_11 =>
          gopW (gB v82 false) (fun k_2 =>
            optW (pBin Try.prog .neq 3 v84 v85) fun v86_1 =>
            k_2 v86_1 h_11) h_11 fun v86 h_12 =>
          optW (pPick v82 (.bool true) v86) fun v87 =>
          gopW (gB v87 false) (fun k_3 =>
            k_3 v67 h_12) h_12 fun v89 h_13 =>
          gopW (gB v87 false) (fun k_4 =>
            k_4 v77 h_13) h_13 fun v90 h_14 =>
          gopW (gB v87 false) (fun k_5 =>
            X 30 [v89, v90] h_14 fun v91_1 h_16 =>
            k_5 v91_1 h_16) h_14 fun v91 h_15 =>
          gopW (gB v87 false) (fun k_6 =>
            optW (pUn .not v91) fun v92_1 =>
            k_6 v92_1 h_15) h_15 fun v92 h_17 =>
          optW (pPick v87 (.bool true) v92) fun v93 =>
          condW v93 (
            K (.bool false) h_17
          ) (
            optW (pBin Try.prog .add 3 (e 19) (.int .i64 1)) fun v59 =>
            I (pt (pt (pt (pt (pt (pt (pt (pt (pt (pt (pt (pt (pt (pt (pt (pt (pt (pt (pt (pt (pt (pt (pt (pt (pt (pt (pt (pt (pt (pt (pt (pt (pt (pt (pt (pt (pt (pt (pt (pt (pt (pt (pt (pt (pt (pt (pt e 54 (e 19)) 55 (e 18)) 56 v56) 57 v57) 61 (e 15)) 62 (e 18)) 63 (e 19)) 64 v64) 65 v65) 66 v66) 60 v66) 67 v67) 68 v68) 69 v69) 20 v67) 21 v68) 22 v69) 71 (e 15)) 72 (e 18)) 73 (e 19)) 74 v74) 75 v75) 76 v76) 70 v76) 77 v77) 78 v78) 79 v79) 23 v77) 24 v78) 25 v79) 80 v69) 81 v79) 82 v82) 83 v82) 84 v84) 85 v85) 86 v86) 87 v87) 88 v87) 89 v89) 90 v90) 91 v91) 92 v92) 93 v93) 58 (e 19)) 59 v59) 19 v59) h_17)
        ) (
          X 28 [(e 15), (e 17)] h_7 fun v97 h_18 =>
          optW (pExtract v97 0) fun v98 =>
          optW (pExtract v97 1) fun v99 =>
          optW (pExtract v97 2) fun v100 =>
          optW (pBin Try.prog .eql 42 v100 (.int .i64 0)) fun v102 =>
          gopW (gB v102 true) (fun k_7 =>
            k_7 v98 h_18) h_18 fun v104 h_19 =>
          gopW (gB v102 true) (fun k_8 =>
            k_8 (e 16) h_19) h_19 fun v105 h_20 =>
          gopW (gB v102 true) (fun k_9 =>
            X 30 [v104, v105] h_20 fun v106_1 h_22 =>
            k_9 v106_1 h_22) h_20 fun v106 h_21 =>
          optW (pPick v102 v106 (.bool false)) fun v107 =>
          K v107 h_21))
      (pt (pt (pt (pt (pt (pt (pt (pt (pt (pt (pt (pt (pt (pt (pt (pt (pt (pt (pt (pt (pt (pt (pt (pt (pt (pt (pt (pt (pt (pt (pt (envOf [a0, a1, a2, a3, a4, a5, a6]) 14 (.bool false)) 29 v29) 30 v30) 31 a6) 32 v32) 33 v33) 34 a0) 35 a1) 36 v36) 15 v36) 37 v36) 38 a2) 39 v39) 16 v39) 40 v36) 41 v39) 42 a3) 43 v43) 17 v43) 44 v43) 45 v43) 46 a4) 47 a5) 48 v48) 49 a6) 50 v43) 51 a6) 52 v52) 53 (.slice (some ⟨i, 0, none⟩) 20 20)) 18 (.slice (some ⟨i, 0, none⟩) 20 20)) 19 (.int .i64 0)) h_6))
theorem e6 (X : CallT) (a0 a1 a2 a3 a4 a5 a6 : Value) (h : AH) (K : Value → AH → Prop) : cwp2 Try.prog X (Try.f6.body.getD .skip) (endW Try.prog Try.f6 K) (envOf [a0, a1, a2, a3, a4, a5, a6]) h = s6 X a0 a1 a2 a3 a4 a5 a6 h K := by kernel_rfl
theorem c6 {a0 a1 a2 a3 a4 a5 a6 : Value} {h : AH} {K : Value → AH → Prop} (hs : s6 (callW Try.prog) a0 a1 a2 a3 a4 a5 a6 h K) : callW Try.prog 6 [a0, a1, a2, a3, a4, a5, a6] h K := callW_of Try.func6 (by kernel_rfl) (Eq.mpr (e6 _ a0 a1 a2 a3 a4 a5 a6 _ _) hs)

/-- canopy/canopylaw14.FeedEnds () -/
def s7 (X : CallT) (a0 a1 a2 a3 a4 : Value) (h : AH) (K : Value → AH → Prop) : Prop :=
  X 13 [] h fun v30 h_1 =>
  optW (pUn .not v30) fun v31 =>
  condW v31 (
    K (.bool false) h_1
  ) (
    optW (lenStr a3) fun v33 =>
    optW (pBin Try.prog .gtr 3 v33 (.int .i64 100)) fun v34 =>
    gopW (gB v34 false) (fun k =>
      k a4 h_1) h_1 fun v36 h_2 =>
    gopW (gB v34 false) (fun k_1 =>
      optW (lenStr v36) fun v37_1 =>
      k_1 v37_1 h_2) h_2 fun v37 h_3 =>
    gopW (gB v34 false) (fun k_2 =>
      optW (pBin Try.prog .gtr 3 v37 (.int .i64 100)) fun v38_1 =>
      k_2 v38_1 h_3) h_3 fun v38 h_4 =>
    optW (pPick v34 (.bool true) v38) fun v39 =>
    gopW (gB v39 false) (fun k_3 =>
      k_3 a3 h_4) h_4 fun v41 h_5 =>
    gopW (gB v39 false) (fun k_4 =>
      X 20 [v41] h_5 fun v42_1 h_7 =>
      k_4 v42_1 h_7) h_5 fun v42 h_6 =>
    gopW (gB v39 false) (fun k_5 =>
      optW (pBin Try.prog .gtr 3 v42 (.int .i64 7)) fun v43_1 =>
      k_5 v43_1 h_6) h_6 fun v43 h_8 =>
    optW (pPick v39 (.bool true) v43) fun v44 =>
    gopW (gB v44 false) (fun k_6 =>
      k_6 a4 h_8) h_8 fun v46 h_9 =>
    gopW (gB v44 false) (fun k_7 =>
      X 20 [v46] h_9 fun v47_1 h_11 =>
      k_7 v47_1 h_11) h_9 fun v47 h_10 =>
    gopW (gB v44 false) (fun k_8 =>
      optW (pBin Try.prog .gtr 3 v47 (.int .i64 7)) fun v48_1 =>
      k_8 v48_1 h_10) h_10 fun v48 h_12 =>
    optW (pPick v44 (.bool true) v48) fun v49 =>
    condW v49 (
      K (.bool true) h_12
    ) (
      X 14 [a0, a2] h_12 fun v52 h_13 =>
      X 15 [v52, a1, a2] h_13 fun v56 h_14 =>
      newR none [(.int .i64 0), (.int .i64 0), (.slice none 0 0), (.slice none 0 0), (.slice none 0 0), (.slice none 0 0), (.slice none 0 0)] h_14 fun v12 h_15 =>
      optW (pStore 7 v12 v56 h_15) fun h_16 =>
      optW (rdRow true 7 v12 h_16) fun v58 =>
      X 22 [v52, v58, (.int .i64 4)] h_16 fun v59 h_17 =>
      (∀ x ∈ (idOf v12), (h_16 : AH)[x]? = (h_17 : AH)[x]?) ∧
      optW (rdRow true 7 v12 h_17) fun v61 =>
      X 22 [v52, v61, (.int .i64 4)] h_17 fun v62 h_18 =>
      optW (pBin Try.prog .eql 40 v59 (.pointer none)) fun v64 =>
      gopW (gB v64 false) (fun k_9 =>
        k_9 v62 h_18) h_18 fun v66 h_19 =>
      gopW (gB v64 false) (fun k_10 =>
        optW (pBin Try.prog .eql 40 v66 (.pointer none)) fun v67_1 =>
        k_10 v67_1 h_19) h_19 fun v67 h_20 =>
      optW (pPick v64 (.bool true) v67) fun v68 =>
      condW v68 (
        K (.bool false) h_20
      ) (
        strB a3 none h_20 fun v72 h_21 =>
        X 23 [v59, v72] h_21 fun v73 h_22 =>
        optW (pExtract v73 0) fun v74 =>
        optW (pExtract v73 1) fun v75 =>
        X 31 [v59] h_22 fun v77 h_23 =>
        optW (pBin Try.prog .neq 42 v75 (.int .i64 0)) fun v79 =>
        condW v79 (
          strB a4 none h_23 fun v83 h_24 =>
          X 23 [v59, v83] h_24 fun v84 h_25 =>
          optW (pExtract v84 0) fun v85 =>
          optW (pExtract v84 1) fun v86 =>
          X 24 [v59] h_25 fun v89 h_26 =>
          optW (pExtract v89 0) fun v90 =>
          optW (pExtract v89 1) fun v91 =>
          optW (pExtract v89 2) fun v92 =>
          optW (pBin Try.prog .neq 3 v85 v74) fun v95 =>
          gopW (gB v95 false) (fun k_11 =>
            k_11 v86 h_26) h_26 fun v97 h_27 =>
          gopW (gB v95 false) (fun k_12 =>
            k_12 v75 h_27) h_27 fun v98 h_28 =>
          gopW (gB v95 false) (fun k_13 =>
            optW (pBin Try.prog .neq 42 v97 v98) fun v99_1 =>
            k_13 v99_1 h_28) h_28 fun v99 h_29 =>
          optW (pPick v95 (.bool true) v99) fun v100 =>
          gopW (gB v100 false) (fun k_14 =>
            k_14 v90 h_29) h_29 fun v102 h_30 =>
          optW (pPick v100 (.bool true) v102) fun v103 =>
          gopW (gB v103 false) (fun k_15 =>
            k_15 v91 h_30) h_30 fun v105 h_31 =>
          gopW (gB v103 false) (fun k_16 =>
            k_16 v74 h_31) h_31 fun v106 h_32 =>
          gopW (gB v103 false) (fun k_17 =>
            optW (pBin Try.prog .neq 3 v105 v106) fun v107_1 =>
            k_17 v107_1 h_32) h_32 fun v107 h_33 =>
          optW (pPick v103 (.bool true) v107) fun v108 =>
          gopW (gB v108 false) (fun k_18 =>
            k_18 v92 h_33) h_33 fun v110 h_34 =>
          gopW (gB v108 false) (fun k_19 =>
            k_19 v75 h_34) h_34 fun v111 h_35 =>
          gopW (gB v108 false) (fun k_20 =>
            optW (pBin Try.prog .neq 42 v110 v111) fun v112_1 =>
            k_20 v112_1 h_35) h_35 fun v112 h_36 =>
          optW (pPick v108 (.bool true) v112) fun v113 =>
          gopW (gB v113 false) (fun k_21 =>
            k_21 v59 h_36) h_36 fun v115 h_37 =>
          gopW (gB v113 false) (fun k_22 =>
            X 31 [v115] h_37 fun v116_1 h_39 =>
            k_22 v116_1 h_39) h_37 fun v116 h_38 =>
          gopW (gB v113 false) (fun k_23 =>
            k_23 v77 h_38) h_38 fun v117 h_40 =>
          gopW (gB v113 false) (fun k_24 =>
            optW (pBin Try.prog .neq 3 v116 v117) fun v118_1 =>
            k_24 v118_1 h_40) h_40 fun v118 h_41 =>
          optW (pPick v113 (.bool true) v118) fun v119 =>
          condW v119 (
            K (.bool false) h_41
          ) (
            X 31 [v59] h_41 fun v123 h_42 =>
            strB a4 none h_42 fun v127 h_43 =>
            X 23 [v59, v127] h_43 fun v128 h_44 =>
            optW (pExtract v128 0) fun v129 =>
            optW (pExtract v128 1) fun v130 =>
            X 24 [v59] h_44 fun v133 h_45 =>
            optW (pExtract v133 0) fun v134 =>
            optW (pExtract v133 1) fun v135 =>
            optW (pExtract v133 2) fun v136 =>
            X 24 [v62] h_45 fun v138 h_46 =>
            X 23 [v62, (.slice none 0 0)] h_46 fun v141 h_47 =>
            optW (pExtract v141 0) fun v142 =>
            optW (pExtract v141 1) fun v143 =>
            optW (pBin Try.prog .eql 3 v129 (.int .i64 0)) fun v145 =>
            gopW (gB v145 true) (fun k_25 =>
              k_25 v130 h_47) h_47 fun v147 h_48 =>
            gopW (gB v145 true) (fun k_26 =>
              optW (pBin Try.prog .eql 42 v147 (.int .i64 14)) fun v148_1 =>
              k_26 v148_1 h_48) h_48 fun v148 h_49 =>
            optW (pPick v145 v148 (.bool false)) fun v149 =>
            gopW (gB v149 true) (fun k_27 =>
              k_27 v134 h_49) h_49 fun v151 h_50 =>
            gopW (gB v149 true) (fun k_28 =>
              optW (pUn .not v151) fun v152_1 =>
              k_28 v152_1 h_50) h_50 fun v152 h_51 =>
            optW (pPick v149 v152 (.bool false)) fun v153 =>
            gopW (gB v153 true) (fun k_29 =>
              k_29 v135 h_51) h_51 fun v155 h_52 =>
            gopW (gB v153 true) (fun k_30 =>
              optW (pBin Try.prog .eql 3 v155 (.int .i64 0)) fun v156_1 =>
              k_30 v156_1 h_52) h_52 fun v156 h_53 =>
            optW (pPick v153 v156 (.bool false)) fun v157 =>
            gopW (gB v157 true) (fun k_31 =>
              k_31 v136 h_53) h_53 fun v159 h_54 =>
            gopW (gB v157 true) (fun k_32 =>
              optW (pBin Try.prog .eql 42 v159 (.int .i64 14)) fun v160_1 =>
              k_32 v160_1 h_54) h_54 fun v160 h_55 =>
            optW (pPick v157 v160 (.bool false)) fun v161 =>
            gopW (gB v161 true) (fun k_33 =>
              k_33 v59 h_55) h_55 fun v163 h_56 =>
            gopW (gB v161 true) (fun k_34 =>
              X 31 [v163] h_56 fun v164_1 h_58 =>
              k_34 v164_1 h_58) h_56 fun v164 h_57 =>
            gopW (gB v161 true) (fun k_35 =>
              k_35 v123 h_57) h_57 fun v165 h_59 =>
            gopW (gB v161 true) (fun k_36 =>
              optW (pBin Try.prog .eql 3 v164 v165) fun v166_1 =>
              k_36 v166_1 h_59) h_59 fun v166 h_60 =>
            optW (pPick v161 v166 (.bool false)) fun v167 =>
            gopW (gB v167 true) (fun k_37 =>
              k_37 v143 h_60) h_60 fun v169 h_61 =>
            gopW (gB v167 true) (fun k_38 =>
              optW (pBin Try.prog .eql 42 v169 (.int .i64 14)) fun v170_1 =>
              k_38 v170_1 h_61) h_61 fun v170 h_62 =>
            optW (pPick v167 v170 (.bool false)) fun v171 =>
            K v171 h_62)
        ) (
          X 24 [v59] h_23 fun v121 h_63 =>
          X 31 [v59] h_63 fun v123_1 h_64 =>
          strB a4 none h_64 fun v127_1 h_65 =>
          X 23 [v59, v127_1] h_65 fun v128_1 h_66 =>
          optW (pExtract v128_1 0) fun v129_1 =>
          optW (pExtract v128_1 1) fun v130_1 =>
          X 24 [v59] h_66 fun v133_1 h_67 =>
          optW (pExtract v133_1 0) fun v134_1 =>
          optW (pExtract v133_1 1) fun v135_1 =>
          optW (pExtract v133_1 2) fun v136_1 =>
          X 24 [v62] h_67 fun v138_1 h_68 =>
          X 23 [v62, (.slice none 0 0)] h_68 fun v141_1 h_69 =>
          optW (pExtract v141_1 0) fun v142_1 =>
          optW (pExtract v141_1 1) fun v143_1 =>
          optW (pBin Try.prog .eql 3 v129_1 (.int .i64 0)) fun v145_1 =>
          gopW (gB v145_1 true) (fun k_39 =>
            k_39 v130_1 h_69) h_69 fun v147_1 h_70 =>
          gopW (gB v145_1 true) (fun k_40 =>
            optW (pBin Try.prog .eql 42 v147_1 (.int .i64 14)) fun v148_3 =>
            k_40 v148_3 h_70) h_70 fun v148_2 h_71 =>
          optW (pPick v145_1 v148_2 (.bool false)) fun v149_1 =>
          gopW (gB v149_1 true) (fun k_41 =>
            k_41 v134_1 h_71) h_71 fun v151_1 h_72 =>
          gopW (gB v149_1 true) (fun k_42 =>
            optW (pUn .not v151_1) fun v152_3 =>
            k_42 v152_3 h_72) h_72 fun v152_2 h_73 =>
          optW (pPick v149_1 v152_2 (.bool false)) fun v153_1 =>
          gopW (gB v153_1 true) (fun k_43 =>
            k_43 v135_1 h_73) h_73 fun v155_1 h_74 =>
          gopW (gB v153_1 true) (fun k_44 =>
            optW (pBin Try.prog .eql 3 v155_1 (.int .i64 0)) fun v156_3 =>
            k_44 v156_3 h_74) h_74 fun v156_2 h_75 =>
          optW (pPick v153_1 v156_2 (.bool false)) fun v157_1 =>
          gopW (gB v157_1 true) (fun k_45 =>
            k_45 v136_1 h_75) h_75 fun v159_1 h_76 =>
          gopW (gB v157_1 true) (fun k_46 =>
            optW (pBin Try.prog .eql 42 v159_1 (.int .i64 14)) fun v160_3 =>
            k_46 v160_3 h_76) h_76 fun v160_2 h_77 =>
          optW (pPick v157_1 v160_2 (.bool false)) fun v161_1 =>
          gopW (gB v161_1 true) (fun k_47 =>
            k_47 v59 h_77) h_77 fun v163_1 h_78 =>
          gopW (gB v161_1 true) (fun k_48 =>
            X 31 [v163_1] h_78 fun v164_3 h_80 =>
            k_48 v164_3 h_80) h_78 fun v164_2 h_79 =>
          gopW (gB v161_1 true) (fun k_49 =>
            k_49 v123_1 h_79) h_79 fun v165_1 h_81 =>
          gopW (gB v161_1 true) (fun k_50 =>
            optW (pBin Try.prog .eql 3 v164_2 v165_1) fun v166_3 =>
            k_50 v166_3 h_81) h_81 fun v166_2 h_82 =>
          optW (pPick v161_1 v166_2 (.bool false)) fun v167_1 =>
          gopW (gB v167_1 true) (fun k_51 =>
            k_51 v143_1 h_82) h_82 fun v169_1 h_83 =>
          gopW (gB v167_1 true) (fun k_52 =>
            optW (pBin Try.prog .eql 42 v169_1 (.int .i64 14)) fun v170_3 =>
            k_52 v170_3 h_83) h_83 fun v170_2 h_84 =>
          optW (pPick v167_1 v170_2 (.bool false)) fun v171_1 =>
          K v171_1 h_84))))
theorem e7 (X : CallT) (a0 a1 a2 a3 a4 : Value) (h : AH) (K : Value → AH → Prop) : cwp2 Try.prog X (Try.f7.body.getD .skip) (endW Try.prog Try.f7 K) (envOf [a0, a1, a2, a3, a4]) h = s7 X a0 a1 a2 a3 a4 h K := by kernel_rfl
theorem c7 {a0 a1 a2 a3 a4 : Value} {h : AH} {K : Value → AH → Prop} (hs : s7 (callW Try.prog) a0 a1 a2 a3 a4 h K) : callW Try.prog 7 [a0, a1, a2, a3, a4] h K := callW_of Try.func7 (by kernel_rfl) (Eq.mpr (e7 _ a0 a1 a2 a3 a4 _ _) hs)

end Go.Proofs.Ytebbjimmgblcpaa.W
