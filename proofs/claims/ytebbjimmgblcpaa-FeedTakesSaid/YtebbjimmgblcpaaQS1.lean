/- Go functions, printed by a program as predicates on what may come behind; each is the function. Conditions: none. -/
import Derived.Test.YtebbjimmgblcpaaQA1
import Derived.Test.YtebbjimmgblcpaaProg
namespace Go.Proofs.Ytebbjimmgblcpaa.W
open Go Go.AM
set_option linter.unusedVariables false
set_option maxRecDepth 100000

/-- canopy/canopylaw14.FeedKnown () -/
def s8 (X : CallT) (a0 : Value) (h : AH) (K : Value → AH → Prop) : Prop :=
  X 13 [] h fun v12 h_1 =>
  optW (pUn .not v12) fun v13 =>
  condW v13 (
    K (.bool false) h_1
  ) (
    X 14 [(.int .i64 0), (.slice none 0 0)] h_1 fun v14 h_2 =>
    optW (bldSl 1 [(.string (bs []))] 22 [(0, (.string (bs []))), (1, (.string (bs [32, 10, 9]))), (2, (.string (bs [98]))), (3, (.string (bs [98, 98]))), (4, (.string (bs [60, 97, 62, 98, 60, 47, 97, 62]))), (5, (.string (bs [60, 97, 62, 98, 98, 60, 47, 97, 62]))), (6, (.string (bs [60, 97]))), (7, (.string (bs [60, 97, 32, 62]))), (8, (.string (bs [60, 32, 97, 62]))), (9, (.string (bs [98, 60, 97]))), (10, (.string (bs [98, 62]))), (11, (.string (bs [98, 47]))), (12, (.string (bs [60, 98, 62]))), (13, (.string (bs [60, 47, 98, 62]))), (14, (.string (bs [97]))), (15, (.string (bs [97, 98, 99, 100, 101, 102, 103, 104, 105, 106]))), (16, (.string (bs [98, 32, 97, 98, 99, 100, 101, 102, 103, 104]))), (17, (.string (bs [60, 97, 98, 99, 100, 101, 102, 103, 104, 105, 106, 62]))), (18, (.string (bs [60, 47, 97, 62, 60, 47, 97, 62]))), (19, (.string (bs [60, 97, 62, 13]))), (20, (.string (bs [60, 47, 47, 97, 62]))), (21, (.string (bs [60, 97, 47, 62])))]) fun c =>
    newW none (.row c true) h_2 fun i h_3 =>
    optW (bldSl 1 [(.int .i64 0)] 22 [(0, (.int .i64 0)), (1, (.int .i64 0)), (2, (.int .i64 0)), (3, (.int .i64 0)), (4, (.int .i64 0)), (5, (.int .i64 3)), (6, (.int .i64 0)), (7, (.int .i64 0)), (8, (.int .i64 0)), (9, (.int .i64 1)), (10, (.int .i64 1)), (11, (.int .i64 1)), (12, (.int .i64 0)), (13, (.int .i64 0)), (14, (.int .i64 0)), (15, (.int .i64 0)), (16, (.int .i64 2)), (17, (.int .i64 0)), (18, (.int .i64 0)), (19, (.int .i64 3)), (20, (.int .i64 0)), (21, (.int .i64 0))]) fun c_1 =>
    newW none (.row c_1 true) h_3 fun i_1 h_4 =>
    optW (lenSl (.slice (some ⟨i, 0, none⟩) 22 22)) fun v19 =>
    X 18 [a0, v19] h_4 fun v20 h_5 =>
    optW (bldSl 1 [(.bool false)] 22 [(0, (.bool false)), (1, (.bool false)), (2, (.bool false)), (3, (.bool true)), (4, (.bool false)), (5, (.bool true)), (6, (.bool true)), (7, (.bool true)), (8, (.bool true)), (9, (.bool true)), (10, (.bool true)), (11, (.bool true)), (12, (.bool true)), (13, (.bool true)), (14, (.bool true)), (15, (.bool true)), (16, (.bool true)), (17, (.bool true)), (18, (.bool false)), (19, (.bool true)), (20, (.bool true)), (21, (.bool true))]) fun c_2 =>
    newW none (.row c_2 true) h_5 fun i_2 h_6 =>
    optW (pIdxS 1 (.slice (some ⟨i, 0, none⟩) 22 22) v20) fun v26 =>
    optW (rdRow false 1 v26 h_6) fun v27 =>
    X 28 [v14, v27] h_6 fun v28 h_7 =>
    optW (pExtract v28 0) fun v29 =>
    optW (pExtract v28 1) fun v30 =>
    optW (pExtract v28 2) fun v31 =>
    optW (bldSl 1 [(.int .i64 0)] 5 [(0, (.int .i64 0)), (1, (.int .i64 0)), (2, (.int .i64 1)), (3, (.int .i64 0)), (4, (.int .i64 3))]) fun c_3 =>
    newW none (.row c_3 true) h_7 fun i_3 h_8 =>
    optW (pMax2 false v20 (.int .i64 4)) fun v34 =>
    optW (pIdxS 1 (.slice (some ⟨i_3, 0, none⟩) 5 5) v34) fun v35 =>
    optW (rdRow false 1 v35 h_8) fun v36 =>
    optW (pBin Try.prog .eql 3 v20 (.int .i64 18)) fun v38 =>
    condW v38 (
      optW (pBin Try.prog .eql 42 v31 (.int .i64 12)) fun v40 =>
      optW (pIdxS 1 (.slice (some ⟨i_2, 0, none⟩) 22 22) v20) fun v43 =>
      optW (rdRow false 1 v43 h_8) fun v44 =>
      optW (pBin Try.prog .eql 4 v40 v44) fun v45 =>
      gopW (gB v45 true) (fun k =>
        k v31 h_8) h_8 fun v47 h_9 =>
      gopW (gB v45 true) (fun k_1 =>
        optW (pBin Try.prog .eql 42 v47 (.int .i64 0)) fun v48_1 =>
        k_1 v48_1 h_9) h_9 fun v48 h_10 =>
      gopW (gB v45 true) (fun k_2 =>
        k_2 (.slice (some ⟨i_2, 0, none⟩) 22 22) h_10) h_10 fun v49 h_11 =>
      gopW (gB v45 true) (fun k_3 =>
        k_3 v20 h_11) h_11 fun v50 h_12 =>
      gopW (gB v45 true) (fun k_4 =>
        optW (pIdxS 1 v49 v50) fun v51_1 =>
        k_4 v51_1 h_12) h_12 fun v51 h_13 =>
      gopW (gB v45 true) (fun k_5 =>
        optW (rdRow false 1 v51 h_13) fun v52_1 =>
        k_5 v52_1 h_13) h_13 fun v52 h_14 =>
      gopW (gB v45 true) (fun k_6 =>
        optW (pUn .not v52) fun v53_1 =>
        k_6 v53_1 h_14) h_14 fun v53 h_15 =>
      gopW (gB v45 true) (fun k_7 =>
        optW (pBin Try.prog .eql 4 v48 v53) fun v54_1 =>
        k_7 v54_1 h_15) h_15 fun v54 h_16 =>
      optW (pPick v45 v54 (.bool false)) fun v55 =>
      gopW (gB v55 true) (fun k_8 =>
        k_8 v30 h_16) h_16 fun v57 h_17 =>
      gopW (gB v55 true) (fun k_9 =>
        k_9 (.slice (some ⟨i_1, 0, none⟩) 22 22) h_17) h_17 fun v58 h_18 =>
      gopW (gB v55 true) (fun k_10 =>
        k_10 v20 h_18) h_18 fun v59 h_19 =>
      gopW (gB v55 true) (fun k_11 =>
        optW (pIdxS 1 v58 v59) fun v60_1 =>
        k_11 v60_1 h_19) h_19 fun v60 h_20 =>
      gopW (gB v55 true) (fun k_12 =>
        optW (rdRow false 1 v60 h_20) fun v61_1 =>
        k_12 v61_1 h_20) h_20 fun v61 h_21 =>
      gopW (gB v55 true) (fun k_13 =>
        optW (pBin Try.prog .eql 3 v57 v61) fun v62_1 =>
        k_13 v62_1 h_21) h_21 fun v62 h_22 =>
      optW (pPick v55 v62 (.bool false)) fun v63 =>
      gopW (gB v63 true) (fun k_14 =>
        k_14 (.slice (some ⟨i_2, 0, none⟩) 22 22) h_22) h_22 fun v65 h_23 =>
      gopW (gB v63 true) (fun k_15 =>
        k_15 v20 h_23) h_23 fun v66 h_24 =>
      gopW (gB v63 true) (fun k_16 =>
        optW (pIdxS 1 v65 v66) fun v67_1 =>
        k_16 v67_1 h_24) h_24 fun v67 h_25 =>
      gopW (gB v63 true) (fun k_17 =>
        optW (rdRow false 1 v67 h_25) fun v68_1 =>
        k_17 v68_1 h_25) h_25 fun v68 h_26 =>
      gopW (gB v63 true) (fun k_18 =>
        k_18 v68 h_26) h_26 fun v69 h_27 =>
      gopW (gB v69 true) (fun k_19 =>
        k_19 v29 h_27) h_27 fun v70 h_28 =>
      gopW (gB v69 true) (fun k_20 =>
        optW (lenSl v70) fun v71_1 =>
        k_20 v71_1 h_28) h_28 fun v71 h_29 =>
      gopW (gB v69 true) (fun k_21 =>
        optW (pBin Try.prog .eql 3 v71 (.int .i64 0)) fun v72_1 =>
        k_21 v72_1 h_29) h_29 fun v72 h_30 =>
      gopW (gB v63 true) (fun k_22 =>
        optW (pPick v69 v72 (.bool false)) fun v73_1 =>
        k_22 v73_1 h_30) h_30 fun v73 h_31 =>
      gopW (gB v63 true) (fun k_23 =>
        k_23 v73 h_31) h_31 fun v74 h_32 =>
      gopW (gB v74 false) (fun k_24 =>
        k_24 (.slice (some ⟨i_2, 0, none⟩) 22 22) h_32) h_32 fun v75 h_33 =>
      gopW (gB v74 false) (fun k_25 =>
        k_25 v20 h_33) h_33 fun v76 h_34 =>
      gopW (gB v74 false) (fun k_26 =>
        optW (pIdxS 1 v75 v76) fun v77_1 =>
        k_26 v77_1 h_34) h_34 fun v77 h_35 =>
      gopW (gB v74 false) (fun k_27 =>
        optW (rdRow false 1 v77 h_35) fun v78_1 =>
        k_27 v78_1 h_35) h_35 fun v78 h_36 =>
      gopW (gB v74 false) (fun k_28 =>
        optW (pUn .not v78) fun v79_1 =>
        k_28 v79_1 h_36) h_36 fun v79 h_37 =>
      gopW (gB v74 false) (fun k_29 =>
        k_29 v79 h_37) h_37 fun v80 h_38 =>
      gopW (gB v80 true) (fun k_30 =>
        k_30 v29 h_38) h_38 fun v81 h_39 =>
      gopW (gB v80 true) (fun k_31 =>
        optW (lenSl v81) fun v82_1 =>
        k_31 v82_1 h_39) h_39 fun v82 h_40 =>
      gopW (gB v80 true) (fun k_32 =>
        k_32 (.int .i64 2) h_40) h_40 fun v83 h_41 =>
      gopW (gB v80 true) (fun k_33 =>
        optW (pBin Try.prog .eql 3 v82 v83) fun v84_1 =>
        k_33 v84_1 h_41) h_41 fun v84 h_42 =>
      gopW (gB v74 false) (fun k_34 =>
        optW (pPick v80 v84 (.bool false)) fun v85_1 =>
        k_34 v85_1 h_42) h_42 fun v85 h_43 =>
      gopW (gB v63 true) (fun k_35 =>
        optW (pPick v74 (.bool true) v85) fun v86_1 =>
        k_35 v86_1 h_43) h_43 fun v86 h_44 =>
      optW (pPick v63 v86 (.bool false)) fun v87 =>
      K v87 h_44
    ) (
      optW (pBin Try.prog .eql 42 v31 (.int .i64 12)) fun v40_1 =>
      optW (pIdxS 1 (.slice (some ⟨i_2, 0, none⟩) 22 22) v20) fun v43_1 =>
      optW (rdRow false 1 v43_1 h_8) fun v44_1 =>
      optW (pBin Try.prog .eql 4 v40_1 v44_1) fun v45_1 =>
      gopW (gB v45_1 true) (fun k_36 =>
        k_36 v31 h_8) h_8 fun v47_1 h_45 =>
      gopW (gB v45_1 true) (fun k_37 =>
        optW (pBin Try.prog .eql 42 v47_1 (.int .i64 0)) fun v48_3 =>
        k_37 v48_3 h_45) h_45 fun v48_2 h_46 =>
      gopW (gB v45_1 true) (fun k_38 =>
        k_38 (.slice (some ⟨i_2, 0, none⟩) 22 22) h_46) h_46 fun v49_1 h_47 =>
      gopW (gB v45_1 true) (fun k_39 =>
        k_39 v20 h_47) h_47 fun v50_1 h_48 =>
      gopW (gB v45_1 true) (fun k_40 =>
        optW (pIdxS 1 v49_1 v50_1) fun v51_3 =>
        k_40 v51_3 h_48) h_48 fun v51_2 h_49 =>
      gopW (gB v45_1 true) (fun k_41 =>
        optW (rdRow false 1 v51_2 h_49) fun v52_3 =>
        k_41 v52_3 h_49) h_49 fun v52_2 h_50 =>
      gopW (gB v45_1 true) (fun k_42 =>
        optW (pUn .not v52_2) fun v53_3 =>
        k_42 v53_3 h_50) h_50 fun v53_2 h_51 =>
      gopW (gB v45_1 true) (fun k_43 =>
        optW (pBin Try.prog .eql 4 v48_2 v53_2) fun v54_3 =>
        k_43 v54_3 h_51) h_51 fun v54_2 h_52 =>
      optW (pPick v45_1 v54_2 (.bool false)) fun v55_1 =>
      gopW (gB v55_1 true) (fun k_44 =>
        k_44 v30 h_52) h_52 fun v57_1 h_53 =>
      gopW (gB v55_1 true) (fun k_45 =>
        k_45 (.slice (some ⟨i_1, 0, none⟩) 22 22) h_53) h_53 fun v58_1 h_54 =>
      gopW (gB v55_1 true) (fun k_46 =>
        k_46 v20 h_54) h_54 fun v59_1 h_55 =>
      gopW (gB v55_1 true) (fun k_47 =>
        optW (pIdxS 1 v58_1 v59_1) fun v60_3 =>
        k_47 v60_3 h_55) h_55 fun v60_2 h_56 =>
      gopW (gB v55_1 true) (fun k_48 =>
        optW (rdRow false 1 v60_2 h_56) fun v61_3 =>
        k_48 v61_3 h_56) h_56 fun v61_2 h_57 =>
      gopW (gB v55_1 true) (fun k_49 =>
        optW (pBin Try.prog .eql 3 v57_1 v61_2) fun v62_3 =>
        k_49 v62_3 h_57) h_57 fun v62_2 h_58 =>
      optW (pPick v55_1 v62_2 (.bool false)) fun v63_1 =>
      gopW (gB v63_1 true) (fun k_50 =>
        k_50 (.slice (some ⟨i_2, 0, none⟩) 22 22) h_58) h_58 fun v65_1 h_59 =>
      gopW (gB v63_1 true) (fun k_51 =>
        k_51 v20 h_59) h_59 fun v66_1 h_60 =>
      gopW (gB v63_1 true) (fun k_52 =>
        optW (pIdxS 1 v65_1 v66_1) fun v67_3 =>
        k_52 v67_3 h_60) h_60 fun v67_2 h_61 =>
      gopW (gB v63_1 true) (fun k_53 =>
        optW (rdRow false 1 v67_2 h_61) fun v68_3 =>
        k_53 v68_3 h_61) h_61 fun v68_2 h_62 =>
      gopW (gB v63_1 true) (fun k_54 =>
        k_54 v68_2 h_62) h_62 fun v69_1 h_63 =>
      gopW (gB v69_1 true) (fun k_55 =>
        k_55 v29 h_63) h_63 fun v70_1 h_64 =>
      gopW (gB v69_1 true) (fun k_56 =>
        optW (lenSl v70_1) fun v71_3 =>
        k_56 v71_3 h_64) h_64 fun v71_2 h_65 =>
      gopW (gB v69_1 true) (fun k_57 =>
        optW (pBin Try.prog .eql 3 v71_2 (.int .i64 0)) fun v72_3 =>
        k_57 v72_3 h_65) h_65 fun v72_2 h_66 =>
      gopW (gB v63_1 true) (fun k_58 =>
        optW (pPick v69_1 v72_2 (.bool false)) fun v73_3 =>
        k_58 v73_3 h_66) h_66 fun v73_2 h_67 =>
      gopW (gB v63_1 true) (fun k_59 =>
        k_59 v73_2 h_67) h_67 fun v74_1 h_68 =>
      gopW (gB v74_1 false) (fun k_60 =>
        k_60 (.slice (some ⟨i_2, 0, none⟩) 22 22) h_68) h_68 fun v75_1 h_69 =>
      gopW (gB v74_1 false) (fun k_61 =>
        k_61 v20 h_69) h_69 fun v76_1 h_70 =>
      gopW (gB v74_1 false) (fun k_62 =>
        optW (pIdxS 1 v75_1 v76_1) fun v77_3 =>
        k_62 v77_3 h_70) h_70 fun v77_2 h_71 =>
      gopW (gB v74_1 false) (fun k_63 =>
        optW (rdRow false 1 v77_2 h_71) fun v78_3 =>
        k_63 v78_3 h_71) h_71 fun v78_2 h_72 =>
      gopW (gB v74_1 false) (fun k_64 =>
        optW (pUn .not v78_2) fun v79_3 =>
        k_64 v79_3 h_72) h_72 fun v79_2 h_73 =>
      gopW (gB v74_1 false) (fun k_65 =>
        k_65 v79_2 h_73) h_73 fun v80_1 h_74 =>
      gopW (gB v80_1 true) (fun k_66 =>
        k_66 v29 h_74) h_74 fun v81_1 h_75 =>
      gopW (gB v80_1 true) (fun k_67 =>
        optW (lenSl v81_1) fun v82_3 =>
        k_67 v82_3 h_75) h_75 fun v82_2 h_76 =>
      gopW (gB v80_1 true) (fun k_68 =>
        k_68 v36 h_76) h_76 fun v83_1 h_77 =>
      gopW (gB v80_1 true) (fun k_69 =>
        optW (pBin Try.prog .eql 3 v82_2 v83_1) fun v84_3 =>
        k_69 v84_3 h_77) h_77 fun v84_2 h_78 =>
      gopW (gB v74_1 false) (fun k_70 =>
        optW (pPick v80_1 v84_2 (.bool false)) fun v85_3 =>
        k_70 v85_3 h_78) h_78 fun v85_2 h_79 =>
      gopW (gB v63_1 true) (fun k_71 =>
        optW (pPick v74_1 (.bool true) v85_2) fun v86_3 =>
        k_71 v86_3 h_79) h_79 fun v86_2 h_80 =>
      optW (pPick v63_1 v86_2 (.bool false)) fun v87_1 =>
      K v87_1 h_80))
theorem e8 (X : CallT) (a0 : Value) (h : AH) (K : Value → AH → Prop) : cwp2 Try.prog X (Try.f8.body.getD .skip) (endW Try.prog Try.f8 K) (envOf [a0]) h = s8 X a0 h K := by kernel_rfl
theorem c8 {a0 : Value} {h : AH} {K : Value → AH → Prop} (hs : s8 (callW Try.prog) a0 h K) : callW Try.prog 8 [a0] h K := callW_of Try.func8 (by kernel_rfl) (Eq.mpr (e8 _ a0 _ _) hs)

/-- canopy/canopylaw14.FeedSoon (I at e: live [12, 14, 15, 18], writes [10, 18, 19, 20, 54, 55, 56, 57, 58, 59, 60, 61, 62, 63, 64, 65, 66, 67, 68, 69, 70, 71, 72, 73, 74, 75, 76, 77, 78, 79, 80, 81, 82, 83, 84, 85, 86, 87, 88, 89, 90]) -/
def s9 (X : CallT) (a0 a1 a2 a3 a4 : Value) (h : AH) (K : Value → AH → Prop) : Prop :=
  X 13 [] h fun v21 h_1 =>
  optW (pUn .not v21) fun v22 =>
  condW v22 (
    K (.bool false) h_1
  ) (
    X 14 [a0, a1] h_1 fun v25 h_2 =>
    X 17 [v25, a2, (.int .i64 12)] h_2 fun v29 h_3 =>
    X 16 [v25, v29, a3] h_3 fun v31 h_4 =>
    optW (pBin Try.prog .add 9 v31 (.string (bs [32]))) fun v32 =>
    X 18 [a4, (.int .i64 7)] h_4 fun v34 h_5 =>
    optW (bldSl 1 [(.string (bs []))] 7 [(0, (.string (bs [63]))), (1, (.string (bs [60, 63]))), (2, (.string (bs [60, 97, 63]))), (3, (.string (bs [60, 122, 122, 62]))), (4, (.string (bs [122, 122, 63]))), (5, (.string (bs [97, 98, 99, 100, 101, 102, 103, 104, 105]))), (6, (.string (bs [60, 47, 97, 47])))]) fun c =>
    newW none (.row c true) h_5 fun i h_6 =>
    optW (pIdxS 1 (.slice (some ⟨i, 0, none⟩) 7 7) v34) fun v37 =>
    optW (rdRow false 1 v37 h_6) fun v38 =>
    X 32 [v25] h_6 fun v41 h_7 =>
    X 22 [v25, v41, (.int .i64 100)] h_7 fun v42 h_8 =>
    optW (pBin Try.prog .eql 40 v42 (.pointer none)) fun v44 =>
    condW v44 (
      K (.bool false) h_8
    ) (
      strB v32 none h_8 fun v48 h_9 =>
      X 23 [v42, v48] h_9 fun v49 h_10 =>
      optW (pExtract v49 0) fun v50 =>
      optW (pExtract v49 1) fun v51 =>
      optW (pBin Try.prog .neq 42 v51 (.int .i64 0)) fun v53 =>
      condW v53 (
        K (.bool false) h_10
      ) (
        loopE (fun I e h_11 =>
          optW (lenStr (e 14)) fun v56 =>
          optW (pBin Try.prog .lss 3 (e 18) v56) fun v57 =>
          condW v57 (
            optW (pIdxStr (e 14) (e 18)) fun v64 =>
            optW (bldSl 1 [(.int .u8 0)] 1 [(0, v64)]) fun c_1 =>
            newW none (.row c_1 true) h_11 fun i_1 h_12 =>
            X 23 [(e 15), (.slice (some ⟨i_1, 0, none⟩) 1 1)] h_12 fun v66 h_13 =>
            optW (pExtract v66 0) fun v67 =>
            optW (pExtract v66 1) fun v68 =>
            optW (pBin Try.prog .eql 42 v68 (.int .i64 0)) fun v70 =>
            optW (pBin Try.prog .add 3 (e 18) (.int .i64 1)) fun v72 =>
            optW (lenStr (e 14)) fun v74 =>
            optW (pBin Try.prog .lss 3 v72 v74) fun v75 =>
            optW (pBin Try.prog .neq 4 v70 v75) fun v76 =>
            gopW (gB v76 false) (fun k =>
              k v68 h_13) h_13 fun v78 h_14 =>
            gopW (gB v76 false) (fun k_1 =>
              optW (pBin Try.prog .neq 42 v78 (.int .i64 0)) fun v79_1 =>
              k_1 v79_1 h_14) h_14 fun v79 h_15 =>
            gopW (gB v76 false) (fun k_2 =>
              k_2 v79 h_15) h_15 fun v80 h_16 =>
            gopW (gB v80 true) (fun k_3 =>
              k_3 v68 h_16) h_16 fun v81 h_17 =>
            gopW (gB v80 true) (fun k_4 =>
              optW (pBin Try.prog .neq 42 v81 (.int .i64 12)) fun v82_1 =>
              k_4 v82_1 h_17) h_17 fun v82 h_18 =>
            gopW (gB v80 true) (fun k_5 =>
              k_5 v82 h_18) h_18 fun v83 h_19 =>
            gopW (gB v83 false) (fun k_6 =>
              k_6 v67 h_19) h_19 fun v84 h_20 =>
            gopW (gB v83 false) (fun k_7 =>
              k_7 (e 12) h_20) h_20 fun v85 h_21 =>
            gopW (gB v83 false) (fun k_8 =>
              optW (lenStr v85) fun v86_1 =>
              k_8 v86_1 h_21) h_21 fun v86 h_22 =>
            gopW (gB v83 false) (fun k_9 =>
              optW (pBin Try.prog .neq 3 v84 v86) fun v87_1 =>
              k_9 v87_1 h_22) h_22 fun v87 h_23 =>
            gopW (gB v80 true) (fun k_10 =>
              optW (pPick v83 (.bool true) v87) fun v88_1 =>
              k_10 v88_1 h_23) h_23 fun v88 h_24 =>
            gopW (gB v76 false) (fun k_11 =>
              optW (pPick v80 v88 (.bool false)) fun v89_1 =>
              k_11 v89_1 h_24) h_24 fun v89 h_25 =>
            optW (pPick v76 (.bool true) v89) fun v90 =>
            condW v90 (
              K (.bool false) h_25
            ) (
              optW (pBin Try.prog .add 3 (e 18) (.int .i64 1)) fun v59 =>
              I (pt (pt (pt (pt (pt (pt (pt (pt (pt (pt (pt (pt (pt (pt (pt (pt (pt (pt (pt (pt (pt (pt (pt (pt (pt (pt (pt (pt (pt (pt (pt (pt (pt (pt (pt (pt (pt (pt (pt (pt e 54 (e 18)) 55 (e 14)) 56 v56) 57 v57) 61 (e 15)) 62 (e 14)) 63 (e 18)) 64 v64) 65 (.slice (some ⟨i_1, 0, none⟩) 1 1)) 66 v66) 60 v66) 67 v67) 68 v68) 19 v67) 20 v68) 69 v68) 70 v70) 71 (e 18)) 72 v72) 73 (e 14)) 74 v74) 75 v75) 76 v76) 77 v76) 78 v78) 79 v79) 80 v80) 81 v81) 82 v82) 83 v83) 84 v84) 85 v85) 86 v86) 87 v87) 88 v88) 89 v89) 90 v90) 58 (e 18)) 59 v59) 18 v59) h_25)
          ) (
            K (.bool true) h_11))
        (pt (pt (pt (pt (pt (pt (pt (pt (pt (pt (pt (pt (pt (pt (pt (pt (pt (pt (pt (pt (pt (pt (pt (pt (pt (pt (pt (pt (pt (pt (pt (pt (pt (pt (pt (pt (pt (pt (pt (pt (pt (pt (envOf [a0, a1, a2, a3, a4]) 10 (.bool false)) 21 v21) 22 v22) 23 a0) 24 a1) 25 v25) 11 v25) 26 v25) 27 v25) 28 a2) 29 v29) 30 a3) 31 v31) 32 v32) 12 v32) 33 a4) 34 v34) 13 v34) 35 (.slice (some ⟨i, 0, none⟩) 7 7)) 36 v34) 37 v37) 38 v38) 14 v38) 39 v25) 40 v25) 41 v41) 42 v42) 15 v42) 43 v42) 44 v44) 46 v42) 47 v32) 48 v48) 49 v49) 45 v49) 50 v50) 51 v51) 16 v50) 17 v51) 52 v51) 53 v53) 18 (.int .i64 0)) h_10)))
theorem e9 (X : CallT) (a0 a1 a2 a3 a4 : Value) (h : AH) (K : Value → AH → Prop) : cwp2 Try.prog X (Try.f9.body.getD .skip) (endW Try.prog Try.f9 K) (envOf [a0, a1, a2, a3, a4]) h = s9 X a0 a1 a2 a3 a4 h K := by kernel_rfl
theorem c9 {a0 a1 a2 a3 a4 : Value} {h : AH} {K : Value → AH → Prop} (hs : s9 (callW Try.prog) a0 a1 a2 a3 a4 h K) : callW Try.prog 9 [a0, a1, a2, a3, a4] h K := callW_of Try.func9 (by kernel_rfl) (Eq.mpr (e9 _ a0 a1 a2 a3 a4 _ _) hs)

/-- canopy/canopylaw14.FeedDeep (I at e: live [9, 10, 11, 12, 13, 14, 15], writes [8, 13, 14, 15, 16, 17, 18, 39, 40, 41, 42, 43, 44, 45, 46, 47, 48, 49, 50, 51, 52, 53, 54, 55, 56, 57, 58, 59, 60, 61, 62, 63, 64, 65, 66, 67, 68, 69, 70, 71, 72, 73, 74, 75, 76, 77, 78, 79, 80, 81, 82, 83, 84, 85, 86, 87, 88, 89, 90, 91, 92, 93, 94, 95, 96, 97, 98, 99, 100, 101, 102, 103, 104, 105, 106, 107, 108, 109]) -/
def s10 (X : CallT) (a0 a1 a2 a3 : Value) (h : AH) (K : Value → AH → Prop) : Prop :=
  X 13 [] h fun v22 h_1 =>
  optW (pUn .not v22) fun v23 =>
  condW v23 (
    K (.bool false) h_1
  ) (
    X 14 [a0, a1] h_1 fun v26 h_2 =>
    X 17 [v26, a2, (.int .i64 30)] h_2 fun v29 h_3 =>
    X 18 [a3, (.int .i64 5)] h_3 fun v31 h_4 =>
    X 32 [v26] h_4 fun v34 h_5 =>
    X 22 [v26, v34, v31] h_5 fun v36 h_6 =>
    optW (pBin Try.prog .eql 40 v36 (.pointer none)) fun v38 =>
    condW v38 (
      K (.bool false) h_6
    ) (
      loopE (fun I e h_7 =>
        optW (lenSl (e 10)) fun v41 =>
        optW (pBin Try.prog .lss 3 (e 15) v41) fun v42 =>
        condW v42 (
          optW (pIdxS 1 (e 10) (e 15)) fun v48 =>
          optW (rdRow false 1 v48 h_7) fun v49 =>
          optW (pIdxS 2 (e 9) v49) fun v50 =>
          optW (rdRow true 2 v50 h_7) fun v51 =>
          X 33 [v51] h_7 fun v52 h_8 =>
          optW (pBin Try.prog .add 9 v52 (.string (bs [32]))) fun v53 =>
          strB v53 none h_8 fun v57 h_9 =>
          X 23 [(e 12), v57] h_9 fun v58 h_10 =>
          optW (pExtract v58 0) fun v59 =>
          optW (pExtract v58 1) fun v60 =>
          optW (pIdxS 1 (e 10) (e 15)) fun v64 =>
          optW (rdRow false 1 v64 h_10) fun v65 =>
          optW (pIdxS 2 (e 9) v65) fun v66 =>
          optW (pOff 1 v66) fun v67 =>
          optW (rdRow false 1 v67 h_10) fun v68 =>
          optW (pBin Try.prog .eql 3 v68 (.int .i64 1)) fun v70 =>
          condW v70 (
            optW (pBin Try.prog .eql 3 (e 13) (e 11)) fun v73 =>
            condW v73 (
              optW (pBin Try.prog .eql 42 v60 (.int .i64 13)) fun v75 =>
              gopW (gB v75 true) (fun k =>
                k v59 h_10) h_10 fun v77 h_11 =>
              gopW (gB v75 true) (fun k_1 =>
                k_1 (e 14) h_11) h_11 fun v78 h_12 =>
              gopW (gB v75 true) (fun k_2 =>
                optW (pBin Try.prog .eql 3 v77 v78) fun v79_1 =>
                k_2 v79_1 h_12) h_12 fun v79 h_13 =>
              optW (pPick v75 v79 (.bool false)) fun v80 =>
              gopW (gB v80 true) (fun k_3 =>
                k_3 (e 12) h_13) h_13 fun v82 h_14 =>
              gopW (gB v80 true) (fun k_4 =>
                X 31 [v82] h_14 fun v83_1 h_16 =>
                k_4 v83_1 h_16) h_14 fun v83 h_15 =>
              gopW (gB v80 true) (fun k_5 =>
                k_5 (e 11) h_15) h_15 fun v84 h_17 =>
              gopW (gB v80 true) (fun k_6 =>
                optW (pBin Try.prog .eql 3 v83 v84) fun v85_1 =>
                k_6 v85_1 h_17) h_17 fun v85 h_18 =>
              optW (pPick v80 v85 (.bool false)) fun v86 =>
              K v86 h_18
            ) (
              optW (pBin Try.prog .add 3 (e 13) (.int .i64 1)) fun v88 =>
              optW (pBin Try.prog .neq 42 v60 (.int .i64 0)) fun v95 =>
              gopW (gB v95 false) (fun k_7 =>
                k_7 v59 h_10) h_10 fun v97 h_19 =>
              gopW (gB v95 false) (fun k_8 =>
                optW (pBin Try.prog .neq 3 v97 (.int .i64 0)) fun v98_1 =>
                k_8 v98_1 h_19) h_19 fun v98 h_20 =>
              optW (pPick v95 (.bool true) v98) fun v99 =>
              gopW (gB v99 false) (fun k_9 =>
                k_9 (e 12) h_20) h_20 fun v101 h_21 =>
              gopW (gB v99 false) (fun k_10 =>
                X 31 [v101] h_21 fun v102_1 h_23 =>
                k_10 v102_1 h_23) h_21 fun v102 h_22 =>
              gopW (gB v99 false) (fun k_11 =>
                k_11 v88 h_22) h_22 fun v103 h_24 =>
              gopW (gB v99 false) (fun k_12 =>
                optW (pBin Try.prog .neq 3 v102 v103) fun v104_1 =>
                k_12 v104_1 h_24) h_24 fun v104 h_25 =>
              optW (pPick v99 (.bool true) v104) fun v105 =>
              condW v105 (
                K (.bool false) h_25
              ) (
                optW (lenStr v53) fun v108 =>
                optW (pBin Try.prog .add 3 (e 14) v108) fun v109 =>
                optW (pBin Try.prog .add 3 (e 15) (.int .i64 1)) fun v44 =>
                I (pt (pt (pt (pt (pt (pt (pt (pt (pt (pt (pt (pt (pt (pt (pt (pt (pt (pt (pt (pt (pt (pt (pt (pt (pt (pt (pt (pt (pt (pt (pt (pt (pt (pt (pt (pt (pt (pt (pt (pt (pt (pt (pt (pt (pt (pt (pt (pt (pt (pt (pt (pt (pt (pt (pt (pt (pt (pt (pt e 39 (e 15)) 40 (e 10)) 41 v41) 42 v42) 45 (e 9)) 46 (e 10)) 47 (e 15)) 48 v48) 49 v49) 50 v50) 51 v51) 52 v52) 53 v53) 16 v53) 55 (e 12)) 56 v53) 57 v57) 58 v58) 54 v58) 59 v59) 60 v60) 17 v59) 18 v60) 61 (e 9)) 62 (e 10)) 63 (e 15)) 64 v64) 65 v65) 66 v66) 67 v67) 68 v68) 70 v70) 69 v70) 71 (e 13)) 72 (e 11)) 73 v73) 87 (e 13)) 88 v88) 13 v88) 94 v60) 95 v95) 96 v95) 97 v97) 98 v98) 99 v99) 100 v99) 101 v101) 102 v102) 103 v103) 104 v104) 105 v105) 106 (e 14)) 107 v53) 108 v108) 109 v109) 14 v109) 43 (e 15)) 44 v44) 15 v44) h_25))
          ) (
            optW (pBin Try.prog .eql 3 v68 (.int .i64 2)) fun v90 =>
            condW v90 (
              optW (pBin Try.prog .sub 3 (e 13) (.int .i64 1)) fun v92 =>
              optW (pMax2 true v92 (.int .i64 0)) fun v93 =>
              optW (pBin Try.prog .neq 42 v60 (.int .i64 0)) fun v95_1 =>
              gopW (gB v95_1 false) (fun k_13 =>
                k_13 v59 h_10) h_10 fun v97_1 h_26 =>
              gopW (gB v95_1 false) (fun k_14 =>
                optW (pBin Try.prog .neq 3 v97_1 (.int .i64 0)) fun v98_3 =>
                k_14 v98_3 h_26) h_26 fun v98_2 h_27 =>
              optW (pPick v95_1 (.bool true) v98_2) fun v99_1 =>
              gopW (gB v99_1 false) (fun k_15 =>
                k_15 (e 12) h_27) h_27 fun v101_1 h_28 =>
              gopW (gB v99_1 false) (fun k_16 =>
                X 31 [v101_1] h_28 fun v102_3 h_30 =>
                k_16 v102_3 h_30) h_28 fun v102_2 h_29 =>
              gopW (gB v99_1 false) (fun k_17 =>
                k_17 v93 h_29) h_29 fun v103_1 h_31 =>
              gopW (gB v99_1 false) (fun k_18 =>
                optW (pBin Try.prog .neq 3 v102_2 v103_1) fun v104_3 =>
                k_18 v104_3 h_31) h_31 fun v104_2 h_32 =>
              optW (pPick v99_1 (.bool true) v104_2) fun v105_1 =>
              condW v105_1 (
                K (.bool false) h_32
              ) (
                optW (lenStr v53) fun v108_1 =>
                optW (pBin Try.prog .add 3 (e 14) v108_1) fun v109_1 =>
                optW (pBin Try.prog .add 3 (e 15) (.int .i64 1)) fun v44_1 =>
                I (pt (pt (pt (pt (pt (pt (pt (pt (pt (pt (pt (pt (pt (pt (pt (pt (pt (pt (pt (pt (pt (pt (pt (pt (pt (pt (pt (pt (pt (pt (pt (pt (pt (pt (pt (pt (pt (pt (pt (pt (pt (pt (pt (pt (pt (pt (pt (pt (pt (pt (pt (pt (pt (pt (pt (pt (pt (pt (pt e 39 (e 15)) 40 (e 10)) 41 v41) 42 v42) 45 (e 9)) 46 (e 10)) 47 (e 15)) 48 v48) 49 v49) 50 v50) 51 v51) 52 v52) 53 v53) 16 v53) 55 (e 12)) 56 v53) 57 v57) 58 v58) 54 v58) 59 v59) 60 v60) 17 v59) 18 v60) 61 (e 9)) 62 (e 10)) 63 (e 15)) 64 v64) 65 v65) 66 v66) 67 v67) 68 v68) 70 v70) 69 v70) 90 v90) 89 v90) 91 (e 13)) 92 v92) 93 v93) 13 v93) 94 v60) 95 v95_1) 96 v95_1) 97 v97_1) 98 v98_2) 99 v99_1) 100 v99_1) 101 v101_1) 102 v102_2) 103 v103_1) 104 v104_2) 105 v105_1) 106 (e 14)) 107 v53) 108 v108_1) 109 v109_1) 14 v109_1) 43 (e 15)) 44 v44_1) 15 v44_1) h_32)
            ) (
              optW (pBin Try.prog .neq 42 v60 (.int .i64 0)) fun v95_2 =>
              gopW (gB v95_2 false) (fun k_19 =>
                k_19 v59 h_10) h_10 fun v97_2 h_33 =>
              gopW (gB v95_2 false) (fun k_20 =>
                optW (pBin Try.prog .neq 3 v97_2 (.int .i64 0)) fun v98_5 =>
                k_20 v98_5 h_33) h_33 fun v98_4 h_34 =>
              optW (pPick v95_2 (.bool true) v98_4) fun v99_2 =>
              gopW (gB v99_2 false) (fun k_21 =>
                k_21 (e 12) h_34) h_34 fun v101_2 h_35 =>
              gopW (gB v99_2 false) (fun k_22 =>
                X 31 [v101_2] h_35 fun v102_5 h_37 =>
                k_22 v102_5 h_37) h_35 fun v102_4 h_36 =>
              gopW (gB v99_2 false) (fun k_23 =>
                k_23 (e 13) h_36) h_36 fun v103_2 h_38 =>
              gopW (gB v99_2 false) (fun k_24 =>
                optW (pBin Try.prog .neq 3 v102_4 v103_2) fun v104_5 =>
                k_24 v104_5 h_38) h_38 fun v104_4 h_39 =>
              optW (pPick v99_2 (.bool true) v104_4) fun v105_2 =>
              condW v105_2 (
                K (.bool false) h_39
              ) (
                optW (lenStr v53) fun v108_2 =>
                optW (pBin Try.prog .add 3 (e 14) v108_2) fun v109_2 =>
                optW (pBin Try.prog .add 3 (e 15) (.int .i64 1)) fun v44_2 =>
                I (pt (pt (pt (pt (pt (pt (pt (pt (pt (pt (pt (pt (pt (pt (pt (pt (pt (pt (pt (pt (pt (pt (pt (pt (pt (pt (pt (pt (pt (pt (pt (pt (pt (pt (pt (pt (pt (pt (pt (pt (pt (pt (pt (pt (pt (pt (pt (pt (pt (pt (pt (pt (pt (pt (pt e 39 (e 15)) 40 (e 10)) 41 v41) 42 v42) 45 (e 9)) 46 (e 10)) 47 (e 15)) 48 v48) 49 v49) 50 v50) 51 v51) 52 v52) 53 v53) 16 v53) 55 (e 12)) 56 v53) 57 v57) 58 v58) 54 v58) 59 v59) 60 v60) 17 v59) 18 v60) 61 (e 9)) 62 (e 10)) 63 (e 15)) 64 v64) 65 v65) 66 v66) 67 v67) 68 v68) 70 v70) 69 v70) 90 v90) 89 v90) 94 v60) 95 v95_2) 96 v95_2) 97 v97_2) 98 v98_4) 99 v99_2) 100 v99_2) 101 v101_2) 102 v102_4) 103 v103_2) 104 v104_4) 105 v105_2) 106 (e 14)) 107 v53) 108 v108_2) 109 v109_2) 14 v109_2) 43 (e 15)) 44 v44_2) 15 v44_2) h_39)))
        ) (
          X 24 [(e 12)] h_7 fun v112 h_40 =>
          optW (pExtract v112 0) fun v113 =>
          optW (pExtract v112 1) fun v114 =>
          optW (pExtract v112 2) fun v115 =>
          gopW (gB v113 true) (fun k_25 =>
            k_25 v115 h_40) h_40 fun v118 h_41 =>
          gopW (gB v113 true) (fun k_26 =>
            optW (pBin Try.prog .eql 42 v118 (.int .i64 0)) fun v119_1 =>
            k_26 v119_1 h_41) h_41 fun v119 h_42 =>
          optW (pPick v113 v119 (.bool false)) fun v120 =>
          K v120 h_42))
      (pt (pt (pt (pt (pt (pt (pt (pt (pt (pt (pt (pt (pt (pt (pt (pt (pt (pt (pt (pt (pt (pt (pt (pt (pt (envOf [a0, a1, a2, a3]) 8 (.bool false)) 22 v22) 23 v23) 24 a0) 25 a1) 26 v26) 9 v26) 27 v26) 28 a2) 29 v29) 10 v29) 30 a3) 31 v31) 11 v31) 32 v26) 33 v26) 34 v34) 35 v31) 36 v36) 12 v36) 37 v36) 38 v38) 13 (.int .i64 0)) 14 (.int .i64 0)) 15 (.int .i64 0)) h_6))
theorem e10 (X : CallT) (a0 a1 a2 a3 : Value) (h : AH) (K : Value → AH → Prop) : cwp2 Try.prog X (Try.f10.body.getD .skip) (endW Try.prog Try.f10 K) (envOf [a0, a1, a2, a3]) h = s10 X a0 a1 a2 a3 h K := by kernel_rfl
theorem c10 {a0 a1 a2 a3 : Value} {h : AH} {K : Value → AH → Prop} (hs : s10 (callW Try.prog) a0 a1 a2 a3 h K) : callW Try.prog 10 [a0, a1, a2, a3] h K := callW_of Try.func10 (by kernel_rfl) (Eq.mpr (e10 _ a0 a1 a2 a3 _ _) hs)

/-- canopy/canopylaw14.FeedApart (I at e: live [10, 11, 12, 13, 15], writes [15, 62, 63, 64, 65, 66, 67, 68, 69, 70, 71, 72, 73, 74, 75, 76, 77, 78, 79, 80, 81, 82, 83, 84, 85, 86, 87, 88, 89, 90, 91, 92, 93]) -/
def s11 (X : CallT) (a0 a1 a2 a3 : Value) (h : AH) (K : Value → AH → Prop) : Prop :=
  X 13 [] h fun v25 h_1 =>
  optW (pUn .not v25) fun v26 =>
  condW v26 (
    K (.bool false) h_1
  ) (
    X 14 [a0, a1] h_1 fun v29 h_2 =>
    X 17 [v29, a2, (.int .i64 10)] h_2 fun v33 h_3 =>
    X 16 [v29, v33, (.int .i64 0)] h_3 fun v34 h_4 =>
    X 17 [v29, a3, (.int .i64 10)] h_4 fun v38 h_5 =>
    X 16 [v29, v38, (.int .i64 1)] h_5 fun v39 h_6 =>
    X 32 [v29] h_6 fun v42 h_7 =>
    X 22 [v29, v42, (.int .i64 100)] h_7 fun v43 h_8 =>
    X 32 [v29] h_8 fun v46 h_9 =>
    X 22 [v29, v46, (.int .i64 100)] h_9 fun v47 h_10 =>
    X 32 [v29] h_10 fun v50 h_11 =>
    X 22 [v29, v50, (.int .i64 100)] h_11 fun v51 h_12 =>
    optW (pBin Try.prog .eql 40 v43 (.pointer none)) fun v53 =>
    gopW (gB v53 false) (fun k =>
      k v47 h_12) h_12 fun v55 h_13 =>
    gopW (gB v53 false) (fun k_1 =>
      optW (pBin Try.prog .eql 40 v55 (.pointer none)) fun v56_1 =>
      k_1 v56_1 h_13) h_13 fun v56 h_14 =>
    optW (pPick v53 (.bool true) v56) fun v57 =>
    gopW (gB v57 false) (fun k_2 =>
      k_2 v51 h_14) h_14 fun v59 h_15 =>
    gopW (gB v57 false) (fun k_3 =>
      optW (pBin Try.prog .eql 40 v59 (.pointer none)) fun v60_1 =>
      k_3 v60_1 h_15) h_15 fun v60 h_16 =>
    optW (pPick v57 (.bool true) v60) fun v61 =>
    condW v61 (
      K (.bool false) h_16
    ) (
      loopE (fun I e h_17 =>
        optW (lenStr (e 10)) fun v64 =>
        optW (pBin Try.prog .lss 3 (e 15) v64) fun v65 =>
        gopW (gB v65 false) (fun k_4 =>
          k_4 (e 15) h_17) h_17 fun v67 h_18 =>
        gopW (gB v65 false) (fun k_5 =>
          k_5 (e 11) h_18) h_18 fun v68 h_19 =>
        gopW (gB v65 false) (fun k_6 =>
          optW (lenStr v68) fun v69_1 =>
          k_6 v69_1 h_19) h_19 fun v69 h_20 =>
        gopW (gB v65 false) (fun k_7 =>
          optW (pBin Try.prog .lss 3 v67 v69) fun v70_1 =>
          k_7 v70_1 h_20) h_20 fun v70 h_21 =>
        optW (pPick v65 (.bool true) v70) fun v71 =>
        condW v71 (
          optW (lenStr (e 10)) fun v76 =>
          optW (pBin Try.prog .lss 3 (e 15) v76) fun v77 =>
          condW v77 (
            optW (pIdxStr (e 10) (e 15)) fun v81 =>
            optW (bldSl 1 [(.int .u8 0)] 1 [(0, v81)]) fun c =>
            newW none (.row c true) h_21 fun i h_22 =>
            X 23 [(e 12), (.slice (some ⟨i, 0, none⟩) 1 1)] h_22 fun v83 h_23 =>
            optW (lenStr (e 11)) fun v86 =>
            optW (pBin Try.prog .lss 3 (e 15) v86) fun v87 =>
            condW v87 (
              optW (pIdxStr (e 11) (e 15)) fun v91 =>
              optW (bldSl 1 [(.int .u8 0)] 1 [(0, v91)]) fun c_1 =>
              newW none (.row c_1 true) h_23 fun i_1 h_24 =>
              X 23 [(e 13), (.slice (some ⟨i_1, 0, none⟩) 1 1)] h_24 fun v93 h_25 =>
              optW (pBin Try.prog .add 3 (e 15) (.int .i64 1)) fun v73 =>
              I (pt (pt (pt (pt (pt (pt (pt (pt (pt (pt (pt (pt (pt (pt (pt (pt (pt (pt (pt (pt (pt (pt (pt (pt (pt (pt (pt (pt (pt (pt (pt (pt (pt e 62 (e 15)) 63 (e 10)) 64 v64) 65 v65) 66 v65) 67 v67) 68 v68) 69 v69) 70 v70) 71 v71) 74 (e 15)) 75 (e 10)) 76 v76) 77 v77) 78 (e 12)) 79 (e 10)) 80 (e 15)) 81 v81) 82 (.slice (some ⟨i, 0, none⟩) 1 1)) 83 v83) 84 (e 15)) 85 (e 11)) 86 v86) 87 v87) 88 (e 13)) 89 (e 11)) 90 (e 15)) 91 v91) 92 (.slice (some ⟨i_1, 0, none⟩) 1 1)) 93 v93) 72 (e 15)) 73 v73) 15 v73) h_25
            ) (
              optW (pBin Try.prog .add 3 (e 15) (.int .i64 1)) fun v73_1 =>
              I (pt (pt (pt (pt (pt (pt (pt (pt (pt (pt (pt (pt (pt (pt (pt (pt (pt (pt (pt (pt (pt (pt (pt (pt (pt (pt (pt e 62 (e 15)) 63 (e 10)) 64 v64) 65 v65) 66 v65) 67 v67) 68 v68) 69 v69) 70 v70) 71 v71) 74 (e 15)) 75 (e 10)) 76 v76) 77 v77) 78 (e 12)) 79 (e 10)) 80 (e 15)) 81 v81) 82 (.slice (some ⟨i, 0, none⟩) 1 1)) 83 v83) 84 (e 15)) 85 (e 11)) 86 v86) 87 v87) 72 (e 15)) 73 v73_1) 15 v73_1) h_23)
          ) (
            optW (lenStr (e 11)) fun v86_1 =>
            optW (pBin Try.prog .lss 3 (e 15) v86_1) fun v87_1 =>
            condW v87_1 (
              optW (pIdxStr (e 11) (e 15)) fun v91_1 =>
              optW (bldSl 1 [(.int .u8 0)] 1 [(0, v91_1)]) fun c_2 =>
              newW none (.row c_2 true) h_21 fun i_2 h_26 =>
              X 23 [(e 13), (.slice (some ⟨i_2, 0, none⟩) 1 1)] h_26 fun v93_1 h_27 =>
              optW (pBin Try.prog .add 3 (e 15) (.int .i64 1)) fun v73_2 =>
              I (pt (pt (pt (pt (pt (pt (pt (pt (pt (pt (pt (pt (pt (pt (pt (pt (pt (pt (pt (pt (pt (pt (pt (pt (pt (pt (pt e 62 (e 15)) 63 (e 10)) 64 v64) 65 v65) 66 v65) 67 v67) 68 v68) 69 v69) 70 v70) 71 v71) 74 (e 15)) 75 (e 10)) 76 v76) 77 v77) 84 (e 15)) 85 (e 11)) 86 v86_1) 87 v87_1) 88 (e 13)) 89 (e 11)) 90 (e 15)) 91 v91_1) 92 (.slice (some ⟨i_2, 0, none⟩) 1 1)) 93 v93_1) 72 (e 15)) 73 v73_2) 15 v73_2) h_27
            ) (
              optW (pBin Try.prog .add 3 (e 15) (.int .i64 1)) fun v73_3 =>
              I (pt (pt (pt (pt (pt (pt (pt (pt (pt (pt (pt (pt (pt (pt (pt (pt (pt (pt (pt (pt (pt e 62 (e 15)) 63 (e 10)) 64 v64) 65 v65) 66 v65) 67 v67) 68 v68) 69 v69) 70 v70) 71 v71) 74 (e 15)) 75 (e 10)) 76 v76) 77 v77) 84 (e 15)) 85 (e 11)) 86 v86_1) 87 v87_1) 72 (e 15)) 73 v73_3) 15 v73_3) h_21))
        ) (
          optW (bldSl 1 [(.int .u8 0)] 1 [(0, (.int .u8 63))]) fun c_3 =>
          newW none (.row c_3 true) h_21 fun i_3 h_28 =>
          convW Try.prog 45 45 (.slice (some ⟨i_3, 0, none⟩) 1 1) none h_28 fun v96 h_29 =>
          X 23 [(e 14), v96] h_29 fun v97 h_30 =>
          X 24 [(e 12)] h_30 fun v100 h_31 =>
          optW (pExtract v100 0) fun v101 =>
          optW (pExtract v100 1) fun v102 =>
          optW (pExtract v100 2) fun v103 =>
          X 24 [(e 13)] h_31 fun v106 h_32 =>
          optW (pExtract v106 0) fun v107 =>
          optW (pExtract v106 1) fun v108 =>
          optW (pExtract v106 2) fun v109 =>
          X 24 [(e 14)] h_32 fun v112 h_33 =>
          optW (pExtract v112 0) fun v113 =>
          optW (pExtract v112 1) fun v114 =>
          optW (pExtract v112 2) fun v115 =>
          gopW (gB v101 true) (fun k_8 =>
            k_8 v107 h_33) h_33 fun v118 h_34 =>
          optW (pPick v101 v118 (.bool false)) fun v119 =>
          gopW (gB v119 true) (fun k_9 =>
            k_9 v102 h_34) h_34 fun v121 h_35 =>
          gopW (gB v119 true) (fun k_10 =>
            optW (pBin Try.prog .eql 3 v121 (.int .i64 0)) fun v122_1 =>
            k_10 v122_1 h_35) h_35 fun v122 h_36 =>
          optW (pPick v119 v122 (.bool false)) fun v123 =>
          gopW (gB v123 true) (fun k_11 =>
            k_11 v108 h_36) h_36 fun v125 h_37 =>
          gopW (gB v123 true) (fun k_12 =>
            optW (pBin Try.prog .eql 3 v125 (.int .i64 0)) fun v126_1 =>
            k_12 v126_1 h_37) h_37 fun v126 h_38 =>
          optW (pPick v123 v126 (.bool false)) fun v127 =>
          gopW (gB v127 true) (fun k_13 =>
            k_13 v103 h_38) h_38 fun v129 h_39 =>
          gopW (gB v127 true) (fun k_14 =>
            optW (pBin Try.prog .eql 42 v129 (.int .i64 0)) fun v130_1 =>
            k_14 v130_1 h_39) h_39 fun v130 h_40 =>
          optW (pPick v127 v130 (.bool false)) fun v131 =>
          gopW (gB v131 true) (fun k_15 =>
            k_15 v109 h_40) h_40 fun v133 h_41 =>
          gopW (gB v131 true) (fun k_16 =>
            optW (pBin Try.prog .eql 42 v133 (.int .i64 0)) fun v134_1 =>
            k_16 v134_1 h_41) h_41 fun v134 h_42 =>
          optW (pPick v131 v134 (.bool false)) fun v135 =>
          gopW (gB v135 true) (fun k_17 =>
            k_17 v114 h_42) h_42 fun v137 h_43 =>
          gopW (gB v135 true) (fun k_18 =>
            optW (pBin Try.prog .eql 3 v137 (.int .i64 0)) fun v138_1 =>
            k_18 v138_1 h_43) h_43 fun v138 h_44 =>
          optW (pPick v135 v138 (.bool false)) fun v139 =>
          gopW (gB v139 true) (fun k_19 =>
            k_19 v115 h_44) h_44 fun v141 h_45 =>
          gopW (gB v139 true) (fun k_20 =>
            optW (pBin Try.prog .eql 42 v141 (.int .i64 12)) fun v142_1 =>
            k_20 v142_1 h_45) h_45 fun v142 h_46 =>
          optW (pPick v139 v142 (.bool false)) fun v143 =>
          K v143 h_46))
      (pt (pt (pt (pt (pt (pt (pt (pt (pt (pt (pt (pt (pt (pt (pt (pt (pt (pt (pt (pt (pt (pt (pt (pt (pt (pt (pt (pt (pt (pt (pt (pt (pt (pt (pt (pt (pt (pt (pt (pt (pt (pt (pt (pt (pt (envOf [a0, a1, a2, a3]) 8 (.bool false)) 25 v25) 26 v26) 27 a0) 28 a1) 29 v29) 9 v29) 30 v29) 31 v29) 32 a2) 33 v33) 34 v34) 35 v29) 36 v29) 37 a3) 38 v38) 39 v39) 10 v34) 11 v39) 40 v29) 41 v29) 42 v42) 43 v43) 44 v29) 45 v29) 46 v46) 47 v47) 48 v29) 49 v29) 50 v50) 51 v51) 12 v43) 13 v47) 14 v51) 52 v43) 53 v53) 54 v53) 55 v55) 56 v56) 57 v57) 58 v57) 59 v59) 60 v60) 61 v61) 15 (.int .i64 0)) h_16))
theorem e11 (X : CallT) (a0 a1 a2 a3 : Value) (h : AH) (K : Value → AH → Prop) : cwp2 Try.prog X (Try.f11.body.getD .skip) (endW Try.prog Try.f11 K) (envOf [a0, a1, a2, a3]) h = s11 X a0 a1 a2 a3 h K := by kernel_rfl
theorem c11 {a0 a1 a2 a3 : Value} {h : AH} {K : Value → AH → Prop} (hs : s11 (callW Try.prog) a0 a1 a2 a3 h K) : callW Try.prog 11 [a0, a1, a2, a3] h K := callW_of Try.func11 (by kernel_rfl) (Eq.mpr (e11 _ a0 a1 a2 a3 _ _) hs)

/-- canopy/canopylaw14.FeedOwn (I at e: live [3, 11, 12, 13], writes [8, 13, 14, 38, 39, 40, 41, 42, 43, 44, 45, 46, 47, 48, 49, 50, 51, 52, 53, 54, 55, 56, 57, 58, 59, 60, 61, 62, 63, 64, 65, 66, 67, 68]) -/
def s12 (X : CallT) (a0 a1 a2 a3 : Value) (h : AH) (K : Value → AH → Prop) : Prop :=
  X 13 [] h fun v21 h_1 =>
  optW (pUn .not v21) fun v22 =>
  condW v22 (
    K (.bool false) h_1
  ) (
    X 14 [a0, a1] h_1 fun v25 h_2 =>
    X 17 [v25, a2, (.int .i64 10)] h_2 fun v28 h_3 =>
    X 16 [v25, v28, (.int .i64 2)] h_3 fun v31 h_4 =>
    X 32 [v25] h_4 fun v34 h_5 =>
    X 22 [v25, v34, (.int .i64 100)] h_5 fun v35 h_6 =>
    optW (pBin Try.prog .eql 40 v35 (.pointer none)) fun v37 =>
    condW v37 (
      K (.bool false) h_6
    ) (
      loopE (fun I e h_7 =>
        optW (lenStr (e 11)) fun v40 =>
        optW (pBin Try.prog .lss 3 (e 13) v40) fun v41 =>
        condW v41 (
          optW (pIdxStr (e 11) (e 13)) fun v46 =>
          optW (bldSl 1 [(.int .u8 0)] 2 [(0, v46), (1, (e 3))]) fun c =>
          newW none (.row c true) h_7 fun i h_8 =>
          optW (pSliceSl 1 (.slice (some ⟨i, 0, none⟩) 2 2) none (some (.int .i64 1)) none) fun v51 =>
          X 23 [(e 12), v51] h_8 fun v52 h_9 =>
          optW (pIdxS 1 (.slice (some ⟨i, 0, none⟩) 2 2) (.int .i64 0)) fun v54 =>
          optW (rdRow false 1 v54 h_9) fun v55 =>
          optW (pIdxStr (e 11) (e 13)) fun v58 =>
          optW (pBin Try.prog .neq 5 v55 v58) fun v59 =>
          gopD (gB v59 false) (fun k =>
            k (.slice (some ⟨i, 0, none⟩) 2 2) h_9 [] ((2, (idOf v54)) :: [])) h_9 [] ((2, (idOf v54)) :: []) fun v61 h_10 H S =>
          gopD (gB v59 false) (fun k_1 =>
            optW (pIdxS 1 v61 (.int .i64 1)) fun v62_1 =>
            k_1 v62_1 h_10 H S) h_10 H S fun v62 h_11 H_1 S_1 =>
          gopD (gB v59 false) (fun k_2 =>
            histC #[0, 1, 3, 0, 0, 24, 63, 127, 255, 511, 1023, 255, 4095, 8191] 10 (idOf v62) H_1 (
              optW (rdRow false 1 v62 h_11) fun v63_1 =>
              k_2 v63_1 h_11 H_1 ((10, (idOf v62)) :: S_1))) h_11 H_1 S_1 fun v63 h_12 H_2 S_2 =>
          gopD (gB v59 false) (fun k_3 =>
            k_3 (e 3) h_12 H_2 S_2) h_12 H_2 S_2 fun v64 h_13 H_3 S_3 =>
          gopD (gB v59 false) (fun k_4 =>
            optW (pBin Try.prog .neq 5 v63 v64) fun v65_1 =>
            k_4 v65_1 h_13 H_3 S_3) h_13 H_3 S_3 fun v65 h_14 H_4 S_4 =>
          optW (pPick v59 (.bool true) v65) fun v66 =>
          condW v66 (
            K (.bool false) h_14
          ) (
            optW (pIdxS 1 (.slice (some ⟨i, 0, none⟩) 2 2) (.int .i64 0)) fun v68 =>
            optW (pStore 1 v68 (.int .u8 63) h_14) fun h_15 =>
            optW (pBin Try.prog .add 3 (e 13) (.int .i64 1)) fun v43 =>
            I (pt (pt (pt (pt (pt (pt (pt (pt (pt (pt (pt (pt (pt (pt (pt (pt (pt (pt (pt (pt (pt (pt (pt (pt (pt (pt (pt (pt (pt (pt (pt (pt (pt e 38 (e 13)) 39 (e 11)) 40 v40) 41 v41) 44 (e 11)) 45 (e 13)) 46 v46) 47 (e 3)) 48 (.slice (some ⟨i, 0, none⟩) 2 2)) 14 (.slice (some ⟨i, 0, none⟩) 2 2)) 49 (e 12)) 50 (.slice (some ⟨i, 0, none⟩) 2 2)) 51 v51) 52 v52) 53 (.slice (some ⟨i, 0, none⟩) 2 2)) 54 v54) 55 v55) 56 (e 11)) 57 (e 13)) 58 v58) 59 v59) 60 v59) 61 v61) 62 v62) 63 v63) 64 v64) 65 v65) 66 v66) 67 (.slice (some ⟨i, 0, none⟩) 2 2)) 68 v68) 42 (e 13)) 43 v43) 13 v43) h_15)
        ) (
          X 24 [(e 12)] h_7 fun v71 h_16 =>
          optW (pExtract v71 0) fun v72 =>
          optW (pExtract v71 1) fun v73 =>
          optW (pExtract v71 2) fun v74 =>
          X 28 [(e 9), (e 11)] h_16 fun v78 h_17 =>
          optW (pExtract v78 0) fun v79 =>
          optW (pExtract v78 1) fun v80 =>
          optW (pExtract v78 2) fun v81 =>
          gopW (gB v72 true) (fun k_5 =>
            k_5 v73 h_17) h_17 fun v84 h_18 =>
          gopW (gB v72 true) (fun k_6 =>
            optW (pBin Try.prog .eql 3 v84 (.int .i64 0)) fun v85_1 =>
            k_6 v85_1 h_18) h_18 fun v85 h_19 =>
          optW (pPick v72 v85 (.bool false)) fun v86 =>
          gopW (gB v86 true) (fun k_7 =>
            k_7 v74 h_19) h_19 fun v88 h_20 =>
          gopW (gB v86 true) (fun k_8 =>
            optW (pBin Try.prog .eql 42 v88 (.int .i64 0)) fun v89_1 =>
            k_8 v89_1 h_20) h_20 fun v89 h_21 =>
          optW (pPick v86 v89 (.bool false)) fun v90 =>
          gopW (gB v90 true) (fun k_9 =>
            k_9 v81 h_21) h_21 fun v92 h_22 =>
          gopW (gB v90 true) (fun k_10 =>
            optW (pBin Try.prog .eql 42 v92 (.int .i64 0)) fun v93_1 =>
            k_10 v93_1 h_22) h_22 fun v93 h_23 =>
          optW (pPick v90 v93 (.bool false)) fun v94 =>
          gopW (gB v94 true) (fun k_11 =>
            k_11 v79 h_23) h_23 fun v96 h_24 =>
          gopW (gB v94 true) (fun k_12 =>
            k_12 (e 10) h_24) h_24 fun v97 h_25 =>
          gopW (gB v94 true) (fun k_13 =>
            X 30 [v96, v97] h_25 fun v98_1 h_27 =>
            k_13 v98_1 h_27) h_25 fun v98 h_26 =>
          optW (pPick v94 v98 (.bool false)) fun v99 =>
          K v99 h_26))
      (pt (pt (pt (pt (pt (pt (pt (pt (pt (pt (pt (pt (pt (pt (pt (pt (pt (pt (pt (pt (pt (pt (pt (envOf [a0, a1, a2, a3]) 8 (.bool false)) 21 v21) 22 v22) 23 a0) 24 a1) 25 v25) 9 v25) 26 v25) 27 a2) 28 v28) 10 v28) 29 v25) 30 v28) 31 v31) 11 v31) 32 v25) 33 v25) 34 v34) 35 v35) 12 v35) 36 v35) 37 v37) 13 (.int .i64 0)) h_6))
theorem e12 (X : CallT) (a0 a1 a2 a3 : Value) (h : AH) (K : Value → AH → Prop) : cwp2 Try.prog X (Try.f12.body.getD .skip) (endW Try.prog Try.f12 K) (envOf [a0, a1, a2, a3]) h = s12 X a0 a1 a2 a3 h K := by kernel_rfl
theorem c12 {a0 a1 a2 a3 : Value} {h : AH} {K : Value → AH → Prop} (hs : s12 (callW Try.prog) a0 a1 a2 a3 h K) : callW Try.prog 12 [a0, a1, a2, a3] h K := callW_of Try.func12 (by kernel_rfl) (Eq.mpr (e12 _ a0 a1 a2 a3 _ _) hs)

end Go.Proofs.Ytebbjimmgblcpaa.W
