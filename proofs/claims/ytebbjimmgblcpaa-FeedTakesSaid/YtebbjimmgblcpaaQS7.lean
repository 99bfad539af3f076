/- Go functions, printed by a program as predicates on what may come behind; each is the function. Conditions: none. -/
import Derived.Test.YtebbjimmgblcpaaQA1
import Derived.Test.YtebbjimmgblcpaaProg
namespace Go.Proofs.Ytebbjimmgblcpaa.W
open Go Go.AM
set_option linter.unusedVariables false
set_option maxRecDepth 100000

/-- canopy/canopyref1.Find (I at e: live [0, 3, 5], writes [4, 5, 6, 7, 8, 9, 10, 11, 12, 13, 14, 15, 16, 17, 18]) -/
def s68 (X : CallT) (a0 a1 : Value) (h : AH) (K : Value → AH → Prop) : Prop :=
  aBox a1 none h fun v3 h_1 =>
  loopE (fun I e h_2 =>
    optW (lenSl (e 0)) fun v8 =>
    optW (pBin Try.prog .lss 3 (e 5) v8) fun v9 =>
    condW v9 (
      optW (pIdxS 2 (e 0) (e 5)) fun v14 =>
      optW (rdRow true 2 v14 h_2) fun v15 =>
      optW (rdRow true 2 (e 3) h_2) fun v16 =>
      optW (pBin Try.prog .eql 67 v15 v16) fun v17 =>
      condW v17 (
        K (e 5) h_2
      ) (
        optW (pBin Try.prog .add 3 (e 5) (.int .i64 1)) fun v11 =>
        I (pt (pt (pt (pt (pt (pt (pt (pt (pt (pt (pt (pt (pt e 6 (e 5)) 7 (e 0)) 8 v8) 9 v9) 12 (e 0)) 13 (e 5)) 14 v14) 15 v15) 16 v16) 17 v17) 10 (e 5)) 11 v11) 5 v11) h_2)
    ) (
      K (.int .i64 (-1)) h_2))
  (pt (pt (pt (envOf [a0, a1]) 3 v3) 4 (.int .i64 0)) 5 (.int .i64 0)) h_1
theorem e68 (X : CallT) (a0 a1 : Value) (h : AH) (K : Value → AH → Prop) : cwp2 Try.prog X (Try.f68.body.getD .skip) (endW Try.prog Try.f68 K) (envOf [a0, a1]) h = s68 X a0 a1 h K := by kernel_rfl
theorem c68 {a0 a1 : Value} {h : AH} {K : Value → AH → Prop} (hs : s68 (callW Try.prog) a0 a1 h K) : callW Try.prog 68 [a0, a1] h K := callW_of Try.func68 (by kernel_rfl) (Eq.mpr (e68 _ a0 a1 _ _) hs)

/-- slices.Index[[]canopy/api.Sym,canopy/api.Sym] (I at e: live [0, 3, 7, 8], writes [4, 5, 8, 9, 10, 11, 12, 13, 14, 15, 16, 17, 18]) -/
def s69 (X : CallT) (a0 a1 : Value) (h : AH) (K : Value → AH → Prop) : Prop :=
  aBox a1 none h fun v3 h_1 =>
  optW (lenSl a0) fun v7 =>
  loopE (fun I e h_2 =>
    optW (pBin Try.prog .lss 3 (e 8) (e 7)) fun v9 =>
    condW v9 (
      optW (rdRow true 2 (e 3) h_2) fun v11 =>
      optW (pIdxS 2 (e 0) (e 8)) fun v14 =>
      optW (rdRow true 2 v14 h_2) fun v15 =>
      optW (pBin Try.prog .eql 67 v11 v15) fun v16 =>
      condW v16 (
        K (e 8) h_2
      ) (
        optW (pBin Try.prog .add 3 (e 8) (.int .i64 1)) fun v18 =>
        I (pt (pt (pt (pt (pt (pt (pt (pt (pt (pt (pt e 9 v9) 10 (e 8)) 5 (e 8)) 11 v11) 12 (e 0)) 13 (e 8)) 14 v14) 15 v15) 16 v16) 18 v18) 8 v18) h_2)
    ) (
      K (.int .i64 (-1)) h_2))
  (pt (pt (pt (pt (pt (envOf [a0, a1]) 3 v3) 4 (.int .i64 0)) 6 a0) 7 v7) 8 (.int .i64 0)) h_1
theorem e69 (X : CallT) (a0 a1 : Value) (h : AH) (K : Value → AH → Prop) : cwp2 Try.prog X (Try.f69.body.getD .skip) (endW Try.prog Try.f69 K) (envOf [a0, a1]) h = s69 X a0 a1 h K := by kernel_rfl
theorem c69 {a0 a1 : Value} {h : AH} {K : Value → AH → Prop} (hs : s69 (callW Try.prog) a0 a1 h K) : callW Try.prog 69 [a0, a1] h K := callW_of Try.func69 (by kernel_rfl) (Eq.mpr (e69 _ a0 a1 _ _) hs)

/-- (*canopy/feed.run).open (I at e: live [0, 1, 4, 16], writes [5, 7, 17, 18, 19, 20, 21, 22, 23, 24, 25, 26, 27, 28, 29, 30, 31, 32, 33, 34, 35, 36, 37, 38, 39, 40, 41, 42, 43, 44, 45, 46, 47, 48, 49]; I_1 at e_1: live [1, 4, 5, 25, 26, 27], writes [7, 27, 28, 29, 30, 31, 32, 33, 34, 35, 36, 37, 38, 39, 40, 41, 42, 43, 44, 45, 46, 47, 48, 49]) -/
def s70 (X : CallT) (a0 a1 : Value) (h : AH) (K : Value → AH → Prop) : Prop :=
  newW none (.map [] 0) h fun i h_1 =>
  optW (bld [(.map none), (.int .i64 0)] [(0, 1), (1, 1)] [(0, (.map (some i))), (1, a1)]) fun v10 =>
  newR none [(.map none), (.int .i64 0)] h_1 fun v4 h_2 =>
  optW (pStore 2 v4 v10 h_2) fun h_3 =>
  optW (pNilCheck a0) fun v12 =>
  optW (pOff 7 v12) fun v13 =>
  optW (pOff 0 v13) fun v14 =>
  optW (rdRow false 1 v14 h_3) fun v15 =>
  aRange Try.prog 88 v15 none h_3 fun v16 h_4 =>
  loopE (fun I e h_5 =>
    aNext (e 16) false h_5 fun v17 h_6 =>
    optW (pExtract v17 0) fun v18 =>
    condW v18 (
      optW (pEntry (e 16) h_6) fun v19 =>
      optW (pExtract v19 0) fun v20 =>
      newR none [(.int .i64 0), (.int .i64 0)] h_6 fun v5 h_7 =>
      optW (pStore 2 v5 v20 h_7) fun h_8 =>
      optW (pNilCheck (e 0)) fun v22 =>
      optW (pOff 0 v22) fun v23 =>
      optW (pOff 4 v23) fun v24 =>
      optW (rdRow false 1 v24 h_8) fun v25 =>
      optW (lenSl v25) fun v26 =>
      loopE (fun I_1 e_1 h_9 =>
        optW (pBin Try.prog .lss 3 (e_1 27) (e_1 26)) fun v28 =>
        condW v28 (
          optW (pIdxS 4 (e_1 25) (e_1 27)) fun v29 =>
          optW (rdRow true 4 v29 h_9) fun v30 =>
          newR none [(.int .i64 0), (.int .i64 0), (.int .i64 0), (.int .i64 0)] h_9 fun v7 h_10 =>
          optW (pStore 4 v7 v30 h_10) fun h_11 =>
          optW (pOff 0 v7) fun v31 =>
          optW (rdRow false 1 v31 h_11) fun v32 =>
          optW (pOff 1 (e_1 5)) fun v33 =>
          optW (rdRow false 1 v33 h_11) fun v34 =>
          optW (pBin Try.prog .eql 3 v32 v34) fun v35 =>
          gopW (gB v35 true) (fun k =>
            optW (pOff 1 v7) fun v37_1 =>
            k v37_1 h_11) h_11 fun v37 h_12 =>
          gopW (gB v35 true) (fun k_1 =>
            optW (rdRow false 1 v37 h_12) fun v38_1 =>
            k_1 v38_1 h_12) h_12 fun v38 h_13 =>
          gopW (gB v35 true) (fun k_2 =>
            k_2 (e_1 1) h_13) h_13 fun v39 h_14 =>
          gopW (gB v35 true) (fun k_3 =>
            optW (pBin Try.prog .eql 3 v38 v39) fun v40_1 =>
            k_3 v40_1 h_14) h_14 fun v40 h_15 =>
          optW (pPick v35 v40 (.bool false)) fun v41 =>
          condW v41 (
            optW (pOff 0 (e_1 4)) fun v42 =>
            optW (rdRow false 1 v42 h_15) fun v43 =>
            optW (pOff 2 v7) fun v44 =>
            optW (rdRow false 1 v44 h_15) fun v45 =>
            optW (pOff 2 v7) fun v46 =>
            optW (rdRow false 1 v46 h_15) fun v47 =>
            optW (bld [(.int .i64 0), (.int .i64 0)] [(0, 1), (1, 1)] [(0, v45), (1, v47)]) fun v48 =>
            optW (pMapUpd Try.prog 88 v43 v48 (.int .i64 1) h_15) fun h_16 =>
            optW (pBin Try.prog .add 3 (e_1 27) (.int .i64 1)) fun v49 =>
            I_1 (pt (pt (pt (pt (pt (pt (pt (pt (pt (pt (pt (pt (pt (pt (pt (pt (pt (pt (pt (pt (pt (pt (pt (pt e_1 28 v28) 29 v29) 30 v30) 7 v7) 31 v31) 32 v32) 33 v33) 34 v34) 35 v35) 36 v35) 37 v37) 38 v38) 39 v39) 40 v40) 41 v41) 42 v42) 43 v43) 44 v44) 45 v45) 46 v46) 47 v47) 48 v48) 49 v49) 27 v49) h_16
          ) (
            optW (pBin Try.prog .add 3 (e_1 27) (.int .i64 1)) fun v49_1 =>
            I_1 (pt (pt (pt (pt (pt (pt (pt (pt (pt (pt (pt (pt (pt (pt (pt (pt (pt e_1 28 v28) 29 v29) 30 v30) 7 v7) 31 v31) 32 v32) 33 v33) 34 v34) 35 v35) 36 v35) 37 v37) 38 v38) 39 v39) 40 v40) 41 v41) 49 v49_1) 27 v49_1) h_15)
        ) (
          I (pt e_1 28 v28) h_9))
      (pt (pt (pt (pt (pt (pt (pt (pt (pt (pt (pt (pt e 17 v17) 18 v18) 19 v19) 20 v20) 5 v5) 21 (e 0)) 22 v22) 23 v23) 24 v24) 25 v25) 26 v26) 27 (.int .i64 0)) h_8
    ) (
      optW (pNilCheck (e 0)) fun v53 =>
      optW (pOff 9 v53) fun v54 =>
      optW (rdRow false 1 v54 (reserve 1 h_6)) fun v55 =>
      optW (pNilCheck (e 0)) fun v57 =>
      optW (pOff 7 v57) fun v58 =>
      optW (rdRow true 2 v58 (reserve 1 h_6)) fun v59 =>
      optW (bldSl 2 [(.map none), (.int .i64 0)] 1 [(0, v59)]) fun c =>
      newW (some (h_6.length)) (.row c true) (reserve 1 h_6) fun i_1 h_17 =>
      appSl 2 v55 (.slice (some ⟨i_1, 0, none⟩) 1 1) h_17 fun v61 h_18 =>
      (∀ x ∈ (idOf (e 4)), (h_17 : AH)[x]? = (h_18 : AH)[x]?) ∧
      (∀ x ∈ (idOf (e 4)), ((reserve 1 h_6) : AH)[x]? = (h_17 : AH)[x]?) ∧
      optW (rdRow true 2 (e 4) h_18) fun v62 =>
      optW (pNilCheck (e 0)) fun v63 =>
      optW (pOff 9 v63) fun v64 =>
      optW (pStore 1 v64 v61 h_18) fun h_19 =>
      (∀ x ∈ (idOf (e 4)), (h_18 : AH)[x]? = (h_19 : AH)[x]?) ∧
      optW (pNilCheck (e 0)) fun v65 =>
      optW (pOff 7 v65) fun v66 =>
      optW (pStore 2 v66 v62 h_19) fun h_20 =>
      K (.tuple #[]) h_20))
  (pt (pt (pt (pt (pt (pt (pt (pt (pt (pt (envOf [a0, a1]) 8 (.map (some i))) 9 a1) 10 v10) 4 v4) 11 a0) 12 v12) 13 v13) 14 v14) 15 v15) 16 v16) h_4
theorem e70 (X : CallT) (a0 a1 : Value) (h : AH) (K : Value → AH → Prop) : cwp2 Try.prog X (Try.f70.body.getD .skip) (endW Try.prog Try.f70 K) (envOf [a0, a1]) h = s70 X a0 a1 h K := by kernel_rfl
theorem c70 {a0 a1 : Value} {h : AH} {K : Value → AH → Prop} (hs : s70 (callW Try.prog) a0 a1 h K) : callW Try.prog 70 [a0, a1] h K := callW_of Try.func70 (by kernel_rfl) (Eq.mpr (e70 _ a0 a1 _ _) hs)

/-- (*canopy/feed.run).close (I at e: live [5, 54], writes [6, 55, 56, 57, 58, 59, 60, 61, 62, 63, 64, 65, 66, 67, 68, 69]; I_1 at e_1: live [0, 1, 5, 7, 76], writes [8, 10, 12, 77, 78, 79, 80, 81, 82, 83, 84, 85, 86, 87, 88, 89, 90, 91, 92, 93, 94, 95, 96, 97, 98, 99, 100, 101, 102, 103, 104, 105, 106, 107, 108, 109, 110, 111, 112, 113, 114, 115, 116, 117, 118, 119, 120, 121, 122, 123, 124, 125, 126, 127, 128, 129, 130, 131, 132, 133, 134, 135, 136, 137, 138, 139, 140, 141, 142, 143, 144, 145, 146, 147, 148, 149, 150, 151, 152]; I_2 at e_2: live [0, 1, 5, 7, 8, 85, 86, 87], writes [10, 12, 87, 88, 89, 90, 91, 92, 93, 94, 95, 96, 97, 98, 99, 100, 101, 102, 103, 104, 105, 106, 107, 108, 109, 110, 111, 112, 113, 114, 115, 116, 117, 118, 119, 120, 121, 122, 123, 124, 125, 126, 127, 128, 129, 130, 131, 132, 133, 134, 135, 136, 137, 138, 139, 140, 141, 142, 143, 144, 145, 146, 147, 148, 149, 150, 151, 152]; I_3 at e_3: live [1, 5, 7, 8, 10, 118, 119, 120], writes [12, 120, 121, 122, 123, 124, 125, 126, 127, 128, 129, 130, 131, 132, 133, 134, 135, 136, 137, 138, 139, 140, 141, 142, 143, 144, 145, 146, 147, 148, 149, 150, 151]) -/
def s71 (X : CallT) (a0 a1 : Value) (h : AH) (K : Value → AH → Prop) : Prop :=
  optW (pNilCheck a0) fun v14 =>
  optW (pOff 9 v14) fun v15 =>
  optW (rdRow false 1 v15 h) fun v16 =>
  optW (lenSl v16) fun v17 =>
  optW (pBin Try.prog .eql 3 v17 (.int .i64 0)) fun v18 =>
  condW v18 (
    X 75 [a0, a1] h fun v21 h_1 =>
    K (.tuple #[]) h_1
  ) (
    optW (pNilCheck a0) fun v23 =>
    optW (pOff 9 v23) fun v24 =>
    optW (rdRow false 1 v24 (reserve 1 h)) fun v25 =>
    optW (pNilCheck a0) fun v27 =>
    optW (pOff 9 v27) fun v28 =>
    optW (rdRow false 1 v28 (reserve 1 h)) fun v29 =>
    optW (lenSl v29) fun v30 =>
    optW (pBin Try.prog .sub 3 v30 (.int .i64 1)) fun v31 =>
    optW (pIdxS 2 v25 v31) fun v32 =>
    optW (rdRow true 2 v32 (reserve 1 h)) fun v33 =>
    newR (some (h.length)) [(.map none), (.int .i64 0)] (reserve 1 h) fun v4 h_2 =>
    optW (pStore 2 v4 v33 h_2) fun h_3 =>
    optW (pNilCheck a0) fun v36 =>
    optW (pOff 9 v36) fun v37 =>
    optW (rdRow false 1 v37 h_3) fun v38 =>
    optW (pNilCheck a0) fun v40 =>
    optW (pOff 9 v40) fun v41 =>
    optW (rdRow false 1 v41 h_3) fun v42 =>
    optW (lenSl v42) fun v43 =>
    optW (pBin Try.prog .sub 3 v43 (.int .i64 1)) fun v44 =>
    optW (pSliceSl 2 v38 none (some v44) none) fun v45 =>
    optW (pNilCheck a0) fun v46 =>
    optW (pOff 9 v46) fun v47 =>
    optW (pStore 1 v47 v45 h_3) fun h_4 =>
    newW none (.map [] 0) h_4 fun i h_5 =>
    optW (pNilCheck a0) fun v50 =>
    optW (pOff 7 v50) fun v51 =>
    optW (pOff 0 v51) fun v52 =>
    optW (rdRow false 1 v52 h_5) fun v53 =>
    aRange Try.prog 88 v53 none h_5 fun v54 h_6 =>
    loopE (fun I e h_7 =>
      aNext (e 54) false h_7 fun v55 h_8 =>
      optW (pExtract v55 0) fun v56 =>
      condW v56 (
        optW (pEntry (e 54) h_8) fun v57 =>
        optW (pExtract v57 0) fun v58 =>
        newR none [(.int .i64 0), (.int .i64 0)] h_8 fun v6 h_9 =>
        optW (pStore 2 v6 v58 h_9) fun h_10 =>
        optW (pOff 0 v6) fun v60 =>
        optW (rdRow false 1 v60 (reserve 1 h_10)) fun v61 =>
        optW (pOff 0 v6) fun v63 =>
        optW (rdRow false 1 v63 (reserve 1 h_10)) fun v64 =>
        optW (pLookup Try.prog 125 (e 5) v64 false (reserve 1 h_10)) fun v65 =>
        optW (pOff 1 v6) fun v66 =>
        optW (rdRow false 1 v66 (reserve 1 h_10)) fun v67 =>
        optW (bldSl 1 [(.int .i64 0)] 1 [(0, v67)]) fun c =>
        newW (some (h_10.length)) (.row c true) (reserve 1 h_10) fun i_1 h_11 =>
        appSl 1 v65 (.slice (some ⟨i_1, 0, none⟩) 1 1) h_11 fun v69 h_12 =>
        (∀ x ∈ (idOf v60), (h_11 : AH)[x]? = (h_12 : AH)[x]?) ∧
        optW (pMapUpd Try.prog 125 (e 5) v61 v69 h_12) fun h_13 =>
        I (pt (pt (pt (pt (pt (pt (pt (pt (pt (pt (pt (pt (pt (pt (pt (pt e 55 v55) 56 v56) 57 v57) 58 v58) 6 v6) 59 (e 5)) 60 v60) 61 v61) 62 (e 5)) 63 v63) 64 v64) 65 v65) 66 v66) 67 v67) 68 (.slice (some ⟨i_1, 0, none⟩) 1 1)) 69 v69) h_13
      ) (
        newW none (.map [] 0) h_8 fun i_2 h_14 =>
        optW (pOff 1 (e 4)) fun v71 =>
        optW (rdRow false 1 v71 h_14) fun v72 =>
        optW (bld [(.map none), (.int .i64 0)] [(0, 1), (1, 1)] [(0, (.map (some i_2))), (1, v72)]) fun v73 =>
        newR none [(.map none), (.int .i64 0)] h_14 fun v7 h_15 =>
        optW (pStore 2 v7 v73 h_15) fun h_16 =>
        optW (pOff 0 (e 4)) fun v74 =>
        optW (rdRow false 1 v74 h_16) fun v75 =>
        aRange Try.prog 88 v75 none h_16 fun v76 h_17 =>
        loopE (fun I_1 e_1 h_18 =>
          aNext (e_1 76) false h_18 fun v77 h_19 =>
          optW (pExtract v77 0) fun v78 =>
          condW v78 (
            optW (pEntry (e_1 76) h_19) fun v79 =>
            optW (pExtract v79 0) fun v80 =>
            newR none [(.int .i64 0), (.int .i64 0)] h_19 fun v8 h_20 =>
            optW (pStore 2 v8 v80 h_20) fun h_21 =>
            optW (pNilCheck (e_1 0)) fun v82 =>
            optW (pOff 0 v82) fun v83 =>
            optW (pOff 4 v83) fun v84 =>
            optW (rdRow false 1 v84 h_21) fun v85 =>
            optW (lenSl v85) fun v86 =>
            loopE (fun I_2 e_2 h_22 =>
              optW (pBin Try.prog .lss 3 (e_2 87) (e_2 86)) fun v88 =>
              condW v88 (
                optW (pIdxS 4 (e_2 85) (e_2 87)) fun v89 =>
                optW (rdRow true 4 v89 h_22) fun v90 =>
                newR none [(.int .i64 0), (.int .i64 0), (.int .i64 0), (.int .i64 0)] h_22 fun v10 h_23 =>
                optW (pStore 4 v10 v90 h_23) fun h_24 =>
                optW (pOff 0 v10) fun v91 =>
                optW (rdRow false 1 v91 h_24) fun v92 =>
                optW (pOff 1 (e_2 8)) fun v93 =>
                optW (rdRow false 1 v93 h_24) fun v94 =>
                optW (pBin Try.prog .neq 3 v92 v94) fun v95 =>
                gopD (gB v95 false) (fun k =>
                  optW (pOff 1 v10) fun v97_1 =>
                  k v97_1 h_24 [] ((3, (idOf v93)) :: ((1, (idOf v91)) :: []))) h_24 [] ((3, (idOf v93)) :: ((1, (idOf v91)) :: [])) fun v97 h_25 H S =>
                gopD (gB v95 false) (fun k_1 =>
                  histC #[0, 1, 0, 4, 15, 31, 63, 127, 63, 319, 831, 1855, 3903, 8191, 16383, 32767, 65535, 65535, 196607, 524287, 1048575, 2097151, 4194303] 7 (idOf v97) H (
                    optW (rdRow false 1 v97 h_25) fun v98_1 =>
                    k_1 v98_1 h_25 H ((7, (idOf v97)) :: S))) h_25 H S fun v98 h_26 H_1 S_1 =>
                gopD (gB v95 false) (fun k_2 =>
                  k_2 (e_2 0) h_26 H_1 S_1) h_26 H_1 S_1 fun v99 h_27 H_2 S_2 =>
                gopD (gB v95 false) (fun k_3 =>
                  optW (pNilCheck v99) fun v100_1 =>
                  k_3 v100_1 h_27 H_2 S_2) h_27 H_2 S_2 fun v100 h_28 H_3 S_3 =>
                gopD (gB v95 false) (fun k_4 =>
                  optW (pOff 7 v100) fun v101_1 =>
                  k_4 v101_1 h_28 H_3 S_3) h_28 H_3 S_3 fun v101 h_29 H_4 S_4 =>
                gopD (gB v95 false) (fun k_5 =>
                  optW (pOff 1 v101) fun v102_1 =>
                  k_5 v102_1 h_29 H_4 S_4) h_29 H_4 S_4 fun v102 h_30 H_5 S_5 =>
                gopD (gB v95 false) (fun k_6 =>
                  histC #[0, 1, 0, 4, 15, 31, 63, 127, 63, 319, 831, 1855, 3903, 8191, 16383, 32767, 65535, 65535, 196607, 524287, 1048575, 2097151, 4194303] 12 (idOf v102) H_5 (
                    optW (rdRow false 1 v102 h_30) fun v103_1 =>
                    k_6 v103_1 h_30 H_5 ((12, (idOf v102)) :: S_5))) h_30 H_5 S_5 fun v103 h_31 H_6 S_6 =>
                gopD (gB v95 false) (fun k_7 =>
                  optW (pBin Try.prog .neq 3 v98 v103) fun v104_1 =>
                  k_7 v104_1 h_31 H_6 S_6) h_31 H_6 S_6 fun v104 h_32 H_7 S_7 =>
                optW (pPick v95 (.bool true) v104) fun v105 =>
                gopD (gB v105 false) (fun k_8 =>
                  k_8 (e_2 5) h_32 H_7 S_7) h_32 H_7 S_7 fun v107 h_33 H_8 S_8 =>
                gopD (gB v105 false) (fun k_9 =>
                  optW (pOff 2 v10) fun v108_1 =>
                  k_9 v108_1 h_33 H_8 S_8) h_33 H_8 S_8 fun v108 h_34 H_9 S_9 =>
                gopD (gB v105 false) (fun k_10 =>
                  histC #[0, 1, 0, 4, 15, 31, 63, 127, 63, 319, 831, 1855, 3903, 8191, 16383, 32767, 65535, 65535, 196607, 524287, 1048575, 2097151, 4194303] 18 (idOf v108) H_9 (
                    optW (rdRow false 1 v108 h_34) fun v109_1 =>
                    k_10 v109_1 h_34 H_9 ((18, (idOf v108)) :: S_9))) h_34 H_9 S_9 fun v109 h_35 H_10 S_10 =>
                gopD (gB v105 false) (fun k_11 =>
                  histC #[0, 1, 0, 4, 15, 31, 63, 127, 63, 319, 831, 1855, 3903, 8191, 16383, 32767, 65535, 65535, 196607, 524287, 1048575, 2097151, 4194303] 19 (idOf v107) H_10 (
                    optW (pLookup Try.prog 125 v107 v109 false h_35) fun v110_1 =>
                    k_11 v110_1 h_35 H_10 ((19, (idOf v107)) :: S_10))) h_35 H_10 S_10 fun v110 h_36 H_11 S_11 =>
                gopD (gB v105 false) (fun k_12 =>
                  optW (lenSl v110) fun v111_1 =>
                  k_12 v111_1 h_36 H_11 S_11) h_36 H_11 S_11 fun v111 h_37 H_12 S_12 =>
                gopD (gB v105 false) (fun k_13 =>
                  optW (pBin Try.prog .eql 3 v111 (.int .i64 0)) fun v112_1 =>
                  k_13 v112_1 h_37 H_12 S_12) h_37 H_12 S_12 fun v112 h_38 H_13 S_13 =>
                optW (pPick v105 (.bool true) v112) fun v113 =>
                condW v113 (
                  optW (pBin Try.prog .add 3 (e_2 87) (.int .i64 1)) fun v152 =>
                  I_2 (pt (pt (pt (pt (pt (pt (pt (pt (pt (pt (pt (pt (pt (pt (pt (pt (pt (pt (pt (pt (pt (pt (pt (pt (pt (pt (pt (pt (pt e_2 88 v88) 89 v89) 90 v90) 10 v10) 91 v91) 92 v92) 93 v93) 94 v94) 95 v95) 96 v95) 97 v97) 98 v98) 99 v99) 100 v100) 101 v101) 102 v102) 103 v103) 104 v104) 105 v105) 106 v105) 107 v107) 108 v108) 109 v109) 110 v110) 111 v111) 112 v112) 113 v113) 152 v152) 87 v152) h_38
                ) (
                  optW (pNilCheck (e_2 0)) fun v115 =>
                  optW (pOff 0 v115) fun v116 =>
                  optW (pOff 5 v116) fun v117 =>
                  optW (rdRow false 1 v117 h_38) fun v118 =>
                  optW (lenSl v118) fun v119 =>
                  loopE (fun I_3 e_3 h_39 =>
                    optW (pBin Try.prog .lss 3 (e_3 120) (e_3 119)) fun v121 =>
                    condW v121 (
                      optW (pIdxS 4 (e_3 118) (e_3 120)) fun v122 =>
                      optW (rdRow true 4 v122 h_39) fun v123 =>
                      newR none [(.int .i64 0), (.int .i64 0), (.int .i64 0), (.int .i64 0)] h_39 fun v12 h_40 =>
                      optW (pStore 4 v12 v123 h_40) fun h_41 =>
                      optW (pOff 1 v12) fun v124 =>
                      optW (rdRow false 1 v124 h_41) fun v125 =>
                      optW (pBin Try.prog .eql 3 v125 (e_3 1)) fun v127 =>
                      gopW (gB v127 true) (fun k_14 =>
                        optW (pOff 2 v12) fun v129_1 =>
                        k_14 v129_1 h_41) h_41 fun v129 h_42 =>
                      gopW (gB v127 true) (fun k_15 =>
                        optW (rdRow false 1 v129 h_42) fun v130_1 =>
                        k_15 v130_1 h_42) h_42 fun v130 h_43 =>
                      gopW (gB v127 true) (fun k_16 =>
                        optW (pOff 3 (e_3 10)) fun v131_1 =>
                        k_16 v131_1 h_43) h_43 fun v131 h_44 =>
                      gopW (gB v127 true) (fun k_17 =>
                        optW (rdRow false 1 v131 h_44) fun v132_1 =>
                        k_17 v132_1 h_44) h_44 fun v132 h_45 =>
                      gopW (gB v127 true) (fun k_18 =>
                        optW (pBin Try.prog .eql 3 v130 v132) fun v133_1 =>
                        k_18 v133_1 h_45) h_45 fun v133 h_46 =>
                      optW (pPick v127 v133 (.bool false)) fun v134 =>
                      gopW (gB v134 true) (fun k_19 =>
                        k_19 (e_3 5) h_46) h_46 fun v136 h_47 =>
                      gopW (gB v134 true) (fun k_20 =>
                        optW (pOff 2 (e_3 10)) fun v137_1 =>
                        k_20 v137_1 h_47) h_47 fun v137 h_48 =>
                      gopW (gB v134 true) (fun k_21 =>
                        optW (rdRow false 1 v137 h_48) fun v138_1 =>
                        k_21 v138_1 h_48) h_48 fun v138 h_49 =>
                      gopW (gB v134 true) (fun k_22 =>
                        optW (pLookup Try.prog 125 v136 v138 false h_49) fun v139_1 =>
                        k_22 v139_1 h_49) h_49 fun v139 h_50 =>
                      gopW (gB v134 true) (fun k_23 =>
                        optW (pOff 0 v12) fun v140_1 =>
                        k_23 v140_1 h_50) h_50 fun v140 h_51 =>
                      gopW (gB v134 true) (fun k_24 =>
                        optW (rdRow false 1 v140 h_51) fun v141_1 =>
                        k_24 v141_1 h_51) h_51 fun v141 h_52 =>
                      gopW (gB v134 true) (fun k_25 =>
                        X 65 [v139, v141] h_52 fun v142_1 h_54 =>
                        k_25 v142_1 h_54) h_52 fun v142 h_53 =>
                      optW (pPick v134 v142 (.bool false)) fun v143 =>
                      condW v143 (
                        optW (pOff 0 (e_3 7)) fun v144 =>
                        optW (rdRow false 1 v144 h_53) fun v145 =>
                        optW (pOff 0 (e_3 8)) fun v146 =>
                        optW (rdRow false 1 v146 h_53) fun v147 =>
                        optW (pOff 3 v12) fun v148 =>
                        optW (rdRow false 1 v148 h_53) fun v149 =>
                        optW (bld [(.int .i64 0), (.int .i64 0)] [(0, 1), (1, 1)] [(0, v147), (1, v149)]) fun v150 =>
                        optW (pMapUpd Try.prog 88 v145 v150 (.int .i64 1) h_53) fun h_55 =>
                        optW (pBin Try.prog .add 3 (e_3 120) (.int .i64 1)) fun v151 =>
                        I_3 (pt (pt (pt (pt (pt (pt (pt (pt (pt (pt (pt (pt (pt (pt (pt (pt (pt (pt (pt (pt (pt (pt (pt (pt (pt (pt (pt (pt (pt (pt (pt (pt (pt e_3 121 v121) 122 v122) 123 v123) 12 v12) 124 v124) 125 v125) 126 (e_3 1)) 127 v127) 128 v127) 129 v129) 130 v130) 131 v131) 132 v132) 133 v133) 134 v134) 135 v134) 136 v136) 137 v137) 138 v138) 139 v139) 140 v140) 141 v141) 142 v142) 143 v143) 144 v144) 145 v145) 146 v146) 147 v147) 148 v148) 149 v149) 150 v150) 151 v151) 120 v151) h_55
                      ) (
                        optW (pBin Try.prog .add 3 (e_3 120) (.int .i64 1)) fun v151_1 =>
                        I_3 (pt (pt (pt (pt (pt (pt (pt (pt (pt (pt (pt (pt (pt (pt (pt (pt (pt (pt (pt (pt (pt (pt (pt (pt (pt (pt e_3 121 v121) 122 v122) 123 v123) 12 v12) 124 v124) 125 v125) 126 (e_3 1)) 127 v127) 128 v127) 129 v129) 130 v130) 131 v131) 132 v132) 133 v133) 134 v134) 135 v134) 136 v136) 137 v137) 138 v138) 139 v139) 140 v140) 141 v141) 142 v142) 143 v143) 151 v151_1) 120 v151_1) h_53)
                    ) (
                      optW (pBin Try.prog .add 3 (e_3 87) (.int .i64 1)) fun v152_1 =>
                      I_2 (pt (pt (pt e_3 121 v121) 152 v152_1) 87 v152_1) h_39))
                  (pt (pt (pt (pt (pt (pt (pt (pt (pt (pt (pt (pt (pt (pt (pt (pt (pt (pt (pt (pt (pt (pt (pt (pt (pt (pt (pt (pt (pt (pt (pt (pt (pt (pt e_2 88 v88) 89 v89) 90 v90) 10 v10) 91 v91) 92 v92) 93 v93) 94 v94) 95 v95) 96 v95) 97 v97) 98 v98) 99 v99) 100 v100) 101 v101) 102 v102) 103 v103) 104 v104) 105 v105) 106 v105) 107 v107) 108 v108) 109 v109) 110 v110) 111 v111) 112 v112) 113 v113) 114 (e_2 0)) 115 v115) 116 v116) 117 v117) 118 v118) 119 v119) 120 (.int .i64 0)) h_38)
              ) (
                I_1 (pt e_2 88 v88) h_22))
            (pt (pt (pt (pt (pt (pt (pt (pt (pt (pt (pt (pt e_1 77 v77) 78 v78) 79 v79) 80 v80) 8 v8) 81 (e_1 0)) 82 v82) 83 v83) 84 v84) 85 v85) 86 v86) 87 (.int .i64 0)) h_21
          ) (
            optW (rdRow true 2 (e_1 7) h_19) fun v154 =>
            optW (pNilCheck (e_1 0)) fun v155 =>
            optW (pOff 7 v155) fun v156 =>
            optW (pStore 2 v156 v154 h_19) fun h_56 =>
            K (.tuple #[]) h_56))
        (pt (pt (pt (pt (pt (pt (pt (pt (pt (pt e 55 v55) 56 v56) 70 (.map (some i_2))) 71 v71) 72 v72) 73 v73) 7 v7) 74 v74) 75 v75) 76 v76) h_17))
    (pt (pt (pt (pt (pt (pt (pt (pt (pt (pt (pt (pt (pt (pt (pt (pt (pt (pt (pt (pt (pt (pt (pt (pt (pt (pt (pt (pt (pt (pt (pt (pt (pt (pt (pt (pt (pt (pt (pt (pt (pt (envOf [a0, a1]) 13 a0) 14 v14) 15 v15) 16 v16) 17 v17) 18 v18) 22 a0) 23 v23) 24 v24) 25 v25) 26 a0) 27 v27) 28 v28) 29 v29) 30 v30) 31 v31) 32 v32) 33 v33) 4 v4) 34 a0) 35 a0) 36 v36) 37 v37) 38 v38) 39 a0) 40 v40) 41 v41) 42 v42) 43 v43) 44 v44) 45 v45) 46 v46) 47 v47) 48 (.map (some i))) 5 (.map (some i))) 49 a0) 50 v50) 51 v51) 52 v52) 53 v53) 54 v54) h_6)
theorem e71 (X : CallT) (a0 a1 : Value) (h : AH) (K : Value → AH → Prop) : cwp2 Try.prog X (Try.f71.body.getD .skip) (endW Try.prog Try.f71 K) (envOf [a0, a1]) h = s71 X a0 a1 h K := by kernel_rfl
theorem c71 {a0 a1 : Value} {h : AH} {K : Value → AH → Prop} (hs : s71 (callW Try.prog) a0 a1 h K) : callW Try.prog 71 [a0, a1] h K := callW_of Try.func71 (by kernel_rfl) (Eq.mpr (e71 _ a0 a1 _ _) hs)

/-- (*canopy/feed.run).inner (I at e: live [0, 1, 4, 20], writes [5, 7, 21, 22, 23, 24, 25, 26, 27, 28, 29, 30, 31, 32, 33, 34, 35, 36, 37, 38, 39, 40, 41, 42, 43, 44, 45, 46, 47, 48, 49, 50, 51, 52, 53]; I_1 at e_1: live [1, 4, 5, 29, 30, 31], writes [7, 31, 32, 33, 34, 35, 36, 37, 38, 39, 40, 41, 42, 43, 44, 45, 46, 47, 48, 49, 50, 51, 52, 53]) -/
def s72 (X : CallT) (a0 a1 : Value) (h : AH) (K : Value → AH → Prop) : Prop :=
  newW none (.map [] 0) h fun i h_1 =>
  optW (pNilCheck a0) fun v10 =>
  optW (pOff 7 v10) fun v11 =>
  optW (pOff 1 v11) fun v12 =>
  optW (rdRow false 1 v12 h_1) fun v13 =>
  optW (bld [(.map none), (.int .i64 0)] [(0, 1), (1, 1)] [(0, (.map (some i))), (1, v13)]) fun v14 =>
  newR none [(.map none), (.int .i64 0)] h_1 fun v4 h_2 =>
  optW (pStore 2 v4 v14 h_2) fun h_3 =>
  optW (pNilCheck a0) fun v16 =>
  optW (pOff 7 v16) fun v17 =>
  optW (pOff 0 v17) fun v18 =>
  optW (rdRow false 1 v18 h_3) fun v19 =>
  aRange Try.prog 88 v19 none h_3 fun v20 h_4 =>
  loopE (fun I e h_5 =>
    aNext (e 20) false h_5 fun v21 h_6 =>
    optW (pExtract v21 0) fun v22 =>
    condW v22 (
      optW (pEntry (e 20) h_6) fun v23 =>
      optW (pExtract v23 0) fun v24 =>
      newR none [(.int .i64 0), (.int .i64 0)] h_6 fun v5 h_7 =>
      optW (pStore 2 v5 v24 h_7) fun h_8 =>
      optW (pNilCheck (e 0)) fun v26 =>
      optW (pOff 0 v26) fun v27 =>
      optW (pOff 6 v27) fun v28 =>
      optW (rdRow false 1 v28 h_8) fun v29 =>
      optW (lenSl v29) fun v30 =>
      loopE (fun I_1 e_1 h_9 =>
        optW (pBin Try.prog .lss 3 (e_1 31) (e_1 30)) fun v32 =>
        condW v32 (
          optW (pIdxS 3 (e_1 29) (e_1 31)) fun v33 =>
          optW (rdRow true 3 v33 h_9) fun v34 =>
          newR none [(.int .i64 0), (.int .i64 0), (.int .i64 0)] h_9 fun v7 h_10 =>
          optW (pStore 3 v7 v34 h_10) fun h_11 =>
          optW (pOff 0 v7) fun v35 =>
          optW (rdRow false 1 v35 h_11) fun v36 =>
          optW (pOff 1 (e_1 5)) fun v37 =>
          optW (rdRow false 1 v37 h_11) fun v38 =>
          optW (pBin Try.prog .eql 3 v36 v38) fun v39 =>
          gopW (gB v39 true) (fun k =>
            optW (pOff 1 v7) fun v41_1 =>
            k v41_1 h_11) h_11 fun v41 h_12 =>
          gopW (gB v39 true) (fun k_1 =>
            optW (rdRow false 1 v41 h_12) fun v42_1 =>
            k_1 v42_1 h_12) h_12 fun v42 h_13 =>
          gopW (gB v39 true) (fun k_2 =>
            k_2 (e_1 1) h_13) h_13 fun v43 h_14 =>
          gopW (gB v39 true) (fun k_3 =>
            optW (pBin Try.prog .eql 3 v42 v43) fun v44_1 =>
            k_3 v44_1 h_14) h_14 fun v44 h_15 =>
          optW (pPick v39 v44 (.bool false)) fun v45 =>
          condW v45 (
            optW (pOff 0 (e_1 4)) fun v46 =>
            optW (rdRow false 1 v46 h_15) fun v47 =>
            optW (pOff 0 (e_1 5)) fun v48 =>
            optW (rdRow false 1 v48 h_15) fun v49 =>
            optW (pOff 2 v7) fun v50 =>
            optW (rdRow false 1 v50 h_15) fun v51 =>
            optW (bld [(.int .i64 0), (.int .i64 0)] [(0, 1), (1, 1)] [(0, v49), (1, v51)]) fun v52 =>
            optW (pMapUpd Try.prog 88 v47 v52 (.int .i64 1) h_15) fun h_16 =>
            optW (pBin Try.prog .add 3 (e_1 31) (.int .i64 1)) fun v53 =>
            I_1 (pt (pt (pt (pt (pt (pt (pt (pt (pt (pt (pt (pt (pt (pt (pt (pt (pt (pt (pt (pt (pt (pt (pt (pt e_1 32 v32) 33 v33) 34 v34) 7 v7) 35 v35) 36 v36) 37 v37) 38 v38) 39 v39) 40 v39) 41 v41) 42 v42) 43 v43) 44 v44) 45 v45) 46 v46) 47 v47) 48 v48) 49 v49) 50 v50) 51 v51) 52 v52) 53 v53) 31 v53) h_16
          ) (
            optW (pBin Try.prog .add 3 (e_1 31) (.int .i64 1)) fun v53_1 =>
            I_1 (pt (pt (pt (pt (pt (pt (pt (pt (pt (pt (pt (pt (pt (pt (pt (pt (pt e_1 32 v32) 33 v33) 34 v34) 7 v7) 35 v35) 36 v36) 37 v37) 38 v38) 39 v39) 40 v39) 41 v41) 42 v42) 43 v43) 44 v44) 45 v45) 53 v53_1) 31 v53_1) h_15)
        ) (
          I (pt e_1 32 v32) h_9))
      (pt (pt (pt (pt (pt (pt (pt (pt (pt (pt (pt (pt e 21 v21) 22 v22) 23 v23) 24 v24) 5 v5) 25 (e 0)) 26 v26) 27 v27) 28 v28) 29 v29) 30 v30) 31 (.int .i64 0)) h_8
    ) (
      optW (rdRow true 2 (e 4) h_6) fun v55 =>
      optW (pNilCheck (e 0)) fun v56 =>
      optW (pOff 7 v56) fun v57 =>
      optW (pStore 2 v57 v55 h_6) fun h_17 =>
      K (.tuple #[]) h_17))
  (pt (pt (pt (pt (pt (pt (pt (pt (pt (pt (pt (pt (pt (pt (envOf [a0, a1]) 8 (.map (some i))) 9 a0) 10 v10) 11 v11) 12 v12) 13 v13) 14 v14) 4 v4) 15 a0) 16 v16) 17 v17) 18 v18) 19 v19) 20 v20) h_4
theorem e72 (X : CallT) (a0 a1 : Value) (h : AH) (K : Value → AH → Prop) : cwp2 Try.prog X (Try.f72.body.getD .skip) (endW Try.prog Try.f72 K) (envOf [a0, a1]) h = s72 X a0 a1 h K := by kernel_rfl
theorem c72 {a0 a1 : Value} {h : AH} {K : Value → AH → Prop} (hs : s72 (callW Try.prog) a0 a1 h K) : callW Try.prog 72 [a0, a1] h K := callW_of Try.func72 (by kernel_rfl) (Eq.mpr (e72 _ a0 a1 _ _) hs)

/-- slices.Index[[]int,int] (I at e: live [0, 1, 7, 8], writes [4, 5, 8, 9, 10, 11, 12, 13, 14, 15, 16, 17, 18]) -/
def s73 (X : CallT) (a0 a1 : Value) (h : AH) (K : Value → AH → Prop) : Prop :=
  optW (lenSl a0) fun v7 =>
  loopE (fun I e h_1 =>
    optW (pBin Try.prog .lss 3 (e 8) (e 7)) fun v9 =>
    condW v9 (
      optW (pIdxS 1 (e 0) (e 8)) fun v14 =>
      optW (rdRow false 1 v14 h_1) fun v15 =>
      optW (pBin Try.prog .eql 3 (e 1) v15) fun v16 =>
      condW v16 (
        K (e 8) h_1
      ) (
        optW (pBin Try.prog .add 3 (e 8) (.int .i64 1)) fun v18 =>
        I (pt (pt (pt (pt (pt (pt (pt (pt (pt (pt (pt e 9 v9) 10 (e 8)) 5 (e 8)) 11 (e 1)) 12 (e 0)) 13 (e 8)) 14 v14) 15 v15) 16 v16) 18 v18) 8 v18) h_1)
    ) (
      K (.int .i64 (-1)) h_1))
  (pt (pt (pt (pt (envOf [a0, a1]) 4 (.int .i64 0)) 6 a0) 7 v7) 8 (.int .i64 0)) h
theorem e73 (X : CallT) (a0 a1 : Value) (h : AH) (K : Value → AH → Prop) : cwp2 Try.prog X (Try.f73.body.getD .skip) (endW Try.prog Try.f73 K) (envOf [a0, a1]) h = s73 X a0 a1 h K := by kernel_rfl
theorem c73 {a0 a1 : Value} {h : AH} {K : Value → AH → Prop} (hs : s73 (callW Try.prog) a0 a1 h K) : callW Try.prog 73 [a0, a1] h K := callW_of Try.func73 (by kernel_rfl) (Eq.mpr (e73 _ a0 a1 _ _) hs)

/-- canopy/canopyref1.Letters (I at e: live [0, 3], writes [2, 3, 4, 5, 6, 7, 8, 9, 10, 11, 12, 13, 14, 15, 16, 17, 18, 19]) -/
def s74 (X : CallT) (a0 : Value) (h : AH) (K : Value → AH → Prop) : Prop :=
  loopE (fun I e h_1 =>
    optW (lenStr (e 0)) fun v6 =>
    optW (pBin Try.prog .lss 3 (e 3) v6) fun v7 =>
    condW v7 (
      optW (pIdxStr (e 0) (e 3)) fun v12 =>
      optW (pBin Try.prog .lss 5 v12 (.int .u8 97)) fun v13 =>
      gopW (gB v13 false) (fun k =>
        k (e 0) h_1) h_1 fun v15 h_2 =>
      gopW (gB v13 false) (fun k_1 =>
        k_1 (e 3) h_2) h_2 fun v16 h_3 =>
      gopW (gB v13 false) (fun k_2 =>
        optW (pIdxStr v15 v16) fun v17_1 =>
        k_2 v17_1 h_3) h_3 fun v17 h_4 =>
      gopW (gB v13 false) (fun k_3 =>
        optW (pBin Try.prog .gtr 5 v17 (.int .u8 122)) fun v18_1 =>
        k_3 v18_1 h_4) h_4 fun v18 h_5 =>
      optW (pPick v13 (.bool true) v18) fun v19 =>
      condW v19 (
        K (.bool false) h_5
      ) (
        optW (pBin Try.prog .add 3 (e 3) (.int .i64 1)) fun v9 =>
        I (pt (pt (pt (pt (pt (pt (pt (pt (pt (pt (pt (pt (pt (pt (pt (pt (pt e 4 (e 3)) 5 (e 0)) 6 v6) 7 v7) 10 (e 0)) 11 (e 3)) 12 v12) 13 v13) 14 v13) 15 v15) 16 v16) 17 v17) 18 v18) 19 v19) 8 (e 3)) 9 v9) 3 v9) h_5)
    ) (
      optW (lenStr (e 0)) fun v21 =>
      optW (pBin Try.prog .gtr 3 v21 (.int .i64 0)) fun v22 =>
      gopW (gB v22 true) (fun k_4 =>
        k_4 (e 0) h_1) h_1 fun v24 h_6 =>
      gopW (gB v22 true) (fun k_5 =>
        optW (lenStr v24) fun v25_1 =>
        k_5 v25_1 h_6) h_6 fun v25 h_7 =>
      gopW (gB v22 true) (fun k_6 =>
        optW (pBin Try.prog .leq 3 v25 (.int .i64 8)) fun v26_1 =>
        k_6 v26_1 h_7) h_7 fun v26 h_8 =>
      optW (pPick v22 v26 (.bool false)) fun v27 =>
      K v27 h_8))
  (pt (pt (envOf [a0]) 2 (.bool false)) 3 (.int .i64 0)) h
theorem e74 (X : CallT) (a0 : Value) (h : AH) (K : Value → AH → Prop) : cwp2 Try.prog X (Try.f74.body.getD .skip) (endW Try.prog Try.f74 K) (envOf [a0]) h = s74 X a0 h K := by kernel_rfl
theorem c74 {a0 : Value} {h : AH} {K : Value → AH → Prop} (hs : s74 (callW Try.prog) a0 h K) : callW Try.prog 74 [a0] h K := callW_of Try.func74 (by kernel_rfl) (Eq.mpr (e74 _ a0 _ _) hs)

/-- (*canopy/feed.run).lowest (I at e: live [0, 1, 4, 20], writes [5, 7, 21, 22, 23, 24, 25, 26, 27, 28, 29, 30, 31, 32, 33, 34, 35, 36, 37, 38, 39, 40, 41, 42, 43, 44, 45, 46, 47, 48, 49, 50, 51, 52, 53, 54, 55, 56, 57, 58]; I_1 at e_1: live [1, 4, 5, 29, 30, 31], writes [7, 31, 32, 33, 34, 35, 36, 37, 38, 39, 40, 41, 42, 43, 44, 45, 46, 47, 48, 49, 50, 51, 52, 53, 54, 55, 56, 57, 58]) -/
def s75 (X : CallT) (a0 a1 : Value) (h : AH) (K : Value → AH → Prop) : Prop :=
  newW none (.map [] 0) h fun i h_1 =>
  optW (pNilCheck a0) fun v10 =>
  optW (pOff 7 v10) fun v11 =>
  optW (pOff 1 v11) fun v12 =>
  optW (rdRow false 1 v12 h_1) fun v13 =>
  optW (bld [(.map none), (.int .i64 0)] [(0, 1), (1, 1)] [(0, (.map (some i))), (1, v13)]) fun v14 =>
  newR none [(.map none), (.int .i64 0)] h_1 fun v4 h_2 =>
  optW (pStore 2 v4 v14 h_2) fun h_3 =>
  optW (pNilCheck a0) fun v16 =>
  optW (pOff 7 v16) fun v17 =>
  optW (pOff 0 v17) fun v18 =>
  optW (rdRow false 1 v18 h_3) fun v19 =>
  aRange Try.prog 88 v19 none h_3 fun v20 h_4 =>
  loopE (fun I e h_5 =>
    aNext (e 20) false h_5 fun v21 h_6 =>
    optW (pExtract v21 0) fun v22 =>
    condW v22 (
      optW (pEntry (e 20) h_6) fun v23 =>
      optW (pExtract v23 0) fun v24 =>
      newR none [(.int .i64 0), (.int .i64 0)] h_6 fun v5 h_7 =>
      optW (pStore 2 v5 v24 h_7) fun h_8 =>
      optW (pNilCheck (e 0)) fun v26 =>
      optW (pOff 0 v26) fun v27 =>
      optW (pOff 5 v27) fun v28 =>
      optW (rdRow false 1 v28 h_8) fun v29 =>
      optW (lenSl v29) fun v30 =>
      loopE (fun I_1 e_1 h_9 =>
        optW (pBin Try.prog .lss 3 (e_1 31) (e_1 30)) fun v32 =>
        condW v32 (
          optW (pIdxS 4 (e_1 29) (e_1 31)) fun v33 =>
          optW (rdRow true 4 v33 h_9) fun v34 =>
          newR none [(.int .i64 0), (.int .i64 0), (.int .i64 0), (.int .i64 0)] h_9 fun v7 h_10 =>
          optW (pStore 4 v7 v34 h_10) fun h_11 =>
          optW (pOff 0 v7) fun v35 =>
          optW (rdRow false 1 v35 h_11) fun v36 =>
          optW (pOff 1 (e_1 5)) fun v37 =>
          optW (rdRow false 1 v37 h_11) fun v38 =>
          optW (pBin Try.prog .eql 3 v36 v38) fun v39 =>
          gopW (gB v39 true) (fun k =>
            optW (pOff 1 v7) fun v41_1 =>
            k v41_1 h_11) h_11 fun v41 h_12 =>
          gopW (gB v39 true) (fun k_1 =>
            optW (rdRow false 1 v41 h_12) fun v42_1 =>
            k_1 v42_1 h_12) h_12 fun v42 h_13 =>
          gopW (gB v39 true) (fun k_2 =>
            k_2 (e_1 1) h_13) h_13 fun v43 h_14 =>
          gopW (gB v39 true) (fun k_3 =>
            optW (pBin Try.prog .eql 3 v42 v43) fun v44_1 =>
            k_3 v44_1 h_14) h_14 fun v44 h_15 =>
          optW (pPick v39 v44 (.bool false)) fun v45 =>
          gopW (gB v45 true) (fun k_4 =>
            optW (pOff 2 v7) fun v47_1 =>
            k_4 v47_1 h_15) h_15 fun v47 h_16 =>
          gopW (gB v45 true) (fun k_5 =>
            optW (rdRow false 1 v47 h_16) fun v48_1 =>
            k_5 v48_1 h_16) h_16 fun v48 h_17 =>
          gopW (gB v45 true) (fun k_6 =>
            optW (pBin Try.prog .eql 3 v48 (.int .i64 0)) fun v49_1 =>
            k_6 v49_1 h_17) h_17 fun v49 h_18 =>
          optW (pPick v45 v49 (.bool false)) fun v50 =>
          condW v50 (
            optW (pOff 0 (e_1 4)) fun v51 =>
            optW (rdRow false 1 v51 h_18) fun v52 =>
            optW (pOff 0 (e_1 5)) fun v53 =>
            optW (rdRow false 1 v53 h_18) fun v54 =>
            optW (pOff 3 v7) fun v55 =>
            optW (rdRow false 1 v55 h_18) fun v56 =>
            optW (bld [(.int .i64 0), (.int .i64 0)] [(0, 1), (1, 1)] [(0, v54), (1, v56)]) fun v57 =>
            optW (pMapUpd Try.prog 88 v52 v57 (.int .i64 1) h_18) fun h_19 =>
            optW (pBin Try.prog .add 3 (e_1 31) (.int .i64 1)) fun v58 =>
            I_1 (pt (pt (pt (pt (pt (pt (pt (pt (pt (pt (pt (pt (pt (pt (pt (pt (pt (pt (pt (pt (pt (pt (pt (pt (pt (pt (pt (pt (pt e_1 32 v32) 33 v33) 34 v34) 7 v7) 35 v35) 36 v36) 37 v37) 38 v38) 39 v39) 40 v39) 41 v41) 42 v42) 43 v43) 44 v44) 45 v45) 46 v45) 47 v47) 48 v48) 49 v49) 50 v50) 51 v51) 52 v52) 53 v53) 54 v54) 55 v55) 56 v56) 57 v57) 58 v58) 31 v58) h_19
          ) (
            optW (pBin Try.prog .add 3 (e_1 31) (.int .i64 1)) fun v58_1 =>
            I_1 (pt (pt (pt (pt (pt (pt (pt (pt (pt (pt (pt (pt (pt (pt (pt (pt (pt (pt (pt (pt (pt (pt e_1 32 v32) 33 v33) 34 v34) 7 v7) 35 v35) 36 v36) 37 v37) 38 v38) 39 v39) 40 v39) 41 v41) 42 v42) 43 v43) 44 v44) 45 v45) 46 v45) 47 v47) 48 v48) 49 v49) 50 v50) 58 v58_1) 31 v58_1) h_18)
        ) (
          I (pt e_1 32 v32) h_9))
      (pt (pt (pt (pt (pt (pt (pt (pt (pt (pt (pt (pt e 21 v21) 22 v22) 23 v23) 24 v24) 5 v5) 25 (e 0)) 26 v26) 27 v27) 28 v28) 29 v29) 30 v30) 31 (.int .i64 0)) h_8
    ) (
      optW (rdRow true 2 (e 4) h_6) fun v60 =>
      optW (pNilCheck (e 0)) fun v61 =>
      optW (pOff 7 v61) fun v62 =>
      optW (pStore 2 v62 v60 h_6) fun h_20 =>
      K (.tuple #[]) h_20))
  (pt (pt (pt (pt (pt (pt (pt (pt (pt (pt (pt (pt (pt (pt (envOf [a0, a1]) 8 (.map (some i))) 9 a0) 10 v10) 11 v11) 12 v12) 13 v13) 14 v14) 4 v4) 15 a0) 16 v16) 17 v17) 18 v18) 19 v19) 20 v20) h_4
theorem e75 (X : CallT) (a0 a1 : Value) (h : AH) (K : Value → AH → Prop) : cwp2 Try.prog X (Try.f75.body.getD .skip) (endW Try.prog Try.f75 K) (envOf [a0, a1]) h = s75 X a0 a1 h K := by kernel_rfl
theorem c75 {a0 a1 : Value} {h : AH} {K : Value → AH → Prop} (hs : s75 (callW Try.prog) a0 a1 h K) : callW Try.prog 75 [a0, a1] h K := callW_of Try.func75 (by kernel_rfl) (Eq.mpr (e75 _ a0 a1 _ _) hs)

end Go.Proofs.Ytebbjimmgblcpaa.W
