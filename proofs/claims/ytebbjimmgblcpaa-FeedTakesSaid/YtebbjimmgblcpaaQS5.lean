/- Go functions, printed by a program as predicates on what may come behind; each is the function. Conditions: none. -/
import Derived.Test.YtebbjimmgblcpaaQA1
import Derived.Test.YtebbjimmgblcpaaProg
namespace Go.Proofs.Ytebbjimmgblcpaa.W
open Go Go.AM
set_option linter.unusedVariables false
set_option maxRecDepth 100000

/-- slices.Clone[[]int,int] () -/
def s40 (X : CallT) (a0 : Value) (h : AH) (K : Value → AH → Prop) : Prop :=
  optW (pBin Try.prog .eql 22 a0 (.slice none 0 0)) fun v4 =>
  condW v4 (
    K (.slice none 0 0) h
  ) (
    optW (bldSl 1 [(.int .i64 0)] 0 []) fun c =>
    newW none (.row c true) h fun i h_1 =>
    appSl 1 (.slice (some ⟨i, 0, none⟩) 0 0) a0 h_1 fun v7 h_2 =>
    K v7 h_2)
theorem e40 (X : CallT) (a0 : Value) (h : AH) (K : Value → AH → Prop) : cwp2 Try.prog X (Try.f40.body.getD .skip) (endW Try.prog Try.f40 K) (envOf [a0]) h = s40 X a0 h K := by kernel_rfl
theorem c40 {a0 : Value} {h : AH} {K : Value → AH → Prop} (hs : s40 (callW Try.prog) a0 h K) : callW Try.prog 40 [a0] h K := callW_of Try.func40 (by kernel_rfl) (Eq.mpr (e40 _ a0 _ _) hs)

/-- slices.Clone[[]canopy/api.Open,canopy/api.Open] () -/
def s41 (X : CallT) (a0 : Value) (h : AH) (K : Value → AH → Prop) : Prop :=
  optW (pBin Try.prog .eql 26 a0 (.slice none 0 0)) fun v4 =>
  condW v4 (
    K (.slice none 0 0) h
  ) (
    optW (bldSl 4 [(.int .i64 0), (.int .i64 0), (.int .i64 0), (.int .i64 0)] 0 []) fun c =>
    newW none (.row c true) h fun i h_1 =>
    appSl 4 (.slice (some ⟨i, 0, none⟩) 0 0) a0 h_1 fun v7 h_2 =>
    K v7 h_2)
theorem e41 (X : CallT) (a0 : Value) (h : AH) (K : Value → AH → Prop) : cwp2 Try.prog X (Try.f41.body.getD .skip) (endW Try.prog Try.f41 K) (envOf [a0]) h = s41 X a0 h K := by kernel_rfl
theorem c41 {a0 : Value} {h : AH} {K : Value → AH → Prop} (hs : s41 (callW Try.prog) a0 h K) : callW Try.prog 41 [a0] h K := callW_of Try.func41 (by kernel_rfl) (Eq.mpr (e41 _ a0 _ _) hs)

/-- slices.Clone[[]canopy/api.Close,canopy/api.Close] () -/
def s42 (X : CallT) (a0 : Value) (h : AH) (K : Value → AH → Prop) : Prop :=
  optW (pBin Try.prog .eql 27 a0 (.slice none 0 0)) fun v4 =>
  condW v4 (
    K (.slice none 0 0) h
  ) (
    optW (bldSl 4 [(.int .i64 0), (.int .i64 0), (.int .i64 0), (.int .i64 0)] 0 []) fun c =>
    newW none (.row c true) h fun i h_1 =>
    appSl 4 (.slice (some ⟨i, 0, none⟩) 0 0) a0 h_1 fun v7 h_2 =>
    K v7 h_2)
theorem e42 (X : CallT) (a0 : Value) (h : AH) (K : Value → AH → Prop) : cwp2 Try.prog X (Try.f42.body.getD .skip) (endW Try.prog Try.f42 K) (envOf [a0]) h = s42 X a0 h K := by kernel_rfl
theorem c42 {a0 : Value} {h : AH} {K : Value → AH → Prop} (hs : s42 (callW Try.prog) a0 h K) : callW Try.prog 42 [a0] h K := callW_of Try.func42 (by kernel_rfl) (Eq.mpr (e42 _ a0 _ _) hs)

/-- slices.Clone[[]canopy/api.Inner,canopy/api.Inner] () -/
def s43 (X : CallT) (a0 : Value) (h : AH) (K : Value → AH → Prop) : Prop :=
  optW (pBin Try.prog .eql 28 a0 (.slice none 0 0)) fun v4 =>
  condW v4 (
    K (.slice none 0 0) h
  ) (
    optW (bldSl 3 [(.int .i64 0), (.int .i64 0), (.int .i64 0)] 0 []) fun c =>
    newW none (.row c true) h fun i h_1 =>
    appSl 3 (.slice (some ⟨i, 0, none⟩) 0 0) a0 h_1 fun v7 h_2 =>
    K v7 h_2)
theorem e43 (X : CallT) (a0 : Value) (h : AH) (K : Value → AH → Prop) : cwp2 Try.prog X (Try.f43.body.getD .skip) (endW Try.prog Try.f43 K) (envOf [a0]) h = s43 X a0 h K := by kernel_rfl
theorem c43 {a0 : Value} {h : AH} {K : Value → AH → Prop} (hs : s43 (callW Try.prog) a0 h K) : callW Try.prog 43 [a0] h K := callW_of Try.func43 (by kernel_rfl) (Eq.mpr (e43 _ a0 _ _) hs)

/-- canopy/feed.begin (I at e: live [3, 11, 12, 13], writes [5, 13, 14, 15, 16, 17, 18, 19, 20, 21, 22, 23]) -/
def s44 (X : CallT) (a0 : Value) (h : AH) (K : Value → AH → Prop) : Prop :=
  aBox a0 none h fun v1 h_1 =>
  newR none [(.int .i64 0), (.int .i64 0), (.slice none 0 0), (.slice none 0 0), (.slice none 0 0), (.slice none 0 0), (.slice none 0 0), (.map none), (.int .i64 0), (.slice none 0 0)] h_1 fun v2 h_2 =>
  optW (rdRow true 7 v1 h_2) fun v6 =>
  newW none (.map [] 0) h_2 fun i h_3 =>
  optW (bld [(.map none), (.int .i64 0)] [(0, 1), (1, 1)] [(0, (.map (some i)))]) fun v8 =>
  optW (bld [(.int .i64 0), (.int .i64 0), (.slice none 0 0), (.slice none 0 0), (.slice none 0 0), (.slice none 0 0), (.slice none 0 0), (.map none), (.int .i64 0), (.slice none 0 0)] [(0, 7), (7, 2), (9, 1)] [(0, v6), (1, v8)]) fun v9 =>
  newR none [(.int .i64 0), (.int .i64 0), (.slice none 0 0), (.slice none 0 0), (.slice none 0 0), (.slice none 0 0), (.slice none 0 0), (.map none), (.int .i64 0), (.slice none 0 0)] h_3 fun v3 h_4 =>
  optW (pStore 10 v3 v9 h_4) fun h_5 =>
  optW (pOff 2 v1) fun v10 =>
  optW (rdRow false 1 v10 h_5) fun v11 =>
  optW (lenSl v11) fun v12 =>
  loopE (fun I e h_6 =>
    optW (pBin Try.prog .lss 3 (e 13) (e 12)) fun v14 =>
    condW v14 (
      optW (pIdxS 1 (e 11) (e 13)) fun v15 =>
      optW (rdRow false 1 v15 h_6) fun v16 =>
      optW (pOff 7 (e 3)) fun v17 =>
      optW (pOff 0 v17) fun v18 =>
      optW (rdRow false 1 v18 h_6) fun v19 =>
      optW (bld [(.int .i64 0), (.int .i64 0)] [(0, 1), (1, 1)] [(0, v16), (1, v16)]) fun v22 =>
      optW (pMapUpd Try.prog 88 v19 v22 (.int .i64 1) h_6) fun h_7 =>
      optW (pBin Try.prog .add 3 (e 13) (.int .i64 1)) fun v23 =>
      I (pt (pt (pt (pt (pt (pt (pt (pt (pt (pt (pt (pt e 14 v14) 15 v15) 16 v16) 5 v16) 17 v17) 18 v18) 19 v19) 20 v16) 21 v16) 22 v22) 23 v23) 13 v23) h_7
    ) (
      optW (rdRow true 10 (e 3) h_6) fun v24 =>
      optW (pStore 10 (e 2) v24 h_6) fun h_8 =>
      optW (resList Try.prog (pt (pt e 14 v14) 24 v24) h_8 Try.f44.results.toList) fun vs => K (resOf vs) h_8))
  (pt (pt (pt (pt (pt (pt (pt (pt (pt (pt (pt (envOf [a0]) 1 v1) 2 v2) 6 v6) 7 (.map (some i))) 8 v8) 9 v9) 3 v3) 10 v10) 11 v11) 12 v12) 13 (.int .i64 0)) h_5
theorem e44 (X : CallT) (a0 : Value) (h : AH) (K : Value → AH → Prop) : cwp2 Try.prog X (Try.f44.body.getD .skip) (endW Try.prog Try.f44 K) (envOf [a0]) h = s44 X a0 h K := by kernel_rfl
theorem c44 {a0 : Value} {h : AH} {K : Value → AH → Prop} (hs : s44 (callW Try.prog) a0 h K) : callW Try.prog 44 [a0] h K := callW_of Try.func44 (by kernel_rfl) (Eq.mpr (e44 _ a0 _ _) hs)

/-- slices.Clone[[]canopy/api.Sym,canopy/api.Sym] () -/
def s45 (X : CallT) (a0 : Value) (h : AH) (K : Value → AH → Prop) : Prop :=
  optW (pBin Try.prog .eql 24 a0 (.slice none 0 0)) fun v4 =>
  condW v4 (
    K (.slice none 0 0) h
  ) (
    optW (bldSl 2 [(.string (bs [])), (.int .i64 0)] 0 []) fun c =>
    newW none (.row c true) h fun i h_1 =>
    appSl 2 (.slice (some ⟨i, 0, none⟩) 0 0) a0 h_1 fun v7 h_2 =>
    K v7 h_2)
theorem e45 (X : CallT) (a0 : Value) (h : AH) (K : Value → AH → Prop) : cwp2 Try.prog X (Try.f45.body.getD .skip) (endW Try.prog Try.f45 K) (envOf [a0]) h = s45 X a0 h K := by kernel_rfl
theorem c45 {a0 : Value} {h : AH} {K : Value → AH → Prop} (hs : s45 (callW Try.prog) a0 h K) : callW Try.prog 45 [a0] h K := callW_of Try.func45 (by kernel_rfl) (Eq.mpr (e45 _ a0 _ _) hs)

/-- (*canopy/feed.Feed).step () -/
def s46 (X : CallT) (a0 a1 : Value) (h : AH) (K : Value → AH → Prop) : Prop :=
  X 61 [a1] h fun v5 h_1 =>
  optW (pUn .not v5) fun v6 =>
  condW v6 (
    X 47 [a0] h_1 fun v8 h_2 =>
    optW (pNilCheck a0) fun v14 =>
    optW (pOff 16 v14) fun v15 =>
    optW (rdRow false 1 v15 h_2) fun v16 =>
    optW (pBin Try.prog .neq 42 v16 (.int .i64 0)) fun v17 =>
    condW v17 (
      optW (pNilCheck a0) fun v30 =>
      optW (pOff 14 v30) fun v31 =>
      optW (rdRow false 1 v31 h_2) fun v32 =>
      optW (pBin Try.prog .add 3 v32 (.int .i64 1)) fun v33 =>
      optW (pNilCheck a0) fun v34 =>
      optW (pOff 14 v34) fun v35 =>
      optW (pStore 1 v35 v33 h_2) fun h_3 =>
      K (.tuple #[]) h_3
    ) (
      optW (pNilCheck a0) fun v20 =>
      optW (pOff 10 v20) fun v21 =>
      optW (pOff 0 v21) fun v22 =>
      optW (rdRow false 1 v22 h_2) fun v23 =>
      optW (lenSl v23) fun v24 =>
      optW (pBin Try.prog .eql 3 v24 (.int .i64 0)) fun v25 =>
      condW v25 (
        X 62 [a0, a1] h_2 fun v28 h_4 =>
        optW (pNilCheck a0) fun v30_1 =>
        optW (pOff 14 v30_1) fun v31_1 =>
        optW (rdRow false 1 v31_1 h_4) fun v32_1 =>
        optW (pBin Try.prog .add 3 v32_1 (.int .i64 1)) fun v33_1 =>
        optW (pNilCheck a0) fun v34_1 =>
        optW (pOff 14 v34_1) fun v35_1 =>
        optW (pStore 1 v35_1 v33_1 h_4) fun h_5 =>
        K (.tuple #[]) h_5
      ) (
        X 63 [a0, a1] h_2 fun v11 h_6 =>
        optW (pNilCheck a0) fun v30_2 =>
        optW (pOff 14 v30_2) fun v31_2 =>
        optW (rdRow false 1 v31_2 h_6) fun v32_2 =>
        optW (pBin Try.prog .add 3 v32_2 (.int .i64 1)) fun v33_2 =>
        optW (pNilCheck a0) fun v34_2 =>
        optW (pOff 14 v34_2) fun v35_2 =>
        optW (pStore 1 v35_2 v33_2 h_6) fun h_7 =>
        K (.tuple #[]) h_7))
  ) (
    optW (pNilCheck a0) fun v14_1 =>
    optW (pOff 16 v14_1) fun v15_1 =>
    optW (rdRow false 1 v15_1 h_1) fun v16_1 =>
    optW (pBin Try.prog .neq 42 v16_1 (.int .i64 0)) fun v17_1 =>
    condW v17_1 (
      optW (pNilCheck a0) fun v30_3 =>
      optW (pOff 14 v30_3) fun v31_3 =>
      optW (rdRow false 1 v31_3 h_1) fun v32_3 =>
      optW (pBin Try.prog .add 3 v32_3 (.int .i64 1)) fun v33_3 =>
      optW (pNilCheck a0) fun v34_3 =>
      optW (pOff 14 v34_3) fun v35_3 =>
      optW (pStore 1 v35_3 v33_3 h_1) fun h_8 =>
      K (.tuple #[]) h_8
    ) (
      optW (pNilCheck a0) fun v20_1 =>
      optW (pOff 10 v20_1) fun v21_1 =>
      optW (pOff 0 v21_1) fun v22_1 =>
      optW (rdRow false 1 v22_1 h_1) fun v23_1 =>
      optW (lenSl v23_1) fun v24_1 =>
      optW (pBin Try.prog .eql 3 v24_1 (.int .i64 0)) fun v25_1 =>
      condW v25_1 (
        X 62 [a0, a1] h_1 fun v28_1 h_9 =>
        optW (pNilCheck a0) fun v30_4 =>
        optW (pOff 14 v30_4) fun v31_4 =>
        optW (rdRow false 1 v31_4 h_9) fun v32_4 =>
        optW (pBin Try.prog .add 3 v32_4 (.int .i64 1)) fun v33_4 =>
        optW (pNilCheck a0) fun v34_4 =>
        optW (pOff 14 v34_4) fun v35_4 =>
        optW (pStore 1 v35_4 v33_4 h_9) fun h_10 =>
        K (.tuple #[]) h_10
      ) (
        X 63 [a0, a1] h_1 fun v11_1 h_11 =>
        optW (pNilCheck a0) fun v30_5 =>
        optW (pOff 14 v30_5) fun v31_5 =>
        optW (rdRow false 1 v31_5 h_11) fun v32_5 =>
        optW (pBin Try.prog .add 3 v32_5 (.int .i64 1)) fun v33_5 =>
        optW (pNilCheck a0) fun v34_5 =>
        optW (pOff 14 v34_5) fun v35_5 =>
        optW (pStore 1 v35_5 v33_5 h_11) fun h_12 =>
        K (.tuple #[]) h_12)))
theorem e46 (X : CallT) (a0 a1 : Value) (h : AH) (K : Value → AH → Prop) : cwp2 Try.prog X (Try.f46.body.getD .skip) (endW Try.prog Try.f46 K) (envOf [a0, a1]) h = s46 X a0 a1 h K := by kernel_rfl
theorem c46 {a0 a1 : Value} {h : AH} {K : Value → AH → Prop} (hs : s46 (callW Try.prog) a0 a1 h K) : callW Try.prog 46 [a0, a1] h K := callW_of Try.func46 (by kernel_rfl) (Eq.mpr (e46 _ a0 a1 _ _) hs)

/-- (*canopy/feed.Feed).ended () -/
def s47 (X : CallT) (a0 : Value) (h : AH) (K : Value → AH → Prop) : Prop :=
  optW (pNilCheck a0) fun v3 =>
  optW (pOff 10 v3) fun v4 =>
  optW (pOff 0 v4) fun v5 =>
  optW (rdRow false 1 v5 h) fun v6 =>
  optW (lenSl v6) fun v7 =>
  optW (pBin Try.prog .gtr 3 v7 (.int .i64 0)) fun v8 =>
  gopW (gB v8 true) (fun k =>
    k a0 h) h fun v10 h_1 =>
  gopW (gB v8 true) (fun k_1 =>
    optW (pNilCheck v10) fun v11_1 =>
    k_1 v11_1 h_1) h_1 fun v11 h_2 =>
  gopW (gB v8 true) (fun k_2 =>
    optW (pOff 10 v11) fun v12_1 =>
    k_2 v12_1 h_2) h_2 fun v12 h_3 =>
  gopW (gB v8 true) (fun k_3 =>
    optW (pOff 0 v12) fun v13_1 =>
    k_3 v13_1 h_3) h_3 fun v13 h_4 =>
  gopW (gB v8 true) (fun k_4 =>
    optW (rdRow false 1 v13 h_4) fun v14_1 =>
    k_4 v14_1 h_4) h_4 fun v14 h_5 =>
  gopW (gB v8 true) (fun k_5 =>
    optW (pIdxS 1 v14 (.int .i64 0)) fun v15_1 =>
    k_5 v15_1 h_5) h_5 fun v15 h_6 =>
  gopW (gB v8 true) (fun k_6 =>
    optW (rdRow false 1 v15 h_6) fun v16_1 =>
    k_6 v16_1 h_6) h_6 fun v16 h_7 =>
  gopW (gB v8 true) (fun k_7 =>
    X 61 [v16] h_7 fun v17_1 h_9 =>
    k_7 v17_1 h_9) h_7 fun v17 h_8 =>
  optW (pPick v8 v17 (.bool false)) fun v18 =>
  condW v18 (
    optW (pNilCheck a0) fun v21 =>
    optW (pOff 10 v21) fun v22 =>
    optW (pOff 0 v22) fun v23 =>
    optW (rdRow false 1 v23 h_8) fun v24 =>
    optW (pBytesStr v24 h_8) fun v25 =>
    X 64 [a0, v25, (.int .i64 3)] h_8 fun v26 h_10 =>
    K (.tuple #[]) h_10
  ) (
    K (.tuple #[]) h_8)
theorem e47 (X : CallT) (a0 : Value) (h : AH) (K : Value → AH → Prop) : cwp2 Try.prog X (Try.f47.body.getD .skip) (endW Try.prog Try.f47 K) (envOf [a0]) h = s47 X a0 h K := by kernel_rfl
theorem c47 {a0 : Value} {h : AH} {K : Value → AH → Prop} (hs : s47 (callW Try.prog) a0 h K) : callW Try.prog 47 [a0] h K := callW_of Try.func47 (by kernel_rfl) (Eq.mpr (e47 _ a0 _ _) hs)

/-- (*canopy/feed.Feed).wrong () -/
def s48 (X : CallT) (a0 a1 a2 : Value) (h : AH) (K : Value → AH → Prop) : Prop :=
  optW (pNilCheck a0) fun v7 =>
  optW (pOff 16 v7) fun v8 =>
  optW (rdRow false 1 v8 h) fun v9 =>
  optW (pBin Try.prog .eql 42 v9 (.int .i64 0)) fun v10 =>
  condW v10 (
    optW (pNilCheck a0) fun v15 =>
    optW (pOff 16 v15) fun v16 =>
    optW (pStore 1 v16 a1 h) fun h_1 =>
    optW (pNilCheck a0) fun v17 =>
    optW (pOff 17 v17) fun v18 =>
    optW (pStore 1 v18 a2 h_1) fun h_2 =>
    K (.tuple #[]) h_2
  ) (
    K (.tuple #[]) h)
theorem e48 (X : CallT) (a0 a1 a2 : Value) (h : AH) (K : Value → AH → Prop) : cwp2 Try.prog X (Try.f48.body.getD .skip) (endW Try.prog Try.f48 K) (envOf [a0, a1, a2]) h = s48 X a0 a1 a2 h K := by kernel_rfl
theorem c48 {a0 a1 a2 : Value} {h : AH} {K : Value → AH → Prop} (hs : s48 (callW Try.prog) a0 a1 a2 h K) : callW Try.prog 48 [a0, a1, a2] h K := callW_of Try.func48 (by kernel_rfl) (Eq.mpr (e48 _ a0 a1 a2 _ _) hs)

/-- (*canopy/feed.run).final (I at e: live [0, 9], writes [2, 3, 10, 11, 12, 13, 14, 15, 16, 17, 18, 19, 20, 21]) -/
def s49 (X : CallT) (a0 : Value) (h : AH) (K : Value → AH → Prop) : Prop :=
  optW (pNilCheck a0) fun v5 =>
  optW (pOff 7 v5) fun v6 =>
  optW (pOff 0 v6) fun v7 =>
  optW (rdRow false 1 v7 h) fun v8 =>
  aRange Try.prog 88 v8 none h fun v9 h_1 =>
  loopE (fun I e h_2 =>
    aNext (e 9) false h_2 fun v10 h_3 =>
    optW (pExtract v10 0) fun v11 =>
    condW v11 (
      optW (pEntry (e 9) h_3) fun v12 =>
      optW (pExtract v12 0) fun v13 =>
      newR none [(.int .i64 0), (.int .i64 0)] h_3 fun v3 h_4 =>
      optW (pStore 2 v3 v13 h_4) fun h_5 =>
      optW (pNilCheck (e 0)) fun v15 =>
      optW (pOff 0 v15) fun v16 =>
      optW (pOff 3 v16) fun v17 =>
      optW (rdRow false 1 v17 h_5) fun v18 =>
      optW (pOff 1 v3) fun v19 =>
      optW (rdRow false 1 v19 h_5) fun v20 =>
      X 65 [v18, v20] h_5 fun v21 h_6 =>
      condW v21 (
        K (.bool true) h_6
      ) (
        I (pt (pt (pt (pt (pt (pt (pt (pt (pt (pt (pt (pt (pt e 10 v10) 11 v11) 12 v12) 13 v13) 3 v3) 14 (e 0)) 15 v15) 16 v16) 17 v17) 18 v18) 19 v19) 20 v20) 21 v21) h_6)
    ) (
      K (.bool false) h_3))
  (pt (pt (pt (pt (pt (pt (pt (envOf [a0]) 2 (.bool false)) 4 a0) 5 v5) 6 v6) 7 v7) 8 v8) 9 v9) h_1
theorem e49 (X : CallT) (a0 : Value) (h : AH) (K : Value → AH → Prop) : cwp2 Try.prog X (Try.f49.body.getD .skip) (endW Try.prog Try.f49 K) (envOf [a0]) h = s49 X a0 h K := by kernel_rfl
theorem c49 {a0 : Value} {h : AH} {K : Value → AH → Prop} (hs : s49 (callW Try.prog) a0 h K) : callW Try.prog 49 [a0] h K := callW_of Try.func49 (by kernel_rfl) (Eq.mpr (e49 _ a0 _ _) hs)

/-- canopy/canopyref3.state () -/
def s50 (X : CallT) (a0 a1 : Value) (h : AH) (K : Value → AH → Prop) : Prop :=
  aBox a0 none h fun v2 h_1 =>
  optW (pBin Try.prog .geq 3 a1 (.int .i64 0)) fun v6 =>
  gopW (gB v6 true) (fun k =>
    k a1 h_1) h_1 fun v8 h_2 =>
  gopW (gB v6 true) (fun k_1 =>
    optW (pOff 0 v2) fun v9_1 =>
    k_1 v9_1 h_2) h_2 fun v9 h_3 =>
  gopW (gB v6 true) (fun k_2 =>
    optW (rdRow false 1 v9 h_3) fun v10_1 =>
    k_2 v10_1 h_3) h_3 fun v10 h_4 =>
  gopW (gB v6 true) (fun k_3 =>
    optW (pBin Try.prog .lss 3 v8 v10) fun v11_1 =>
    k_3 v11_1 h_4) h_4 fun v11 h_5 =>
  optW (pPick v6 v11 (.bool false)) fun v12 =>
  K v12 h_5
theorem e50 (X : CallT) (a0 a1 : Value) (h : AH) (K : Value → AH → Prop) : cwp2 Try.prog X (Try.f50.body.getD .skip) (endW Try.prog Try.f50 K) (envOf [a0, a1]) h = s50 X a0 a1 h K := by kernel_rfl
theorem c50 {a0 a1 : Value} {h : AH} {K : Value → AH → Prop} (hs : s50 (callW Try.prog) a0 a1 h K) : callW Try.prog 50 [a0, a1] h K := callW_of Try.func50 (by kernel_rfl) (Eq.mpr (e50 _ a0 a1 _ _) hs)

/-- canopy/canopyref3.kind () -/
def s51 (X : CallT) (a0 a1 a2 : Value) (h : AH) (K : Value → AH → Prop) : Prop :=
  optW (pBin Try.prog .geq 3 a1 (.int .i64 0)) fun v8 =>
  gopW (gB v8 true) (fun k =>
    k a1 h) h fun v10 h_1 =>
  gopW (gB v8 true) (fun k_1 =>
    k_1 a0 h_1) h_1 fun v11 h_2 =>
  gopW (gB v8 true) (fun k_2 =>
    optW (lenSl v11) fun v12_1 =>
    k_2 v12_1 h_2) h_2 fun v12 h_3 =>
  gopW (gB v8 true) (fun k_3 =>
    optW (pBin Try.prog .lss 3 v10 v12) fun v13_1 =>
    k_3 v13_1 h_3) h_3 fun v13 h_4 =>
  optW (pPick v8 v13 (.bool false)) fun v14 =>
  gopW (gB v14 true) (fun k_4 =>
    k_4 a0 h_4) h_4 fun v16 h_5 =>
  gopW (gB v14 true) (fun k_5 =>
    k_5 a1 h_5) h_5 fun v17 h_6 =>
  gopW (gB v14 true) (fun k_6 =>
    optW (pIdxS 2 v16 v17) fun v18_1 =>
    k_6 v18_1 h_6) h_6 fun v18 h_7 =>
  gopW (gB v14 true) (fun k_7 =>
    optW (pOff 1 v18) fun v19_1 =>
    k_7 v19_1 h_7) h_7 fun v19 h_8 =>
  gopW (gB v14 true) (fun k_8 =>
    optW (rdRow false 1 v19 h_8) fun v20_1 =>
    k_8 v20_1 h_8) h_8 fun v20 h_9 =>
  gopW (gB v14 true) (fun k_9 =>
    k_9 a2 h_9) h_9 fun v21 h_10 =>
  gopW (gB v14 true) (fun k_10 =>
    optW (pBin Try.prog .eql 3 v20 v21) fun v22_1 =>
    k_10 v22_1 h_10) h_10 fun v22 h_11 =>
  optW (pPick v14 v22 (.bool false)) fun v23 =>
  K v23 h_11
theorem e51 (X : CallT) (a0 a1 a2 : Value) (h : AH) (K : Value → AH → Prop) : cwp2 Try.prog X (Try.f51.body.getD .skip) (endW Try.prog Try.f51 K) (envOf [a0, a1, a2]) h = s51 X a0 a1 a2 h K := by kernel_rfl
theorem c51 {a0 a1 a2 : Value} {h : AH} {K : Value → AH → Prop} (hs : s51 (callW Try.prog) a0 a1 a2 h K) : callW Try.prog 51 [a0, a1, a2] h K := callW_of Try.func51 (by kernel_rfl) (Eq.mpr (e51 _ a0 a1 a2 _ _) hs)

/-- canopy/canopyref4.inside (I at e: live [1, 3, 4], writes [3, 4, 15, 16, 17, 18, 19, 20, 21, 22, 23, 24, 25, 26, 27, 28, 29, 30, 31, 32, 33, 34, 35, 36]; I_1 at e_1: live [1, 3, 5], writes [3, 5, 37, 38, 39, 40, 41, 42, 43, 44, 45, 46, 47, 48, 49, 50, 51, 52, 53, 54, 55, 56, 57, 58]; I_2 at e_2: live [1, 3, 6], writes [3, 6, 59, 60, 61, 62, 63, 64, 65, 66, 67, 68, 69, 70, 71, 72, 73, 74, 75, 76, 77, 78, 79, 80]; I_3 at e_3: live [1, 3, 7], writes [2, 7, 81, 82, 83, 84, 85, 86, 87, 88, 89, 90, 91, 92, 93, 94, 95, 96, 97, 98, 99, 100]) -/
def s52 (X : CallT) (a0 : Value) (h : AH) (K : Value → AH → Prop) : Prop :=
  aBox a0 none h fun v1 h_1 =>
  optW (bldSl 1 [(.int .i64 0)] 0 []) fun c =>
  newW (some (h_1.length)) (.row c true) (reserve 1 h_1) fun i h_2 =>
  optW (pOff 2 v1) fun v9 =>
  (∀ x ∈ (idOf v9), ((reserve 1 h_1) : AH)[x]? = (h_2 : AH)[x]?) ∧
  optW (rdRow false 1 v9 h_2) fun v10 =>
  appSl 1 (.slice (some ⟨i, 0, none⟩) 0 0) v10 h_2 fun v11 h_3 =>
  optW (pOff 3 v1) fun v12 =>
  (∀ x ∈ (idOf v12), (h_2 : AH)[x]? = (h_3 : AH)[x]?) ∧
  (∀ x ∈ (idOf v12), ((reserve 1 h_1) : AH)[x]? = (h_2 : AH)[x]?) ∧
  optW (rdRow false 1 v12 h_3) fun v13 =>
  appSl 1 v11 v13 h_3 fun v14 h_4 =>
  loopE (fun I e h_5 =>
    optW (pOff 6 (e 1)) fun v16 =>
    optW (rdRow false 1 v16 h_5) fun v17 =>
    optW (lenSl v17) fun v18 =>
    optW (pBin Try.prog .lss 3 (e 4) v18) fun v19 =>
    condW v19 (
      optW (pOff 6 (e 1)) fun v23 =>
      optW (rdRow false 1 v23 (reserve 1 h_5)) fun v24 =>
      optW (pIdxS 3 v24 (e 4)) fun v26 =>
      optW (pOff 0 v26) fun v27 =>
      optW (rdRow false 1 v27 (reserve 1 h_5)) fun v28 =>
      optW (pOff 6 (e 1)) fun v29 =>
      optW (rdRow false 1 v29 (reserve 1 h_5)) fun v30 =>
      optW (pIdxS 3 v30 (e 4)) fun v32 =>
      optW (pOff 2 v32) fun v33 =>
      optW (rdRow false 1 v33 (reserve 1 h_5)) fun v34 =>
      optW (bldSl 1 [(.int .i64 0)] 2 [(0, v28), (1, v34)]) fun c_1 =>
      newW (some (h_5.length)) (.row c_1 true) (reserve 1 h_5) fun i_1 h_6 =>
      appSl 1 (e 3) (.slice (some ⟨i_1, 0, none⟩) 2 2) h_6 fun v36 h_7 =>
      optW (pBin Try.prog .add 3 (e 4) (.int .i64 1)) fun v21 =>
      I (pt (pt (pt (pt (pt (pt (pt (pt (pt (pt (pt (pt (pt (pt (pt (pt (pt (pt (pt (pt (pt (pt (pt (pt e 15 (e 4)) 16 v16) 17 v17) 18 v18) 19 v19) 22 (e 3)) 23 v23) 24 v24) 25 (e 4)) 26 v26) 27 v27) 28 v28) 29 v29) 30 v30) 31 (e 4)) 32 v32) 33 v33) 34 v34) 35 (.slice (some ⟨i_1, 0, none⟩) 2 2)) 36 v36) 3 v36) 20 (e 4)) 21 v21) 4 v21) h_7
    ) (
      loopE (fun I_1 e_1 h_8 =>
        optW (pOff 4 (e_1 1)) fun v38 =>
        optW (rdRow false 1 v38 h_8) fun v39 =>
        optW (lenSl v39) fun v40 =>
        optW (pBin Try.prog .lss 3 (e_1 5) v40) fun v41 =>
        condW v41 (
          optW (pOff 4 (e_1 1)) fun v45 =>
          optW (rdRow false 1 v45 (reserve 1 h_8)) fun v46 =>
          optW (pIdxS 4 v46 (e_1 5)) fun v48 =>
          optW (pOff 0 v48) fun v49 =>
          optW (rdRow false 1 v49 (reserve 1 h_8)) fun v50 =>
          optW (pOff 4 (e_1 1)) fun v51 =>
          optW (rdRow false 1 v51 (reserve 1 h_8)) fun v52 =>
          optW (pIdxS 4 v52 (e_1 5)) fun v54 =>
          optW (pOff 2 v54) fun v55 =>
          optW (rdRow false 1 v55 (reserve 1 h_8)) fun v56 =>
          optW (bldSl 1 [(.int .i64 0)] 2 [(0, v50), (1, v56)]) fun c_2 =>
          newW (some (h_8.length)) (.row c_2 true) (reserve 1 h_8) fun i_2 h_9 =>
          appSl 1 (e_1 3) (.slice (some ⟨i_2, 0, none⟩) 2 2) h_9 fun v58 h_10 =>
          optW (pBin Try.prog .add 3 (e_1 5) (.int .i64 1)) fun v43 =>
          I_1 (pt (pt (pt (pt (pt (pt (pt (pt (pt (pt (pt (pt (pt (pt (pt (pt (pt (pt (pt (pt (pt (pt (pt (pt e_1 37 (e_1 5)) 38 v38) 39 v39) 40 v40) 41 v41) 44 (e_1 3)) 45 v45) 46 v46) 47 (e_1 5)) 48 v48) 49 v49) 50 v50) 51 v51) 52 v52) 53 (e_1 5)) 54 v54) 55 v55) 56 v56) 57 (.slice (some ⟨i_2, 0, none⟩) 2 2)) 58 v58) 3 v58) 42 (e_1 5)) 43 v43) 5 v43) h_10
        ) (
          loopE (fun I_2 e_2 h_11 =>
            optW (pOff 5 (e_2 1)) fun v60 =>
            optW (rdRow false 1 v60 h_11) fun v61 =>
            optW (lenSl v61) fun v62 =>
            optW (pBin Try.prog .lss 3 (e_2 6) v62) fun v63 =>
            condW v63 (
              optW (pOff 5 (e_2 1)) fun v67 =>
              optW (rdRow false 1 v67 (reserve 1 h_11)) fun v68 =>
              optW (pIdxS 4 v68 (e_2 6)) fun v70 =>
              optW (pOff 0 v70) fun v71 =>
              optW (rdRow false 1 v71 (reserve 1 h_11)) fun v72 =>
              optW (pOff 5 (e_2 1)) fun v73 =>
              optW (rdRow false 1 v73 (reserve 1 h_11)) fun v74 =>
              optW (pIdxS 4 v74 (e_2 6)) fun v76 =>
              optW (pOff 3 v76) fun v77 =>
              optW (rdRow false 1 v77 (reserve 1 h_11)) fun v78 =>
              optW (bldSl 1 [(.int .i64 0)] 2 [(0, v72), (1, v78)]) fun c_3 =>
              newW (some (h_11.length)) (.row c_3 true) (reserve 1 h_11) fun i_3 h_12 =>
              appSl 1 (e_2 3) (.slice (some ⟨i_3, 0, none⟩) 2 2) h_12 fun v80 h_13 =>
              optW (pBin Try.prog .add 3 (e_2 6) (.int .i64 1)) fun v65 =>
              I_2 (pt (pt (pt (pt (pt (pt (pt (pt (pt (pt (pt (pt (pt (pt (pt (pt (pt (pt (pt (pt (pt (pt (pt (pt e_2 59 (e_2 6)) 60 v60) 61 v61) 62 v62) 63 v63) 66 (e_2 3)) 67 v67) 68 v68) 69 (e_2 6)) 70 v70) 71 v71) 72 v72) 73 v73) 74 v74) 75 (e_2 6)) 76 v76) 77 v77) 78 v78) 79 (.slice (some ⟨i_3, 0, none⟩) 2 2)) 80 v80) 3 v80) 64 (e_2 6)) 65 v65) 6 v65) h_13
            ) (
              loopE (fun I_3 e_3 h_14 =>
                optW (lenSl (e_3 3)) fun v83 =>
                optW (pBin Try.prog .lss 3 (e_3 7) v83) fun v84 =>
                condW v84 (
                  optW (pIdxS 1 (e_3 3) (e_3 7)) fun v89 =>
                  optW (rdRow false 1 v89 h_14) fun v90 =>
                  optW (pBin Try.prog .lss 3 v90 (.int .i64 0)) fun v91 =>
                  gopD (gB v91 false) (fun k =>
                    k (e_3 3) h_14 [] ((3, (idOf v89)) :: [])) h_14 [] ((3, (idOf v89)) :: []) fun v93 h_15 H S =>
                  gopD (gB v91 false) (fun k_1 =>
                    k_1 (e_3 7) h_15 H S) h_15 H S fun v94 h_16 H_1 S_1 =>
                  gopD (gB v91 false) (fun k_2 =>
                    optW (pIdxS 1 v93 v94) fun v95_1 =>
                    k_2 v95_1 h_16 H_1 S_1) h_16 H_1 S_1 fun v95 h_17 H_2 S_2 =>
                  gopD (gB v91 false) (fun k_3 =>
                    histC #[0, 0, 3, 7, 15, 31, 63, 63, 255, 511, 63, 1087, 4095, 8191] 9 (idOf v95) H_2 (
                      optW (rdRow false 1 v95 h_17) fun v96_1 =>
                      k_3 v96_1 h_17 H_2 ((9, (idOf v95)) :: S_2))) h_17 H_2 S_2 fun v96 h_18 H_3 S_3 =>
                  gopD (gB v91 false) (fun k_4 =>
                    optW (pOff 0 (e_3 1)) fun v97_1 =>
                    k_4 v97_1 h_18 H_3 S_3) h_18 H_3 S_3 fun v97 h_19 H_4 S_4 =>
                  gopD (gB v91 false) (fun k_5 =>
                    histC #[0, 0, 3, 7, 15, 31, 63, 63, 255, 511, 63, 1087, 4095, 8191] 11 (idOf v97) H_4 (
                      optW (rdRow false 1 v97 h_19) fun v98_1 =>
                      k_5 v98_1 h_19 H_4 ((11, (idOf v97)) :: S_4))) h_19 H_4 S_4 fun v98 h_20 H_5 S_5 =>
                  gopD (gB v91 false) (fun k_6 =>
                    optW (pBin Try.prog .geq 3 v96 v98) fun v99_1 =>
                    k_6 v99_1 h_20 H_5 S_5) h_20 H_5 S_5 fun v99 h_21 H_6 S_6 =>
                  optW (pPick v91 (.bool true) v99) fun v100 =>
                  condW v100 (
                    K (.bool false) h_21
                  ) (
                    optW (pBin Try.prog .add 3 (e_3 7) (.int .i64 1)) fun v86 =>
                    I_3 (pt (pt (pt (pt (pt (pt (pt (pt (pt (pt (pt (pt (pt (pt (pt (pt (pt (pt (pt (pt (pt e_3 81 (e_3 7)) 82 (e_3 3)) 83 v83) 84 v84) 87 (e_3 3)) 88 (e_3 7)) 89 v89) 90 v90) 91 v91) 92 v91) 93 v93) 94 v94) 95 v95) 96 v96) 97 v97) 98 v98) 99 v99) 100 v100) 85 (e_3 7)) 86 v86) 7 v86) h_21)
                ) (
                  K (.bool true) h_14))
              (pt (pt (pt (pt (pt (pt e_2 59 (e_2 6)) 60 v60) 61 v61) 62 v62) 63 v63) 7 (.int .i64 0)) h_11))
          (pt (pt (pt (pt (pt (pt e_1 37 (e_1 5)) 38 v38) 39 v39) 40 v40) 41 v41) 6 (.int .i64 0)) h_8))
      (pt (pt (pt (pt (pt (pt e 15 (e 4)) 16 v16) 17 v17) 18 v18) 19 v19) 5 (.int .i64 0)) h_5))
  (pt (pt (pt (pt (pt (pt (pt (pt (pt (pt (pt (envOf [a0]) 1 v1) 2 (.bool false)) 8 (.slice (some ⟨i, 0, none⟩) 0 0)) 9 v9) 10 v10) 11 v11) 12 v12) 13 v13) 14 v14) 3 v14) 4 (.int .i64 0)) h_4
theorem e52 (X : CallT) (a0 : Value) (h : AH) (K : Value → AH → Prop) : cwp2 Try.prog X (Try.f52.body.getD .skip) (endW Try.prog Try.f52 K) (envOf [a0]) h = s52 X a0 h K := by kernel_rfl
theorem c52 {a0 : Value} {h : AH} {K : Value → AH → Prop} (hs : s52 (callW Try.prog) a0 h K) : callW Try.prog 52 [a0] h K := callW_of Try.func52 (by kernel_rfl) (Eq.mpr (e52 _ a0 _ _) hs)

/-- canopy/canopyref4.back (I at e: live [3, 4, 5, 6, 9, 10, 11], writes [11, 12, 13, 14, 15, 25, 26, 27, 28, 29, 30, 31, 32, 33, 34, 35, 36, 37, 38, 39, 40, 41, 42, 43, 44, 45, 46, 47, 48, 49, 50, 51, 52, 53, 54, 55, 56, 57, 58, 59, 60, 61, 62, 63, 64, 65, 66, 67, 68, 69, 70, 71, 72, 73, 74, 75, 76, 77, 78, 79, 80, 81, 82, 83, 84, 85, 86, 87, 88, 89, 90, 91, 92, 93, 94, 95, 96, 97, 98, 99, 100, 101, 102]; I_1 at e_1: live [3, 4, 5, 6, 9, 10, 12, 13], writes [13, 14, 15, 42, 43, 44, 45, 46, 47, 48, 49, 50, 51, 52, 53, 54, 55, 56, 57, 58, 59, 60, 61, 62, 63, 64, 65, 66, 67, 68, 69, 70, 71, 72, 73, 74, 75, 76, 77, 78, 79, 80, 81, 82, 83, 84, 85, 86, 87, 88, 89, 90, 91, 92, 93, 94, 95, 96, 97, 98, 99, 100, 101, 102]; I_2 at e_2: live [5, 9, 10, 12, 14, 15], writes [15, 79, 80, 81, 82, 83, 84, 85, 86, 87, 88, 89, 90, 91, 92, 93, 94, 95, 96, 97, 98, 99, 100, 101, 102]) -/
def s53 (X : CallT) (a0 a1 a2 a3 : Value) (h : AH) (K : Value → AH → Prop) : Prop :=
  aBox a0 none h fun v4 h_1 =>
  aBox a1 none h_1 fun v5 h_2 =>
  aBox a2 none h_2 fun v6 h_3 =>
  newR none [(.slice none 0 0), (.int .i64 0)] h_3 fun v8 h_4 =>
  optW (pOff 0 v4) fun v16 =>
  optW (rdRow false 1 v16 h_4) fun v17 =>
  optW (pBin Try.prog .mul 3 v17 v17) fun v20 =>
  optW (mkSl 1 1 [(.bool false)] v20 v20) fun c =>
  newW (some (h_4.length)) (.row c.2.2 true) (reserve 2 h_4) fun i h_5 =>
  optW (pOff 1 v5) fun v22 =>
  (∀ x ∈ (idOf v22), ((reserve 2 h_4) : AH)[x]? = (h_5 : AH)[x]?) ∧
  optW (rdRow false 1 v22 h_5) fun v23 =>
  optW (bld [(.slice none 0 0), (.int .i64 0)] [(0, 1), (1, 1)] [(0, (.slice (some ⟨i, 0, none⟩) c.1 c.2.1)), (1, v23)]) fun v24 =>
  newR (some (h_4.length + 1)) [(.slice none 0 0), (.int .i64 0)] h_5 fun v10 h_6 =>
  optW (pStore 2 v10 v24 h_6) fun h_7 =>
  loopE (fun I e h_8 =>
    optW (pOff 4 (e 4)) fun v26 =>
    optW (rdRow false 1 v26 h_8) fun v27 =>
    optW (lenSl v27) fun v28 =>
    optW (pBin Try.prog .lss 3 (e 11) v28) fun v29 =>
    condW v29 (
      optW (pOff 4 (e 4)) fun v32 =>
      optW (rdRow false 1 v32 h_8) fun v33 =>
      optW (pIdxS 4 v33 (e 11)) fun v35 =>
      optW (rdRow true 4 v35 h_8) fun v36 =>
      newR none [(.int .i64 0), (.int .i64 0), (.int .i64 0), (.int .i64 0)] h_8 fun v12 h_9 =>
      optW (pStore 4 v12 v36 h_9) fun h_10 =>
      optW (pOff 1 v12) fun v37 =>
      optW (rdRow false 1 v37 h_10) fun v38 =>
      optW (pOff 1 (e 6)) fun v39 =>
      optW (rdRow false 1 v39 h_10) fun v40 =>
      optW (pBin Try.prog .neq 3 v38 v40) fun v41 =>
      condW v41 (
        optW (pBin Try.prog .add 3 (e 11) (.int .i64 1)) fun v31 =>
        I (pt (pt (pt (pt (pt (pt (pt (pt (pt (pt (pt (pt (pt (pt (pt (pt (pt (pt (pt e 25 (e 11)) 26 v26) 27 v27) 28 v28) 29 v29) 32 v32) 33 v33) 34 (e 11)) 35 v35) 36 v36) 12 v12) 37 v37) 38 v38) 39 v39) 40 v40) 41 v41) 30 (e 11)) 31 v31) 11 v31) h_10
      ) (
        loopE (fun I_1 e_1 h_11 =>
          optW (pOff 5 (e_1 4)) fun v43 =>
          optW (rdRow false 1 v43 h_11) fun v44 =>
          optW (lenSl v44) fun v45 =>
          optW (pBin Try.prog .lss 3 (e_1 13) v45) fun v46 =>
          condW v46 (
            optW (pOff 5 (e_1 4)) fun v49 =>
            optW (rdRow false 1 v49 h_11) fun v50 =>
            optW (pIdxS 4 v50 (e_1 13)) fun v52 =>
            optW (rdRow true 4 v52 h_11) fun v53 =>
            newR none [(.int .i64 0), (.int .i64 0), (.int .i64 0), (.int .i64 0)] h_11 fun v14 h_12 =>
            optW (pStore 4 v14 v53 h_12) fun h_13 =>
            optW (pOff 1 v14) fun v54 =>
            optW (rdRow false 1 v54 h_13) fun v55 =>
            optW (pBin Try.prog .neq 3 v55 (e_1 3)) fun v57 =>
            gopW (gB v57 false) (fun k =>
              optW (pOff 2 v14) fun v59_1 =>
              k v59_1 h_13) h_13 fun v59 h_14 =>
            gopW (gB v57 false) (fun k_1 =>
              optW (rdRow false 1 v59 h_14) fun v60_1 =>
              k_1 v60_1 h_14) h_14 fun v60 h_15 =>
            gopW (gB v57 false) (fun k_2 =>
              optW (pOff 3 (e_1 12)) fun v61_1 =>
              k_2 v61_1 h_15) h_15 fun v61 h_16 =>
            gopW (gB v57 false) (fun k_3 =>
              optW (rdRow false 1 v61 h_16) fun v62_1 =>
              k_3 v62_1 h_16) h_16 fun v62 h_17 =>
            gopW (gB v57 false) (fun k_4 =>
              optW (pBin Try.prog .neq 3 v60 v62) fun v63_1 =>
              k_4 v63_1 h_17) h_17 fun v63 h_18 =>
            optW (pPick v57 (.bool true) v63) fun v64 =>
            gopW (gB v64 false) (fun k_5 =>
              optW (pOff 0 (e_1 6)) fun v66_1 =>
              k_5 v66_1 h_18) h_18 fun v66 h_19 =>
            gopW (gB v64 false) (fun k_6 =>
              optW (rdRow false 1 v66 h_19) fun v67_1 =>
              k_6 v67_1 h_19) h_19 fun v67 h_20 =>
            gopW (gB v64 false) (fun k_7 =>
              optW (pOff 2 (e_1 12)) fun v68_1 =>
              k_7 v68_1 h_20) h_20 fun v68 h_21 =>
            gopW (gB v64 false) (fun k_8 =>
              optW (rdRow false 1 v68 h_21) fun v69_1 =>
              k_8 v69_1 h_21) h_21 fun v69 h_22 =>
            gopW (gB v64 false) (fun k_9 =>
              k_9 (e_1 9) h_22) h_22 fun v70 h_23 =>
            gopW (gB v64 false) (fun k_10 =>
              optW (pBin Try.prog .mul 3 v69 v70) fun v71_1 =>
              k_10 v71_1 h_23) h_23 fun v71 h_24 =>
            gopW (gB v64 false) (fun k_11 =>
              optW (pOff 0 v14) fun v72_1 =>
              k_11 v72_1 h_24) h_24 fun v72 h_25 =>
            gopW (gB v64 false) (fun k_12 =>
              optW (rdRow false 1 v72 h_25) fun v73_1 =>
              k_12 v73_1 h_25) h_25 fun v73 h_26 =>
            gopW (gB v64 false) (fun k_13 =>
              optW (pBin Try.prog .add 3 v71 v73) fun v74_1 =>
              k_13 v74_1 h_26) h_26 fun v74 h_27 =>
            gopW (gB v64 false) (fun k_14 =>
              optW (pIdxS 1 v67 v74) fun v75_1 =>
              k_14 v75_1 h_27) h_27 fun v75 h_28 =>
            gopW (gB v64 false) (fun k_15 =>
              optW (rdRow false 1 v75 h_28) fun v76_1 =>
              k_15 v76_1 h_28) h_28 fun v76 h_29 =>
            gopW (gB v64 false) (fun k_16 =>
              optW (pUn .not v76) fun v77_1 =>
              k_16 v77_1 h_29) h_29 fun v77 h_30 =>
            optW (pPick v64 (.bool true) v77) fun v78 =>
            condW v78 (
              optW (pBin Try.prog .add 3 (e_1 13) (.int .i64 1)) fun v48 =>
              I_1 (pt (pt (pt (pt (pt (pt (pt (pt (pt (pt (pt (pt (pt (pt (pt (pt (pt (pt (pt (pt (pt (pt (pt (pt (pt (pt (pt (pt (pt (pt (pt (pt (pt (pt (pt (pt (pt (pt (pt e_1 42 (e_1 13)) 43 v43) 44 v44) 45 v45) 46 v46) 49 v49) 50 v50) 51 (e_1 13)) 52 v52) 53 v53) 14 v14) 54 v54) 55 v55) 56 (e_1 3)) 57 v57) 58 v57) 59 v59) 60 v60) 61 v61) 62 v62) 63 v63) 64 v64) 65 v64) 66 v66) 67 v67) 68 v68) 69 v69) 70 v70) 71 v71) 72 v72) 73 v73) 74 v74) 75 v75) 76 v76) 77 v77) 78 v78) 47 (e_1 13)) 48 v48) 13 v48) h_30
            ) (
              loopE (fun I_2 e_2 h_31 =>
                optW (pBin Try.prog .lss 3 (e_2 15) (e_2 9)) fun v81 =>
                condW v81 (
                  optW (pOff 0 (e_2 5)) fun v84 =>
                  optW (rdRow false 1 v84 h_31) fun v85 =>
                  optW (pBin Try.prog .mul 3 (e_2 15) (e_2 9)) fun v88 =>
                  optW (pOff 0 (e_2 12)) fun v89 =>
                  optW (rdRow false 1 v89 h_31) fun v90 =>
                  optW (pBin Try.prog .add 3 v88 v90) fun v91 =>
                  optW (pIdxS 1 v85 v91) fun v92 =>
                  optW (rdRow false 1 v92 h_31) fun v93 =>
                  condW v93 (
                    optW (pOff 0 (e_2 10)) fun v94 =>
                    optW (rdRow false 1 v94 h_31) fun v95 =>
                    optW (pBin Try.prog .mul 3 (e_2 15) (e_2 9)) fun v98 =>
                    optW (pOff 3 (e_2 14)) fun v99 =>
                    optW (rdRow false 1 v99 h_31) fun v100 =>
                    optW (pBin Try.prog .add 3 v98 v100) fun v101 =>
                    optW (pIdxS 1 v95 v101) fun v102 =>
                    optW (pStore 1 v102 (.bool true) h_31) fun h_32 =>
                    optW (pBin Try.prog .add 3 (e_2 15) (.int .i64 1)) fun v83 =>
                    I_2 (pt (pt (pt (pt (pt (pt (pt (pt (pt (pt (pt (pt (pt (pt (pt (pt (pt (pt (pt (pt (pt (pt (pt (pt (pt e_2 79 (e_2 15)) 80 (e_2 9)) 81 v81) 84 v84) 85 v85) 86 (e_2 15)) 87 (e_2 9)) 88 v88) 89 v89) 90 v90) 91 v91) 92 v92) 93 v93) 94 v94) 95 v95) 96 (e_2 15)) 97 (e_2 9)) 98 v98) 99 v99) 100 v100) 101 v101) 102 v102) 82 (e_2 15)) 83 v83) 15 v83) h_32
                  ) (
                    optW (pBin Try.prog .add 3 (e_2 15) (.int .i64 1)) fun v83_1 =>
                    I_2 (pt (pt (pt (pt (pt (pt (pt (pt (pt (pt (pt (pt (pt (pt (pt (pt e_2 79 (e_2 15)) 80 (e_2 9)) 81 v81) 84 v84) 85 v85) 86 (e_2 15)) 87 (e_2 9)) 88 v88) 89 v89) 90 v90) 91 v91) 92 v92) 93 v93) 82 (e_2 15)) 83 v83_1) 15 v83_1) h_31)
                ) (
                  optW (pBin Try.prog .add 3 (e_2 13) (.int .i64 1)) fun v48_1 =>
                  I_1 (pt (pt (pt (pt (pt (pt e_2 79 (e_2 15)) 80 (e_2 9)) 81 v81) 47 (e_2 13)) 48 v48_1) 13 v48_1) h_31))
              (pt (pt (pt (pt (pt (pt (pt (pt (pt (pt (pt (pt (pt (pt (pt (pt (pt (pt (pt (pt (pt (pt (pt (pt (pt (pt (pt (pt (pt (pt (pt (pt (pt (pt (pt (pt (pt e_1 42 (e_1 13)) 43 v43) 44 v44) 45 v45) 46 v46) 49 v49) 50 v50) 51 (e_1 13)) 52 v52) 53 v53) 14 v14) 54 v54) 55 v55) 56 (e_1 3)) 57 v57) 58 v57) 59 v59) 60 v60) 61 v61) 62 v62) 63 v63) 64 v64) 65 v64) 66 v66) 67 v67) 68 v68) 69 v69) 70 v70) 71 v71) 72 v72) 73 v73) 74 v74) 75 v75) 76 v76) 77 v77) 78 v78) 15 (.int .i64 0)) h_30)
          ) (
            optW (pBin Try.prog .add 3 (e_1 11) (.int .i64 1)) fun v31_1 =>
            I (pt (pt (pt (pt (pt (pt (pt (pt e_1 42 (e_1 13)) 43 v43) 44 v44) 45 v45) 46 v46) 30 (e_1 11)) 31 v31_1) 11 v31_1) h_11))
        (pt (pt (pt (pt (pt (pt (pt (pt (pt (pt (pt (pt (pt (pt (pt (pt (pt e 25 (e 11)) 26 v26) 27 v27) 28 v28) 29 v29) 32 v32) 33 v33) 34 (e 11)) 35 v35) 36 v36) 12 v12) 37 v37) 38 v38) 39 v39) 40 v40) 41 v41) 13 (.int .i64 0)) h_10)
    ) (
      optW (rdRow true 2 (e 10) h_8) fun v103 =>
      optW (pStore 2 (e 8) v103 h_8) fun h_33 =>
      optW (resList Try.prog (pt (pt (pt (pt (pt (pt e 25 (e 11)) 26 v26) 27 v27) 28 v28) 29 v29) 103 v103) h_33 Try.f53.results.toList) fun vs => K (resOf vs) h_33))
  (pt (pt (pt (pt (pt (pt (pt (pt (pt (pt (pt (pt (pt (pt (pt (pt (envOf [a0, a1, a2, a3]) 4 v4) 5 v5) 6 v6) 8 v8) 16 v16) 17 v17) 9 v17) 18 v17) 19 v17) 20 v20) 21 (.slice (some ⟨i, 0, none⟩) c.1 c.2.1)) 22 v22) 23 v23) 24 v24) 10 v10) 11 (.int .i64 0)) h_7
theorem e53 (X : CallT) (a0 a1 a2 a3 : Value) (h : AH) (K : Value → AH → Prop) : cwp2 Try.prog X (Try.f53.body.getD .skip) (endW Try.prog Try.f53 K) (envOf [a0, a1, a2, a3]) h = s53 X a0 a1 a2 a3 h K := by kernel_rfl
theorem c53 {a0 a1 a2 a3 : Value} {h : AH} {K : Value → AH → Prop} (hs : s53 (callW Try.prog) a0 a1 a2 a3 h K) : callW Try.prog 53 [a0, a1, a2, a3] h K := callW_of Try.func53 (by kernel_rfl) (Eq.mpr (e53 _ a0 a1 a2 a3 _ _) hs)

/-- canopy/canopylaw3.within () -/
def s54 (X : CallT) (a0 a1 : Value) (h : AH) (K : Value → AH → Prop) : Prop :=
  optW (pBin Try.prog .rem 3 a0 a1) fun v8 =>
  optW (pBin Try.prog .lss 3 v8 (.int .i64 0)) fun v10 =>
  condW v10 (
    optW (pBin Try.prog .add 3 v8 a1) fun v13 =>
    K v13 h
  ) (
    K v8 h)
theorem e54 (X : CallT) (a0 a1 : Value) (h : AH) (K : Value → AH → Prop) : cwp2 Try.prog X (Try.f54.body.getD .skip) (endW Try.prog Try.f54 K) (envOf [a0, a1]) h = s54 X a0 a1 h K := by kernel_rfl
theorem c54 {a0 a1 : Value} {h : AH} {K : Value → AH → Prop} (hs : s54 (callW Try.prog) a0 a1 h K) : callW Try.prog 54 [a0, a1] h K := callW_of Try.func54 (by kernel_rfl) (Eq.mpr (e54 _ a0 a1 _ _) hs)

/-- canopy/canopylaw3.pick (I at e: live [0, 1, 7, 8], writes [7, 8, 9, 10, 11, 12, 13, 14, 15, 16, 17, 18, 19, 20, 21, 22, 23, 24, 25]) -/
def s55 (X : CallT) (a0 a1 a2 : Value) (h : AH) (K : Value → AH → Prop) : Prop :=
  loopE (fun I e h_1 =>
    optW (lenSl (e 0)) fun v11 =>
    optW (pBin Try.prog .lss 3 (e 8) v11) fun v12 =>
    condW v12 (
      optW (pIdxS 2 (e 0) (e 8)) fun v17 =>
      optW (pOff 1 v17) fun v18 =>
      optW (rdRow false 1 v18 h_1) fun v19 =>
      optW (pBin Try.prog .eql 3 v19 (e 1)) fun v21 =>
      condW v21 (
        optW (bldSl 1 [(.int .i64 0)] 1 [(0, (e 8))]) fun c =>
        newW none (.row c true) h_1 fun i h_2 =>
        appSl 1 (e 7) (.slice (some ⟨i, 0, none⟩) 1 1) h_2 fun v25 h_3 =>
        optW (pBin Try.prog .add 3 (e 8) (.int .i64 1)) fun v14 =>
        I (pt (pt (pt (pt (pt (pt (pt (pt (pt (pt (pt (pt (pt (pt (pt (pt (pt (pt (pt e 9 (e 8)) 10 (e 0)) 11 v11) 12 v12) 15 (e 0)) 16 (e 8)) 17 v17) 18 v18) 19 v19) 20 (e 1)) 21 v21) 22 (e 7)) 23 (e 8)) 24 (.slice (some ⟨i, 0, none⟩) 1 1)) 25 v25) 7 v25) 13 (e 8)) 14 v14) 8 v14) h_3
      ) (
        optW (pBin Try.prog .add 3 (e 8) (.int .i64 1)) fun v14_1 =>
        I (pt (pt (pt (pt (pt (pt (pt (pt (pt (pt (pt (pt (pt (pt e 9 (e 8)) 10 (e 0)) 11 v11) 12 v12) 15 (e 0)) 16 (e 8)) 17 v17) 18 v18) 19 v19) 20 (e 1)) 21 v21) 13 (e 8)) 14 v14_1) 8 v14_1) h_1)
    ) (
      optW (lenSl (e 7)) fun v27 =>
      optW (pBin Try.prog .eql 3 v27 (.int .i64 0)) fun v28 =>
      condW v28 (
        K (.int .i64 (-1)) h_1
      ) (
        optW (lenSl (e 7)) fun v32 =>
        optW (pBin Try.prog .rem 3 (e 2) v32) fun v33 =>
        optW (pIdxS 1 (e 7) v33) fun v34 =>
        optW (rdRow false 1 v34 h_1) fun v35 =>
        K v35 h_1)))
  (pt (pt (pt (envOf [a0, a1, a2]) 6 (.int .i64 0)) 7 (.slice none 0 0)) 8 (.int .i64 0)) h
theorem e55 (X : CallT) (a0 a1 a2 : Value) (h : AH) (K : Value → AH → Prop) : cwp2 Try.prog X (Try.f55.body.getD .skip) (endW Try.prog Try.f55 K) (envOf [a0, a1, a2]) h = s55 X a0 a1 a2 h K := by kernel_rfl
theorem c55 {a0 a1 a2 : Value} {h : AH} {K : Value → AH → Prop} (hs : s55 (callW Try.prog) a0 a1 a2 h K) : callW Try.prog 55 [a0, a1, a2] h K := callW_of Try.func55 (by kernel_rfl) (Eq.mpr (e55 _ a0 a1 a2 _ _) hs)

end Go.Proofs.Ytebbjimmgblcpaa.W
