/- Go functions, printed by a program as predicates on what may come behind; each is the function. Conditions: none. -/
import Derived.Test.YtebbjimmgblcpaaQA1
import Derived.Test.YtebbjimmgblcpaaProg
namespace Go.Proofs.Ytebbjimmgblcpaa.W
open Go Go.AM
set_option linter.unusedVariables false
set_option maxRecDepth 100000

/-- canopy/feed.Tokens () -/
def s28 (X : CallT) (a0 a1 : Value) (h : AH) (K : Value → AH → Prop) : Prop :=
  optW (bld [(.int .i64 0), (.int .i64 0), (.slice none 0 0), (.slice none 0 0), (.slice none 0 0), (.slice none 0 0), (.slice none 0 0)] [(0, 1), (1, 1), (2, 1), (3, 1), (4, 1), (5, 1), (6, 1)] []) fun v12 =>
  X 22 [a0, v12, (.int .i64 9223372036854775807)] h fun v13 h_1 =>
  strB a1 none h_1 fun v16 h_2 =>
  X 23 [v13, v16] h_2 fun v17 h_3 =>
  X 24 [v13] h_3 fun v20 h_4 =>
  optW (pExtract v20 0) fun v21 =>
  optW (pExtract v20 1) fun v22 =>
  optW (pExtract v20 2) fun v23 =>
  optW (pBin Try.prog .neq 42 v23 (.int .i64 0)) fun v25 =>
  condW v25 (
    K (.tuple #[(.slice none 0 0), v22, v23]) h_4
  ) (
    optW (pNilCheck v13) fun v29 =>
    optW (pOff 15 v29) fun v30 =>
    optW (rdRow false 1 v30 h_4) fun v31 =>
    X 40 [v31] h_4 fun v32 h_5 =>
    K (.tuple #[v32, (.int .i64 0), (.int .i64 0)]) h_5)
theorem e28 (X : CallT) (a0 a1 : Value) (h : AH) (K : Value → AH → Prop) : cwp2 Try.prog X (Try.f28.body.getD .skip) (endW Try.prog Try.f28 K) (envOf [a0, a1]) h = s28 X a0 a1 h K := by kernel_rfl
theorem c28 {a0 a1 : Value} {h : AH} {K : Value → AH → Prop} (hs : s28 (callW Try.prog) a0 a1 h K) : callW Try.prog 28 [a0, a1] h K := callW_of Try.func28 (by kernel_rfl) (Eq.mpr (e28 _ a0 a1 _ _) hs)

/-- canopy/canopyref14.Tokens () -/
def s29 (X : CallT) (a0 a1 : Value) (h : AH) (K : Value → AH → Prop) : Prop :=
  optW (bld [(.int .i64 0), (.int .i64 0), (.slice none 0 0), (.slice none 0 0), (.slice none 0 0), (.slice none 0 0), (.slice none 0 0)] [(0, 1), (1, 1), (2, 1), (3, 1), (4, 1), (5, 1), (6, 1)] []) fun v12 =>
  X 36 [a0, v12, (.int .i64 1099511627776)] h fun v13 h_1 =>
  strB a1 none h_1 fun v16 h_2 =>
  X 37 [v13, v16] h_2 fun v17 h_3 =>
  X 39 [v13] h_3 fun v20 h_4 =>
  optW (pExtract v20 0) fun v21 =>
  optW (pExtract v20 1) fun v22 =>
  optW (pExtract v20 2) fun v23 =>
  optW (pBin Try.prog .neq 3 v23 (.int .i64 0)) fun v25 =>
  condW v25 (
    K (.tuple #[(.slice none 0 0), v22, v23]) h_4
  ) (
    optW (pNilCheck v13) fun v29 =>
    optW (pOff 12 v29) fun v30 =>
    optW (rdRow false 1 v30 h_4) fun v31 =>
    K (.tuple #[v31, (.int .i64 0), (.int .i64 0)]) h_4)
theorem e29 (X : CallT) (a0 a1 : Value) (h : AH) (K : Value → AH → Prop) : cwp2 Try.prog X (Try.f29.body.getD .skip) (endW Try.prog Try.f29 K) (envOf [a0, a1]) h = s29 X a0 a1 h K := by kernel_rfl
theorem c29 {a0 a1 : Value} {h : AH} {K : Value → AH → Prop} (hs : s29 (callW Try.prog) a0 a1 h K) : callW Try.prog 29 [a0, a1] h K := callW_of Try.func29 (by kernel_rfl) (Eq.mpr (e29 _ a0 a1 _ _) hs)

/-- canopy/canopyref1.Ints (I at e: live [0, 1, 5], writes [4, 5, 11, 12, 13, 14, 15, 16, 17, 18, 19, 20, 21, 22, 23, 24, 25]) -/
def s30 (X : CallT) (a0 a1 : Value) (h : AH) (K : Value → AH → Prop) : Prop :=
  optW (lenSl a0) fun v7 =>
  optW (lenSl a1) fun v9 =>
  optW (pBin Try.prog .neq 3 v7 v9) fun v10 =>
  condW v10 (
    K (.bool false) h
  ) (
    loopE (fun I e h_1 =>
      optW (lenSl (e 0)) fun v13 =>
      optW (pBin Try.prog .lss 3 (e 5) v13) fun v14 =>
      condW v14 (
        optW (pIdxS 1 (e 0) (e 5)) fun v19 =>
        optW (rdRow false 1 v19 h_1) fun v20 =>
        optW (pIdxS 1 (e 1) (e 5)) fun v23 =>
        optW (rdRow false 1 v23 h_1) fun v24 =>
        optW (pBin Try.prog .neq 3 v20 v24) fun v25 =>
        condW v25 (
          K (.bool false) h_1
        ) (
          optW (pBin Try.prog .add 3 (e 5) (.int .i64 1)) fun v16 =>
          I (pt (pt (pt (pt (pt (pt (pt (pt (pt (pt (pt (pt (pt (pt (pt (pt e 11 (e 5)) 12 (e 0)) 13 v13) 14 v14) 17 (e 0)) 18 (e 5)) 19 v19) 20 v20) 21 (e 1)) 22 (e 5)) 23 v23) 24 v24) 25 v25) 15 (e 5)) 16 v16) 5 v16) h_1)
      ) (
        K (.bool true) h_1))
    (pt (pt (pt (pt (pt (pt (pt (envOf [a0, a1]) 4 (.bool false)) 6 a0) 7 v7) 8 a1) 9 v9) 10 v10) 5 (.int .i64 0)) h)
theorem e30 (X : CallT) (a0 a1 : Value) (h : AH) (K : Value → AH → Prop) : cwp2 Try.prog X (Try.f30.body.getD .skip) (endW Try.prog Try.f30 K) (envOf [a0, a1]) h = s30 X a0 a1 h K := by kernel_rfl
theorem c30 {a0 a1 : Value} {h : AH} {K : Value → AH → Prop} (hs : s30 (callW Try.prog) a0 a1 h K) : callW Try.prog 30 [a0, a1] h K := callW_of Try.func30 (by kernel_rfl) (Eq.mpr (e30 _ a0 a1 _ _) hs)

/-- (*canopy/feed.Feed).Deep () -/
def s31 (X : CallT) (a0 : Value) (h : AH) (K : Value → AH → Prop) : Prop :=
  optW (pNilCheck a0) fun v4 =>
  optW (pOff 0 v4) fun v5 =>
  optW (pOff 9 v5) fun v6 =>
  optW (rdRow false 1 v6 h) fun v7 =>
  optW (lenSl v7) fun v8 =>
  K v8 h
theorem e31 (X : CallT) (a0 : Value) (h : AH) (K : Value → AH → Prop) : cwp2 Try.prog X (Try.f31.body.getD .skip) (endW Try.prog Try.f31 K) (envOf [a0]) h = s31 X a0 h K := by kernel_rfl
theorem c31 {a0 : Value} {h : AH} {K : Value → AH → Prop} (hs : s31 (callW Try.prog) a0 h K) : callW Try.prog 31 [a0] h K := callW_of Try.func31 (by kernel_rfl) (Eq.mpr (e31 _ a0 _ _) hs)

/-- canopy/canopylaw14.Each (I at e: live [0, 3, 4], writes [4, 8, 9, 10, 11, 12, 13, 14, 15, 16, 17, 18, 19, 20, 21, 22, 23, 24, 25, 26, 27, 28, 29, 30, 31, 32, 33, 34, 35, 36, 37, 38, 39, 40, 41, 42, 43, 44, 45]) -/
def s32 (X : CallT) (a0 : Value) (h : AH) (K : Value → AH → Prop) : Prop :=
  newR none [(.int .i64 0), (.int .i64 0), (.slice none 0 0), (.slice none 0 0), (.slice none 0 0), (.slice none 0 0), (.slice none 0 0)] h fun v2 h_1 =>
  optW (bldSl 1 [(.int .i64 0)] 1 [(0, (.int .i64 0))]) fun c =>
  newW none (.row c true) h_1 fun i h_2 =>
  optW (bldSl 1 [(.int .i64 0)] 1 [(0, (.int .i64 0))]) fun c_1 =>
  newW none (.row c_1 true) h_2 fun i_1 h_3 =>
  optW (bld [(.int .i64 0), (.int .i64 0), (.slice none 0 0), (.slice none 0 0), (.slice none 0 0), (.slice none 0 0), (.slice none 0 0)] [(0, 1), (1, 1), (2, 1), (3, 1), (4, 1), (5, 1), (6, 1)] [(0, (.int .i64 1)), (1, (.int .i64 1)), (2, (.slice (some ⟨i, 0, none⟩) 1 1)), (3, (.slice (some ⟨i_1, 0, none⟩) 1 1))]) fun v7 =>
  newR none [(.int .i64 0), (.int .i64 0), (.slice none 0 0), (.slice none 0 0), (.slice none 0 0), (.slice none 0 0), (.slice none 0 0)] h_3 fun v3 h_4 =>
  optW (pStore 7 v3 v7 h_4) fun h_5 =>
  loopE (fun I e h_6 =>
    optW (lenSl (e 0)) fun v10 =>
    optW (pBin Try.prog .lss 3 (e 4) v10) fun v11 =>
    condW v11 (
      optW (pIdxS 2 (e 0) (e 4)) fun v16 =>
      optW (pOff 1 v16) fun v17 =>
      optW (rdRow false 1 v17 h_6) fun v18 =>
      optW (pBin Try.prog .eql 3 v18 (.int .i64 1)) fun v27 =>
      condW v27 (
        optW (pOff 4 (e 3)) fun v28 =>
        optW (rdRow false 1 v28 h_6) fun v29 =>
        optW (bld [(.int .i64 0), (.int .i64 0), (.int .i64 0), (.int .i64 0)] [(0, 1), (1, 1), (2, 1), (3, 1)] [(1, (e 4)), (3, (.int .i64 1))]) fun v31 =>
        optW (bldSl 4 [(.int .i64 0), (.int .i64 0), (.int .i64 0), (.int .i64 0)] 1 [(0, v31)]) fun c_2 =>
        newW none (.row c_2 true) h_6 fun i_2 h_7 =>
        appSl 4 v29 (.slice (some ⟨i_2, 0, none⟩) 1 1) h_7 fun v33 h_8 =>
        optW (pOff 4 (e 3)) fun v34 =>
        optW (pStore 1 v34 v33 h_8) fun h_9 =>
        optW (pBin Try.prog .add 3 (e 4) (.int .i64 1)) fun v13 =>
        I (pt (pt (pt (pt (pt (pt (pt (pt (pt (pt (pt (pt (pt (pt (pt (pt (pt (pt (pt (pt (pt e 8 (e 4)) 9 (e 0)) 10 v10) 11 v11) 14 (e 0)) 15 (e 4)) 16 v16) 17 v17) 18 v18) 27 v27) 26 v27) 28 v28) 29 v29) 30 (e 4)) 31 v31) 32 (.slice (some ⟨i_2, 0, none⟩) 1 1)) 33 v33) 34 v34) 12 (e 4)) 13 v13) 4 v13) h_9
      ) (
        optW (pBin Try.prog .eql 3 v18 (.int .i64 2)) fun v36 =>
        condW v36 (
          optW (pOff 5 (e 3)) fun v37 =>
          optW (rdRow false 1 v37 h_6) fun v38 =>
          optW (bld [(.int .i64 0), (.int .i64 0), (.int .i64 0), (.int .i64 0)] [(0, 1), (1, 1), (2, 1), (3, 1)] [(1, (e 4))]) fun v40 =>
          optW (bld [(.int .i64 0), (.int .i64 0), (.int .i64 0), (.int .i64 0)] [(0, 1), (1, 1), (2, 1), (3, 1)] [(1, (e 4)), (2, (.int .i64 1))]) fun v42 =>
          optW (bldSl 4 [(.int .i64 0), (.int .i64 0), (.int .i64 0), (.int .i64 0)] 2 [(0, v40), (1, v42)]) fun c_3 =>
          newW none (.row c_3 true) h_6 fun i_3 h_10 =>
          appSl 4 v38 (.slice (some ⟨i_3, 0, none⟩) 2 2) h_10 fun v44 h_11 =>
          optW (pOff 5 (e 3)) fun v45 =>
          optW (pStore 1 v45 v44 h_11) fun h_12 =>
          optW (pBin Try.prog .add 3 (e 4) (.int .i64 1)) fun v13_1 =>
          I (pt (pt (pt (pt (pt (pt (pt (pt (pt (pt (pt (pt (pt (pt (pt (pt (pt (pt (pt (pt (pt (pt (pt (pt (pt e 8 (e 4)) 9 (e 0)) 10 v10) 11 v11) 14 (e 0)) 15 (e 4)) 16 v16) 17 v17) 18 v18) 27 v27) 26 v27) 36 v36) 35 v36) 37 v37) 38 v38) 39 (e 4)) 40 v40) 41 (e 4)) 42 v42) 43 (.slice (some ⟨i_3, 0, none⟩) 2 2)) 44 v44) 45 v45) 12 (e 4)) 13 v13_1) 4 v13_1) h_12
        ) (
          optW (pOff 6 (e 3)) fun v19 =>
          optW (rdRow false 1 v19 h_6) fun v20 =>
          optW (bld [(.int .i64 0), (.int .i64 0), (.int .i64 0)] [(0, 1), (1, 1), (2, 1)] [(1, (e 4))]) fun v22 =>
          optW (bldSl 3 [(.int .i64 0), (.int .i64 0), (.int .i64 0)] 1 [(0, v22)]) fun c_4 =>
          newW none (.row c_4 true) h_6 fun i_4 h_13 =>
          appSl 3 v20 (.slice (some ⟨i_4, 0, none⟩) 1 1) h_13 fun v24 h_14 =>
          optW (pOff 6 (e 3)) fun v25 =>
          optW (pStore 1 v25 v24 h_14) fun h_15 =>
          optW (pBin Try.prog .add 3 (e 4) (.int .i64 1)) fun v13_2 =>
          I (pt (pt (pt (pt (pt (pt (pt (pt (pt (pt (pt (pt (pt (pt (pt (pt (pt (pt (pt (pt (pt (pt (pt e 8 (e 4)) 9 (e 0)) 10 v10) 11 v11) 14 (e 0)) 15 (e 4)) 16 v16) 17 v17) 18 v18) 27 v27) 26 v27) 36 v36) 35 v36) 19 v19) 20 v20) 21 (e 4)) 22 v22) 23 (.slice (some ⟨i_4, 0, none⟩) 1 1)) 24 v24) 25 v25) 12 (e 4)) 13 v13_2) 4 v13_2) h_15))
    ) (
      optW (rdRow true 7 (e 3) h_6) fun v46 =>
      optW (pStore 7 (e 2) v46 h_6) fun h_16 =>
      optW (resList Try.prog (pt (pt (pt (pt (pt e 8 (e 4)) 9 (e 0)) 10 v10) 11 v11) 46 v46) h_16 Try.f32.results.toList) fun vs => K (resOf vs) h_16))
  (pt (pt (pt (pt (pt (pt (envOf [a0]) 2 v2) 5 (.slice (some ⟨i, 0, none⟩) 1 1)) 6 (.slice (some ⟨i_1, 0, none⟩) 1 1)) 7 v7) 3 v3) 4 (.int .i64 0)) h_5
theorem e32 (X : CallT) (a0 : Value) (h : AH) (K : Value → AH → Prop) : cwp2 Try.prog X (Try.f32.body.getD .skip) (endW Try.prog Try.f32 K) (envOf [a0]) h = s32 X a0 h K := by kernel_rfl
theorem c32 {a0 : Value} {h : AH} {K : Value → AH → Prop} (hs : s32 (callW Try.prog) a0 h K) : callW Try.prog 32 [a0] h K := callW_of Try.func32 (by kernel_rfl) (Eq.mpr (e32 _ a0 _ _) hs)

/-- canopy/canopyref1.Sign () -/
def s33 (X : CallT) (a0 : Value) (h : AH) (K : Value → AH → Prop) : Prop :=
  aBox a0 none h fun v1 h_1 =>
  optW (pOff 1 v1) fun v3 =>
  optW (rdRow false 1 v3 h_1) fun v4 =>
  optW (pBin Try.prog .eql 3 v4 (.int .i64 1)) fun v6 =>
  condW v6 (
    optW (pOff 0 v1) fun v7 =>
    optW (rdRow false 1 v7 h_1) fun v8 =>
    optW (pBin Try.prog .add 9 (.string (bs [60])) v8) fun v9 =>
    optW (pBin Try.prog .add 9 v9 (.string (bs [62]))) fun v10 =>
    K v10 h_1
  ) (
    optW (pBin Try.prog .eql 3 v4 (.int .i64 2)) fun v12 =>
    condW v12 (
      optW (pOff 0 v1) fun v13 =>
      optW (rdRow false 1 v13 h_1) fun v14 =>
      optW (pBin Try.prog .add 9 (.string (bs [60, 47])) v14) fun v15 =>
      optW (pBin Try.prog .add 9 v15 (.string (bs [62]))) fun v16 =>
      K v16 h_1
    ) (
      optW (pOff 0 v1) fun v17 =>
      optW (rdRow false 1 v17 h_1) fun v18 =>
      K v18 h_1))
theorem e33 (X : CallT) (a0 : Value) (h : AH) (K : Value → AH → Prop) : cwp2 Try.prog X (Try.f33.body.getD .skip) (endW Try.prog Try.f33 K) (envOf [a0]) h = s33 X a0 h K := by kernel_rfl
theorem c33 {a0 : Value} {h : AH} {K : Value → AH → Prop} (hs : s33 (callW Try.prog) a0 h K) : callW Try.prog 33 [a0] h K := callW_of Try.func33 (by kernel_rfl) (Eq.mpr (e33 _ a0 _ _) hs)

/-- canopy/canopylaw1.within () -/
def s34 (X : CallT) (a0 a1 : Value) (h : AH) (K : Value → AH → Prop) : Prop :=
  optW (pBin Try.prog .rem 3 a0 a1) fun v8 =>
  optW (pBin Try.prog .lss 3 v8 (.int .i64 0)) fun v10 =>
  condW v10 (
    optW (pBin Try.prog .add 3 v8 a1) fun v13 =>
    K v13 h
  ) (
    K v8 h)
theorem e34 (X : CallT) (a0 a1 : Value) (h : AH) (K : Value → AH → Prop) : cwp2 Try.prog X (Try.f34.body.getD .skip) (endW Try.prog Try.f34 K) (envOf [a0, a1]) h = s34 X a0 a1 h K := by kernel_rfl
theorem c34 {a0 a1 : Value} {h : AH} {K : Value → AH → Prop} (hs : s34 (callW Try.prog) a0 a1 h K) : callW Try.prog 34 [a0, a1] h K := callW_of Try.func34 (by kernel_rfl) (Eq.mpr (e34 _ a0 a1 _ _) hs)

/-- canopy/canopylaw3.Make (I at e: live [0, 2, 9, 10], writes [10, 11, 12, 13, 14, 15, 16, 26, 27, 28, 29, 30, 31, 32, 33, 34, 35, 36, 37, 38, 39, 40, 41, 42, 43, 44, 45, 46, 47, 48, 49, 50, 51, 52, 53, 54, 55, 56, 57, 58, 59, 60, 61, 62, 63, 64, 65, 66, 67, 68, 69, 70, 71, 72, 73, 74, 75, 76, 77, 78, 79, 80, 81, 82, 83, 84, 85, 86, 87, 88, 89, 90, 91, 92, 93, 94, 95, 96, 97, 98, 99, 100, 101, 102, 103, 104, 105, 106, 107, 108, 109, 110, 111, 112, 113, 114, 115, 116, 117, 118, 119, 120, 121, 122, 123, 124, 125, 126, 127, 128, 129, 130, 131, 132, 133, 134]; J at e_1: live [10]; J_1 at e_2: live [0, 9, 11, 12, 13, 52, 85]) -/
def s35 (X : CallT) (a0 a1 a2 a3 : Value) (h : AH) (K : Value → AH → Prop) : Prop :=
  newR none [(.int .i64 0), (.int .i64 0), (.slice none 0 0), (.slice none 0 0), (.slice none 0 0), (.slice none 0 0), (.slice none 0 0)] h fun v8 h_1 =>
  X 54 [a1, a3] h_1 fun v19 h_2 =>
  optW (pBin Try.prog .add 3 (.int .i64 1) v19) fun v20 =>
  optW (pBin Try.prog .quo 3 a1 (.int .i64 7)) fun v22 =>
  X 54 [v22, (.int .i64 2)] h_2 fun v23 h_3 =>
  optW (pBin Try.prog .add 3 (.int .i64 1) v23) fun v24 =>
  optW (bld [(.int .i64 0), (.int .i64 0), (.slice none 0 0), (.slice none 0 0), (.slice none 0 0), (.slice none 0 0), (.slice none 0 0)] [(0, 1), (1, 1), (2, 1), (3, 1), (4, 1), (5, 1), (6, 1)] [(0, v20), (1, v24)]) fun v25 =>
  newR none [(.int .i64 0), (.int .i64 0), (.slice none 0 0), (.slice none 0 0), (.slice none 0 0), (.slice none 0 0), (.slice none 0 0)] h_3 fun v9 h_4 =>
  optW (pStore 7 v9 v25 h_4) fun h_5 =>
  loopE (fun I e h_6 =>
    optW (lenSl (e 2)) fun v28 =>
    optW (pBin Try.prog .lss 3 (e 10) v28) fun v29 =>
    gopW (gB v29 true) (fun k =>
      k (e 10) h_6) h_6 fun v31 h_7 =>
    gopW (gB v29 true) (fun k_1 =>
      optW (pBin Try.prog .lss 3 v31 (.int .i64 24)) fun v32_1 =>
      k_1 v32_1 h_7) h_7 fun v32 h_8 =>
    optW (pPick v29 v32 (.bool false)) fun v33 =>
    condW v33 (
      joinE (fun J =>
        optW (pIdxS 1 (e 2) (e 10)) fun v38 =>
        optW (rdRow false 1 v38 h_8) fun v39 =>
        X 54 [v39, (.int .i64 1099511627776)] h_8 fun v40 h_10 =>
        optW (pBin Try.prog .quo 3 v40 (.int .i64 8)) fun v42 =>
        optW (pOff 0 (e 9)) fun v43 =>
        optW (rdRow false 1 v43 h_10) fun v44 =>
        optW (pBin Try.prog .rem 3 v42 v44) fun v45 =>
        optW (pBin Try.prog .quo 3 v40 (.int .i64 80)) fun v47 =>
        optW (pOff 0 (e 9)) fun v48 =>
        optW (rdRow false 1 v48 h_10) fun v49 =>
        optW (pBin Try.prog .rem 3 v47 v49) fun v50 =>
        optW (pBin Try.prog .rem 3 v40 (.int .i64 8)) fun v52 =>
        optW (pBin Try.prog .eql 3 v52 (.int .i64 0)) fun v70 =>
        condW v70 (
          optW (pOff 2 (e 9)) fun v71 =>
          optW (rdRow false 1 v71 h_10) fun v72 =>
          optW (bldSl 1 [(.int .i64 0)] 1 [(0, v45)]) fun c =>
          newW none (.row c true) h_10 fun i h_11 =>
          appSl 1 v72 (.slice (some ⟨i, 0, none⟩) 1 1) h_11 fun v75 h_12 =>
          optW (pOff 2 (e 9)) fun v76 =>
          optW (pStore 1 v76 v75 h_12) fun h_13 =>
          J (pt (pt (pt (pt (pt (pt (pt (pt (pt (pt (pt (pt (pt (pt (pt (pt (pt (pt (pt (pt (pt (pt (pt (pt (pt (pt (pt (pt (pt (pt (pt (pt (pt (pt (pt (pt e 26 (e 10)) 27 (e 2)) 28 v28) 29 v29) 30 v29) 31 v31) 32 v32) 33 v33) 36 (e 2)) 37 (e 10)) 38 v38) 39 v39) 40 v40) 11 v40) 41 v40) 42 v42) 43 v43) 44 v44) 45 v45) 46 v40) 47 v47) 48 v48) 49 v49) 50 v50) 12 v45) 13 v50) 51 v40) 52 v52) 70 v70) 69 v70) 71 v71) 72 v72) 73 v45) 74 (.slice (some ⟨i, 0, none⟩) 1 1)) 75 v75) 76 v76) h_13
        ) (
          optW (pBin Try.prog .eql 3 v52 (.int .i64 1)) fun v78 =>
          condW v78 (
            optW (pOff 3 (e 9)) fun v79 =>
            optW (rdRow false 1 v79 h_10) fun v80 =>
            optW (bldSl 1 [(.int .i64 0)] 1 [(0, v45)]) fun c_1 =>
            newW none (.row c_1 true) h_10 fun i_1 h_14 =>
            appSl 1 v80 (.slice (some ⟨i_1, 0, none⟩) 1 1) h_14 fun v83 h_15 =>
            optW (pOff 3 (e 9)) fun v84 =>
            optW (pStore 1 v84 v83 h_15) fun h_16 =>
            J (pt (pt (pt (pt (pt (pt (pt (pt (pt (pt (pt (pt (pt (pt (pt (pt (pt (pt (pt (pt (pt (pt (pt (pt (pt (pt (pt (pt (pt (pt (pt (pt (pt (pt (pt (pt (pt (pt e 26 (e 10)) 27 (e 2)) 28 v28) 29 v29) 30 v29) 31 v31) 32 v32) 33 v33) 36 (e 2)) 37 (e 10)) 38 v38) 39 v39) 40 v40) 11 v40) 41 v40) 42 v42) 43 v43) 44 v44) 45 v45) 46 v40) 47 v47) 48 v48) 49 v49) 50 v50) 12 v45) 13 v50) 51 v40) 52 v52) 70 v70) 69 v70) 78 v78) 77 v78) 79 v79) 80 v80) 81 v45) 82 (.slice (some ⟨i_1, 0, none⟩) 1 1)) 83 v83) 84 v84) h_16
          ) (
            joinE (fun J_1 =>
              optW (pBin Try.prog .eql 3 v52 (.int .i64 2)) fun v86 =>
              condW v86 (
                J_1 (pt (pt (pt (pt (pt (pt (pt (pt (pt (pt (pt (pt (pt (pt (pt (pt (pt (pt (pt (pt (pt (pt (pt (pt (pt (pt (pt (pt (pt (pt (pt (pt (pt (pt e 26 (e 10)) 27 (e 2)) 28 v28) 29 v29) 30 v29) 31 v31) 32 v32) 33 v33) 36 (e 2)) 37 (e 10)) 38 v38) 39 v39) 40 v40) 11 v40) 41 v40) 42 v42) 43 v43) 44 v44) 45 v45) 46 v40) 47 v47) 48 v48) 49 v49) 50 v50) 12 v45) 13 v50) 51 v40) 52 v52) 70 v70) 69 v70) 78 v78) 77 v78) 86 v86) 85 v86) h_10
              ) (
                optW (pBin Try.prog .eql 3 v52 (.int .i64 3)) fun v87 =>
                J_1 (pt (pt (pt (pt (pt (pt (pt (pt (pt (pt (pt (pt (pt (pt (pt (pt (pt (pt (pt (pt (pt (pt (pt (pt (pt (pt (pt (pt (pt (pt (pt (pt (pt (pt (pt (pt e 26 (e 10)) 27 (e 2)) 28 v28) 29 v29) 30 v29) 31 v31) 32 v32) 33 v33) 36 (e 2)) 37 (e 10)) 38 v38) 39 v39) 40 v40) 11 v40) 41 v40) 42 v42) 43 v43) 44 v44) 45 v45) 46 v40) 47 v47) 48 v48) 49 v49) 50 v50) 12 v45) 13 v50) 51 v40) 52 v52) 70 v70) 69 v70) 78 v78) 77 v78) 86 v86) 85 v86) 87 v87) 85 v87) h_10))
            (fun e_2 h_17 =>
              condW (e_2 85) (
                optW (pBin Try.prog .quo 3 (e_2 11) (.int .i64 800)) fun v90 =>
                optW (pBin Try.prog .rem 3 v90 (.int .i64 7)) fun v91 =>
                X 55 [(e_2 0), (.int .i64 1), v91] h_17 fun v92 h_18 =>
                optW (pBin Try.prog .geq 3 v92 (.int .i64 0)) fun v94 =>
                condW v94 (
                  optW (pOff 4 (e_2 9)) fun v95 =>
                  optW (rdRow false 1 v95 (reserve 1 h_18)) fun v96 =>
                  optW (pBin Try.prog .quo 3 (e_2 11) (.int .i64 8000)) fun v101 =>
                  optW (pOff 1 (e_2 9)) fun v102 =>
                  optW (rdRow false 1 v102 (reserve 1 h_18)) fun v103 =>
                  optW (pBin Try.prog .rem 3 v101 v103) fun v104 =>
                  optW (pBin Try.prog .add 3 (.int .i64 1) v104) fun v105 =>
                  optW (bld [(.int .i64 0), (.int .i64 0), (.int .i64 0), (.int .i64 0)] [(0, 1), (1, 1), (2, 1), (3, 1)] [(0, (e_2 12)), (1, v92), (2, (e_2 13)), (3, v105)]) fun v106 =>
                  optW (bldSl 4 [(.int .i64 0), (.int .i64 0), (.int .i64 0), (.int .i64 0)] 1 [(0, v106)]) fun c_2 =>
                  newW (some (h_18.length)) (.row c_2 true) (reserve 1 h_18) fun i_2 h_19 =>
                  appSl 4 v96 (.slice (some ⟨i_2, 0, none⟩) 1 1) h_19 fun v108 h_20 =>
                  optW (pOff 4 (e_2 9)) fun v109 =>
                  optW (pStore 1 v109 v108 h_20) fun h_21 =>
                  J (pt (pt (pt (pt (pt (pt (pt (pt (pt (pt (pt (pt (pt (pt (pt (pt (pt (pt (pt (pt (pt (pt (pt e_2 88 (e_2 0)) 89 (e_2 11)) 90 v90) 91 v91) 92 v92) 14 v92) 93 v92) 94 v94) 95 v95) 96 v96) 97 (e_2 12)) 98 v92) 99 (e_2 13)) 100 (e_2 11)) 101 v101) 102 v102) 103 v103) 104 v104) 105 v105) 106 v106) 107 (.slice (some ⟨i_2, 0, none⟩) 1 1)) 108 v108) 109 v109) h_21
                ) (
                  J (pt (pt (pt (pt (pt (pt (pt (pt e_2 88 (e_2 0)) 89 (e_2 11)) 90 v90) 91 v91) 92 v92) 14 v92) 93 v92) 94 v94) h_18)
              ) (
                optW (pBin Try.prog .eql 3 (e_2 52) (.int .i64 4)) fun v111 =>
                condW v111 (
                  condW v111 (
                    optW (pBin Try.prog .quo 3 (e_2 11) (.int .i64 800)) fun v115 =>
                    optW (pBin Try.prog .rem 3 v115 (.int .i64 7)) fun v116 =>
                    X 55 [(e_2 0), (.int .i64 2), v116] h_17 fun v117 h_22 =>
                    optW (pBin Try.prog .geq 3 v117 (.int .i64 0)) fun v119 =>
                    condW v119 (
                      optW (pOff 5 (e_2 9)) fun v120 =>
                      optW (rdRow false 1 v120 (reserve 1 h_22)) fun v121 =>
                      optW (pBin Try.prog .quo 3 (e_2 11) (.int .i64 8000)) fun v125 =>
                      optW (pOff 1 (e_2 9)) fun v126 =>
                      optW (rdRow false 1 v126 (reserve 1 h_22)) fun v127 =>
                      optW (pBin Try.prog .add 3 v127 (.int .i64 1)) fun v128 =>
                      optW (pBin Try.prog .rem 3 v125 v128) fun v129 =>
                      optW (bld [(.int .i64 0), (.int .i64 0), (.int .i64 0), (.int .i64 0)] [(0, 1), (1, 1), (2, 1), (3, 1)] [(0, (e_2 12)), (1, v117), (2, v129), (3, (e_2 13))]) fun v131 =>
                      optW (bldSl 4 [(.int .i64 0), (.int .i64 0), (.int .i64 0), (.int .i64 0)] 1 [(0, v131)]) fun c_3 =>
                      newW (some (h_22.length)) (.row c_3 true) (reserve 1 h_22) fun i_3 h_23 =>
                      appSl 4 v121 (.slice (some ⟨i_3, 0, none⟩) 1 1) h_23 fun v133 h_24 =>
                      optW (pOff 5 (e_2 9)) fun v134 =>
                      optW (pStore 1 v134 v133 h_24) fun h_25 =>
                      J (pt (pt (pt (pt (pt (pt (pt (pt (pt (pt (pt (pt (pt (pt (pt (pt (pt (pt (pt (pt (pt (pt (pt (pt (pt e_2 111 v111) 110 v111) 113 (e_2 0)) 114 (e_2 11)) 115 v115) 116 v116) 117 v117) 15 v117) 118 v117) 119 v119) 120 v120) 121 v121) 122 (e_2 12)) 123 v117) 124 (e_2 11)) 125 v125) 126 v126) 127 v127) 128 v128) 129 v129) 130 (e_2 13)) 131 v131) 132 (.slice (some ⟨i_3, 0, none⟩) 1 1)) 133 v133) 134 v134) h_25
                    ) (
                      J (pt (pt (pt (pt (pt (pt (pt (pt (pt (pt e_2 111 v111) 110 v111) 113 (e_2 0)) 114 (e_2 11)) 115 v115) 116 v116) 117 v117) 15 v117) 118 v117) 119 v119) h_22)
                  ) (
                    optW (pBin Try.prog .quo 3 (e_2 11) (.int .i64 800)) fun v55 =>
                    optW (pBin Try.prog .rem 3 v55 (.int .i64 7)) fun v56 =>
                    X 55 [(e_2 0), (.int .i64 3), v56] h_17 fun v57 h_26 =>
                    optW (pBin Try.prog .geq 3 v57 (.int .i64 0)) fun v59 =>
                    condW v59 (
                      optW (pOff 6 (e_2 9)) fun v60 =>
                      optW (rdRow false 1 v60 h_26) fun v61 =>
                      optW (bld [(.int .i64 0), (.int .i64 0), (.int .i64 0)] [(0, 1), (1, 1), (2, 1)] [(0, (e_2 12)), (1, v57), (2, (e_2 13))]) fun v65 =>
                      optW (bldSl 3 [(.int .i64 0), (.int .i64 0), (.int .i64 0)] 1 [(0, v65)]) fun c_4 =>
                      newW none (.row c_4 true) h_26 fun i_4 h_27 =>
                      appSl 3 v61 (.slice (some ⟨i_4, 0, none⟩) 1 1) h_27 fun v67 h_28 =>
                      optW (pOff 6 (e_2 9)) fun v68 =>
                      optW (pStore 1 v68 v67 h_28) fun h_29 =>
                      J (pt (pt (pt (pt (pt (pt (pt (pt (pt (pt (pt (pt (pt (pt (pt (pt (pt (pt (pt e_2 111 v111) 110 v111) 53 (e_2 0)) 54 (e_2 11)) 55 v55) 56 v56) 57 v57) 16 v57) 58 v57) 59 v59) 60 v60) 61 v61) 62 (e_2 12)) 63 v57) 64 (e_2 13)) 65 v65) 66 (.slice (some ⟨i_4, 0, none⟩) 1 1)) 67 v67) 68 v68) h_29
                    ) (
                      J (pt (pt (pt (pt (pt (pt (pt (pt (pt (pt e_2 111 v111) 110 v111) 53 (e_2 0)) 54 (e_2 11)) 55 v55) 56 v56) 57 v57) 16 v57) 58 v57) 59 v59) h_26))
                ) (
                  optW (pBin Try.prog .eql 3 (e_2 52) (.int .i64 5)) fun v112 =>
                  condW v112 (
                    optW (pBin Try.prog .quo 3 (e_2 11) (.int .i64 800)) fun v115_1 =>
                    optW (pBin Try.prog .rem 3 v115_1 (.int .i64 7)) fun v116_1 =>
                    X 55 [(e_2 0), (.int .i64 2), v116_1] h_17 fun v117_1 h_30 =>
                    optW (pBin Try.prog .geq 3 v117_1 (.int .i64 0)) fun v119_1 =>
                    condW v119_1 (
                      optW (pOff 5 (e_2 9)) fun v120_1 =>
                      optW (rdRow false 1 v120_1 (reserve 1 h_30)) fun v121_1 =>
                      optW (pBin Try.prog .quo 3 (e_2 11) (.int .i64 8000)) fun v125_1 =>
                      optW (pOff 1 (e_2 9)) fun v126_1 =>
                      optW (rdRow false 1 v126_1 (reserve 1 h_30)) fun v127_1 =>
                      optW (pBin Try.prog .add 3 v127_1 (.int .i64 1)) fun v128_1 =>
                      optW (pBin Try.prog .rem 3 v125_1 v128_1) fun v129_1 =>
                      optW (bld [(.int .i64 0), (.int .i64 0), (.int .i64 0), (.int .i64 0)] [(0, 1), (1, 1), (2, 1), (3, 1)] [(0, (e_2 12)), (1, v117_1), (2, v129_1), (3, (e_2 13))]) fun v131_1 =>
                      optW (bldSl 4 [(.int .i64 0), (.int .i64 0), (.int .i64 0), (.int .i64 0)] 1 [(0, v131_1)]) fun c_5 =>
                      newW (some (h_30.length)) (.row c_5 true) (reserve 1 h_30) fun i_5 h_31 =>
                      appSl 4 v121_1 (.slice (some ⟨i_5, 0, none⟩) 1 1) h_31 fun v133_1 h_32 =>
                      optW (pOff 5 (e_2 9)) fun v134_1 =>
                      optW (pStore 1 v134_1 v133_1 h_32) fun h_33 =>
                      J (pt (pt (pt (pt (pt (pt (pt (pt (pt (pt (pt (pt (pt (pt (pt (pt (pt (pt (pt (pt (pt (pt (pt (pt (pt (pt (pt e_2 111 v111) 110 v111) 112 v112) 110 v112) 113 (e_2 0)) 114 (e_2 11)) 115 v115_1) 116 v116_1) 117 v117_1) 15 v117_1) 118 v117_1) 119 v119_1) 120 v120_1) 121 v121_1) 122 (e_2 12)) 123 v117_1) 124 (e_2 11)) 125 v125_1) 126 v126_1) 127 v127_1) 128 v128_1) 129 v129_1) 130 (e_2 13)) 131 v131_1) 132 (.slice (some ⟨i_5, 0, none⟩) 1 1)) 133 v133_1) 134 v134_1) h_33
                    ) (
                      J (pt (pt (pt (pt (pt (pt (pt (pt (pt (pt (pt (pt e_2 111 v111) 110 v111) 112 v112) 110 v112) 113 (e_2 0)) 114 (e_2 11)) 115 v115_1) 116 v116_1) 117 v117_1) 15 v117_1) 118 v117_1) 119 v119_1) h_30)
                  ) (
                    optW (pBin Try.prog .quo 3 (e_2 11) (.int .i64 800)) fun v55_1 =>
                    optW (pBin Try.prog .rem 3 v55_1 (.int .i64 7)) fun v56_1 =>
                    X 55 [(e_2 0), (.int .i64 3), v56_1] h_17 fun v57_1 h_34 =>
                    optW (pBin Try.prog .geq 3 v57_1 (.int .i64 0)) fun v59_1 =>
                    condW v59_1 (
                      optW (pOff 6 (e_2 9)) fun v60_1 =>
                      optW (rdRow false 1 v60_1 h_34) fun v61_1 =>
                      optW (bld [(.int .i64 0), (.int .i64 0), (.int .i64 0)] [(0, 1), (1, 1), (2, 1)] [(0, (e_2 12)), (1, v57_1), (2, (e_2 13))]) fun v65_1 =>
                      optW (bldSl 3 [(.int .i64 0), (.int .i64 0), (.int .i64 0)] 1 [(0, v65_1)]) fun c_6 =>
                      newW none (.row c_6 true) h_34 fun i_6 h_35 =>
                      appSl 3 v61_1 (.slice (some ⟨i_6, 0, none⟩) 1 1) h_35 fun v67_1 h_36 =>
                      optW (pOff 6 (e_2 9)) fun v68_1 =>
                      optW (pStore 1 v68_1 v67_1 h_36) fun h_37 =>
                      J (pt (pt (pt (pt (pt (pt (pt (pt (pt (pt (pt (pt (pt (pt (pt (pt (pt (pt (pt (pt (pt e_2 111 v111) 110 v111) 112 v112) 110 v112) 53 (e_2 0)) 54 (e_2 11)) 55 v55_1) 56 v56_1) 57 v57_1) 16 v57_1) 58 v57_1) 59 v59_1) 60 v60_1) 61 v61_1) 62 (e_2 12)) 63 v57_1) 64 (e_2 13)) 65 v65_1) 66 (.slice (some ⟨i_6, 0, none⟩) 1 1)) 67 v67_1) 68 v68_1) h_37
                    ) (
                      J (pt (pt (pt (pt (pt (pt (pt (pt (pt (pt (pt (pt e_2 111 v111) 110 v111) 112 v112) 110 v112) 53 (e_2 0)) 54 (e_2 11)) 55 v55_1) 56 v56_1) 57 v57_1) 16 v57_1) 58 v57_1) 59 v59_1) h_34))))))))
      (fun e_1 h_9 =>
        optW (pBin Try.prog .add 3 (e_1 10) (.int .i64 1)) fun v35 =>
        I (pt (pt (pt e_1 34 (e_1 10)) 35 v35) 10 v35) h_9)
    ) (
      optW (pOff 2 (e 9)) fun v135 =>
      optW (rdRow false 1 v135 h_8) fun v136 =>
      optW (lenSl v136) fun v137 =>
      optW (pBin Try.prog .eql 3 v137 (.int .i64 0)) fun v138 =>
      condW v138 (
        optW (bldSl 1 [(.int .i64 0)] 1 [(0, (.int .i64 0))]) fun c_7 =>
        newW none (.row c_7 true) h_8 fun i_7 h_38 =>
        optW (pOff 2 (e 9)) fun v140 =>
        optW (pStore 1 v140 (.slice (some ⟨i_7, 0, none⟩) 1 1) h_38) fun h_39 =>
        optW (rdRow true 7 (e 9) h_39) fun v141 =>
        optW (pStore 7 (e 8) v141 h_39) fun h_40 =>
        optW (resList Try.prog (pt (pt (pt (pt (pt (pt (pt (pt (pt (pt (pt (pt (pt (pt (pt e 26 (e 10)) 27 (e 2)) 28 v28) 29 v29) 30 v29) 31 v31) 32 v32) 33 v33) 135 v135) 136 v136) 137 v137) 138 v138) 139 (.slice (some ⟨i_7, 0, none⟩) 1 1)) 140 v140) 141 v141) h_40 Try.f35.results.toList) fun vs => K (resOf vs) h_40
      ) (
        optW (rdRow true 7 (e 9) h_8) fun v141_1 =>
        optW (pStore 7 (e 8) v141_1 h_8) fun h_41 =>
        optW (resList Try.prog (pt (pt (pt (pt (pt (pt (pt (pt (pt (pt (pt (pt (pt e 26 (e 10)) 27 (e 2)) 28 v28) 29 v29) 30 v29) 31 v31) 32 v32) 33 v33) 135 v135) 136 v136) 137 v137) 138 v138) 141 v141_1) h_41 Try.f35.results.toList) fun vs => K (resOf vs) h_41)))
  (pt (pt (pt (pt (pt (pt (pt (pt (pt (pt (pt (pt (envOf [a0, a1, a2, a3]) 8 v8) 17 a1) 18 a3) 19 v19) 20 v20) 21 a1) 22 v22) 23 v23) 24 v24) 25 v25) 9 v9) 10 (.int .i64 0)) h_5
theorem e35 (X : CallT) (a0 a1 a2 a3 : Value) (h : AH) (K : Value → AH → Prop) : cwp2 Try.prog X (Try.f35.body.getD .skip) (endW Try.prog Try.f35 K) (envOf [a0, a1, a2, a3]) h = s35 X a0 a1 a2 a3 h K := by kernel_rfl
theorem c35 {a0 a1 a2 a3 : Value} {h : AH} {K : Value → AH → Prop} (hs : s35 (callW Try.prog) a0 a1 a2 a3 h K) : callW Try.prog 35 [a0, a1, a2, a3] h K := callW_of Try.func35 (by kernel_rfl) (Eq.mpr (e35 _ a0 a1 a2 a3 _ _) hs)

/-- canopy/canopyref14.New () -/
def s36 (X : CallT) (a0 a1 a2 : Value) (h : AH) (K : Value → AH → Prop) : Prop :=
  aBox a1 none h fun v4 h_1 =>
  optW (rdRow true 7 v4 h_1) fun v8 =>
  optW (bld [(.slice none 0 0), (.int .i64 0), (.int .i64 0), (.slice none 0 0), (.slice none 0 0), (.slice none 0 0), (.slice none 0 0), (.slice none 0 0), (.int .i64 0), (.int .i64 0), (.int .i64 0), (.string (bs [])), (.slice none 0 0), (.int .i64 0), (.int .i64 0), (.int .i64 0), (.bool false)] [(0, 1), (1, 7), (8, 1), (9, 1), (10, 1), (11, 1), (12, 1), (13, 1), (14, 1), (15, 1), (16, 1)] [(0, a0), (1, v8), (2, a2)]) fun v10 =>
  aBox v10 none h_1 fun v11 h_2 =>
  K v11 h_2
theorem e36 (X : CallT) (a0 a1 a2 : Value) (h : AH) (K : Value → AH → Prop) : cwp2 Try.prog X (Try.f36.body.getD .skip) (endW Try.prog Try.f36 K) (envOf [a0, a1, a2]) h = s36 X a0 a1 a2 h K := by kernel_rfl
theorem c36 {a0 a1 a2 : Value} {h : AH} {K : Value → AH → Prop} (hs : s36 (callW Try.prog) a0 a1 a2 h K) : callW Try.prog 36 [a0, a1, a2] h K := callW_of Try.func36 (by kernel_rfl) (Eq.mpr (e36 _ a0 a1 a2 _ _) hs)

/-- (*canopy/canopyref14.Feed).Write (I at e: live [0, 1, 6], writes [6, 11, 12, 13, 14, 15, 16, 17, 18, 19, 20, 21, 22, 23, 24, 25, 26, 27, 28, 29, 30, 31, 32, 33, 34, 35, 36, 37, 38, 39, 40, 41, 42, 43, 44, 45, 46, 47]) -/
def s37 (X : CallT) (a0 a1 : Value) (h : AH) (K : Value → AH → Prop) : Prop :=
  optW (pNilCheck a0) fun v8 =>
  optW (pOff 16 v8) fun v9 =>
  optW (rdRow false 1 v9 h) fun v10 =>
  condW v10 (
    K (.tuple #[(.int .i64 0), (.int .i64 14)]) h
  ) (
    loopE (fun I e h_1 =>
      optW (lenSl (e 1)) fun v13 =>
      optW (pBin Try.prog .lss 3 (e 6) v13) fun v14 =>
      gopW (gB v14 true) (fun k =>
        k (e 0) h_1) h_1 fun v16 h_2 =>
      gopW (gB v14 true) (fun k_1 =>
        optW (pNilCheck v16) fun v17_1 =>
        k_1 v17_1 h_2) h_2 fun v17 h_3 =>
      gopW (gB v14 true) (fun k_2 =>
        optW (pOff 14 v17) fun v18_1 =>
        k_2 v18_1 h_3) h_3 fun v18 h_4 =>
      gopW (gB v14 true) (fun k_3 =>
        optW (rdRow false 1 v18 h_4) fun v19_1 =>
        k_3 v19_1 h_4) h_4 fun v19 h_5 =>
      gopW (gB v14 true) (fun k_4 =>
        optW (pBin Try.prog .eql 3 v19 (.int .i64 0)) fun v20_1 =>
        k_4 v20_1 h_5) h_5 fun v20 h_6 =>
      optW (pPick v14 v20 (.bool false)) fun v21 =>
      condW v21 (
        optW (pNilCheck (e 0)) fun v25 =>
        optW (pOff 11 v25) fun v26 =>
        optW (rdRow false 1 v26 h_6) fun v27 =>
        optW (pBin Try.prog .neq 9 v27 (.string (bs []))) fun v28 =>
        condW v28 (
          optW (pIdxS 1 (e 1) (e 6)) fun v32 =>
          optW (rdRow false 1 v32 h_6) fun v33 =>
          X 56 [(e 0), v33] h_6 fun v34 h_7 =>
          optW (pNilCheck (e 0)) fun v42 =>
          optW (pOff 9 v42) fun v43 =>
          optW (rdRow false 1 v43 h_7) fun v44 =>
          optW (pBin Try.prog .add 3 v44 (.int .i64 1)) fun v45 =>
          optW (pNilCheck (e 0)) fun v46 =>
          optW (pOff 9 v46) fun v47 =>
          optW (pStore 1 v47 v45 h_7) fun h_8 =>
          optW (pBin Try.prog .add 3 (e 6) (.int .i64 1)) fun v23 =>
          I (pt (pt (pt (pt (pt (pt (pt (pt (pt (pt (pt (pt (pt (pt (pt (pt (pt (pt (pt (pt (pt (pt (pt (pt (pt (pt (pt (pt (pt (pt (pt (pt e 11 (e 6)) 12 (e 1)) 13 v13) 14 v14) 15 v14) 16 v16) 17 v17) 18 v18) 19 v19) 20 v20) 21 v21) 24 (e 0)) 25 v25) 26 v26) 27 v27) 28 v28) 29 (e 0)) 30 (e 1)) 31 (e 6)) 32 v32) 33 v33) 34 v34) 41 (e 0)) 42 v42) 43 v43) 44 v44) 45 v45) 46 v46) 47 v47) 22 (e 6)) 23 v23) 6 v23) h_8
        ) (
          optW (pIdxS 1 (e 1) (e 6)) fun v38 =>
          optW (rdRow false 1 v38 h_6) fun v39 =>
          X 57 [(e 0), v39] h_6 fun v40 h_9 =>
          optW (pNilCheck (e 0)) fun v42_1 =>
          optW (pOff 9 v42_1) fun v43_1 =>
          optW (rdRow false 1 v43_1 h_9) fun v44_1 =>
          optW (pBin Try.prog .add 3 v44_1 (.int .i64 1)) fun v45_1 =>
          optW (pNilCheck (e 0)) fun v46_1 =>
          optW (pOff 9 v46_1) fun v47_1 =>
          optW (pStore 1 v47_1 v45_1 h_9) fun h_10 =>
          optW (pBin Try.prog .add 3 (e 6) (.int .i64 1)) fun v23_1 =>
          I (pt (pt (pt (pt (pt (pt (pt (pt (pt (pt (pt (pt (pt (pt (pt (pt (pt (pt (pt (pt (pt (pt (pt (pt (pt (pt (pt (pt (pt (pt (pt (pt e 11 (e 6)) 12 (e 1)) 13 v13) 14 v14) 15 v14) 16 v16) 17 v17) 18 v18) 19 v19) 20 v20) 21 v21) 24 (e 0)) 25 v25) 26 v26) 27 v27) 28 v28) 35 (e 0)) 36 (e 1)) 37 (e 6)) 38 v38) 39 v39) 40 v40) 41 (e 0)) 42 v42_1) 43 v43_1) 44 v44_1) 45 v45_1) 46 v46_1) 47 v47_1) 22 (e 6)) 23 v23_1) 6 v23_1) h_10)
      ) (
        optW (pNilCheck (e 0)) fun v49 =>
        optW (pOff 15 v49) fun v50 =>
        optW (rdRow false 1 v50 h_6) fun v51 =>
        optW (pNilCheck (e 0)) fun v53 =>
        optW (pOff 14 v53) fun v54 =>
        optW (rdRow false 1 v54 h_6) fun v55 =>
        K (.tuple #[v51, v55]) h_6))
    (pt (pt (pt (pt (pt (pt (pt (envOf [a0, a1]) 4 (.int .i64 0)) 5 (.int .i64 0)) 7 a0) 8 v8) 9 v9) 10 v10) 6 (.int .i64 0)) h)
theorem e37 (X : CallT) (a0 a1 : Value) (h : AH) (K : Value → AH → Prop) : cwp2 Try.prog X (Try.f37.body.getD .skip) (endW Try.prog Try.f37 K) (envOf [a0, a1]) h = s37 X a0 a1 h K := by kernel_rfl
theorem c37 {a0 a1 : Value} {h : AH} {K : Value → AH → Prop} (hs : s37 (callW Try.prog) a0 a1 h K) : callW Try.prog 37 [a0, a1] h K := callW_of Try.func37 (by kernel_rfl) (Eq.mpr (e37 _ a0 a1 _ _) hs)

/-- (*canopy/canopyref14.Feed).Deep () -/
def s38 (X : CallT) (a0 : Value) (h : AH) (K : Value → AH → Prop) : Prop :=
  optW (pNilCheck a0) fun v4 =>
  optW (pOff 13 v4) fun v5 =>
  optW (rdRow false 1 v5 h) fun v6 =>
  K v6 h
theorem e38 (X : CallT) (a0 : Value) (h : AH) (K : Value → AH → Prop) : cwp2 Try.prog X (Try.f38.body.getD .skip) (endW Try.prog Try.f38 K) (envOf [a0]) h = s38 X a0 h K := by kernel_rfl
theorem c38 {a0 : Value} {h : AH} {K : Value → AH → Prop} (hs : s38 (callW Try.prog) a0 h K) : callW Try.prog 38 [a0] h K := callW_of Try.func38 (by kernel_rfl) (Eq.mpr (e38 _ a0 _ _) hs)

/-- (*canopy/canopyref14.Feed).Close (J at e: live [0]) -/
def s39 (X : CallT) (a0 : Value) (h : AH) (K : Value → AH → Prop) : Prop :=
  optW (pNilCheck a0) fun v6 =>
  optW (pOff 16 v6) fun v7 =>
  optW (rdRow false 1 v7 h) fun v8 =>
  condW v8 (
    K (.tuple #[(.bool false), (.int .i64 0), (.int .i64 14)]) h
  ) (
    optW (pNilCheck a0) fun v10 =>
    optW (pOff 16 v10) fun v11 =>
    optW (pStore 1 v11 (.bool true) h) fun h_1 =>
    joinE (fun J =>
      optW (pNilCheck a0) fun v13 =>
      optW (pOff 14 v13) fun v14 =>
      optW (rdRow false 1 v14 h_1) fun v15 =>
      optW (pBin Try.prog .eql 3 v15 (.int .i64 0)) fun v16 =>
      gopW (gB v16 true) (fun k =>
        k a0 h_1) h_1 fun v18 h_4 =>
      gopW (gB v16 true) (fun k_1 =>
        optW (pNilCheck v18) fun v19_1 =>
        k_1 v19_1 h_4) h_4 fun v19 h_5 =>
      gopW (gB v16 true) (fun k_2 =>
        optW (pOff 11 v19) fun v20_1 =>
        k_2 v20_1 h_5) h_5 fun v20 h_6 =>
      gopW (gB v16 true) (fun k_3 =>
        optW (rdRow false 1 v20 h_6) fun v21_1 =>
        k_3 v21_1 h_6) h_6 fun v21 h_7 =>
      gopW (gB v16 true) (fun k_4 =>
        optW (pBin Try.prog .neq 9 v21 (.string (bs []))) fun v22_1 =>
        k_4 v22_1 h_7) h_7 fun v22 h_8 =>
      optW (pPick v16 v22 (.bool false)) fun v23 =>
      condW v23 (
        optW (pNilCheck a0) fun v25 =>
        optW (pOff 11 v25) fun v26 =>
        optW (rdRow false 1 v26 h_8) fun v27 =>
        optW (pIdxStr v27 (.int .i64 0)) fun v28 =>
        X 58 [v28] h_8 fun v29 h_9 =>
        condW v29 (
          X 59 [a0] h_9 fun v31 h_10 =>
          J (pt (pt (pt (pt (pt (pt (pt (pt (pt (pt (pt (pt (pt (pt (pt (pt (pt (pt (pt (pt (pt (pt (pt (pt (pt (pt (pt (pt (pt (pt (envOf [a0]) 2 (.bool false)) 3 (.int .i64 0)) 4 (.int .i64 0)) 5 a0) 6 v6) 7 v7) 8 v8) 9 a0) 10 v10) 11 v11) 12 a0) 13 v13) 14 v14) 15 v15) 16 v16) 17 v16) 18 v18) 19 v19) 20 v20) 21 v21) 22 v22) 23 v23) 24 a0) 25 v25) 26 v26) 27 v27) 28 v28) 29 v29) 30 a0) 31 v31) h_10
        ) (
          optW (pNilCheck a0) fun v34 =>
          optW (pOff 10 v34) fun v35 =>
          optW (rdRow false 1 v35 h_9) fun v36 =>
          X 60 [a0, (.int .i64 12), v36] h_9 fun v37 h_11 =>
          J (pt (pt (pt (pt (pt (pt (pt (pt (pt (pt (pt (pt (pt (pt (pt (pt (pt (pt (pt (pt (pt (pt (pt (pt (pt (pt (pt (pt (pt (pt (pt (pt (pt (pt (envOf [a0]) 2 (.bool false)) 3 (.int .i64 0)) 4 (.int .i64 0)) 5 a0) 6 v6) 7 v7) 8 v8) 9 a0) 10 v10) 11 v11) 12 a0) 13 v13) 14 v14) 15 v15) 16 v16) 17 v16) 18 v18) 19 v19) 20 v20) 21 v21) 22 v22) 23 v23) 24 a0) 25 v25) 26 v26) 27 v27) 28 v28) 29 v29) 32 a0) 33 a0) 34 v34) 35 v35) 36 v36) 37 v37) h_11)
      ) (
        J (pt (pt (pt (pt (pt (pt (pt (pt (pt (pt (pt (pt (pt (pt (pt (pt (pt (pt (pt (pt (pt (pt (envOf [a0]) 2 (.bool false)) 3 (.int .i64 0)) 4 (.int .i64 0)) 5 a0) 6 v6) 7 v7) 8 v8) 9 a0) 10 v10) 11 v11) 12 a0) 13 v13) 14 v14) 15 v15) 16 v16) 17 v16) 18 v18) 19 v19) 20 v20) 21 v21) 22 v22) 23 v23) h_8))
    (fun e h_2 =>
      optW (pNilCheck (e 0)) fun v39 =>
      optW (pOff 14 v39) fun v40 =>
      optW (rdRow false 1 v40 h_2) fun v41 =>
      optW (pBin Try.prog .neq 3 v41 (.int .i64 0)) fun v42 =>
      condW v42 (
        optW (pNilCheck (e 0)) fun v44 =>
        optW (pOff 15 v44) fun v45 =>
        optW (rdRow false 1 v45 h_2) fun v46 =>
        optW (pNilCheck (e 0)) fun v48 =>
        optW (pOff 14 v48) fun v49 =>
        optW (rdRow false 1 v49 h_2) fun v50 =>
        K (.tuple #[(.bool false), v46, v50]) h_2
      ) (
        optW (pNilCheck (e 0)) fun v52 =>
        optW (pOff 0 v52) fun v53 =>
        optW (rdRow false 1 v53 h_2) fun v54 =>
        optW (pNilCheck (e 0)) fun v56 =>
        optW (pOff 1 v56) fun v57 =>
        optW (rdRow true 7 v57 h_2) fun v58 =>
        optW (pNilCheck (e 0)) fun v60 =>
        optW (pOff 12 v60) fun v61 =>
        optW (rdRow false 1 v61 h_2) fun v62 =>
        X 27 [v54, v58, v62] h_2 fun v63 h_3 =>
        K (.tuple #[v63, (.int .i64 0), (.int .i64 0)]) h_3)))
theorem e39 (X : CallT) (a0 : Value) (h : AH) (K : Value → AH → Prop) : cwp2 Try.prog X (Try.f39.body.getD .skip) (endW Try.prog Try.f39 K) (envOf [a0]) h = s39 X a0 h K := by kernel_rfl
theorem c39 {a0 : Value} {h : AH} {K : Value → AH → Prop} (hs : s39 (callW Try.prog) a0 h K) : callW Try.prog 39 [a0] h K := callW_of Try.func39 (by kernel_rfl) (Eq.mpr (e39 _ a0 _ _) hs)

end Go.Proofs.Ytebbjimmgblcpaa.W
