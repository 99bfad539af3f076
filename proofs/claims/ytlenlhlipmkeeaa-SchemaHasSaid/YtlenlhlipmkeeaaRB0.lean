/- Parts of a proof, joined by a program. Conditions: none. -/
import Derived.Test.YtlenlhlipmkeeaaRA0
import Derived.Test.YtlenlhlipmkeeaaRA2
import Derived.Laws.RangeString
import Derived.Laws.RangeAny
import Derived.Test.YtlenlhlipmkeeaaRS0

section
/- Schema's laws: the program's reader: its signs. Conditions: none. -/
namespace Go.Proofs.Ytlenlhlipmkeeaa.W
open Go Go.AM SchM
set_option linter.unusedVariables false
set_option maxRecDepth 100000
theorem getElem?_of_lt {α : Type} {l : List α} {i : Nat} (h : i < l.length) : ∃ x, l[i]? = some x := ⟨l[i], List.getElem?_eq_getElem h⟩
theorem gdu {b : Bool} {f : (Value → AH → HT → ST → Prop) → Prop} {h : AH} {H : HT} {S : ST} {K : Value → AH → HT → ST → Prop} (k : K undef h H S) : gopD (gB undef b) f h H S K := k
theorem letter56 {n : Nat} {h : AH} {K : Value → AH → Prop} (hn : n ≤ 2147483647) (k : K (.bool (decide (97 ≤ n ∧ n ≤ 122))) h) : callW Try.prog 56 [.int .i32 n] h K := by
  refine c56 ?_
  unfold s56
  refine w_geq ?_
  by_cases q : (97 : Int) ≤ n
  · refine g_tt q (g_tt q (w_leq (pk_tt q ?_)))
    have : decide (97 ≤ n ∧ n ≤ 122) = decide ((n : Int) ≤ 122) := by rw [Bool.eq_iff_iff]; simp only [decide_eq_true_eq]; omega
    rw [this] at k
    exact k
  · refine g_tf q (g_tf q (pk_ff q ?_))
    have : decide (97 ≤ n ∧ n ≤ 122) = false := by rw [decide_eq_false_iff_not]; omega
    rw [this] at k
    exact k
theorem bs_size (s : W) : (bs s).size = s.length := by
  show (bs s).data.size = _
  rw [← Array.length_toList, bs_data]
theorem bs_at {s : W} {i : Nat} {c : UInt8} (hc : s[i]? = some c) (h : i < (bs s).size) : (bs s)[i]'h = c := by
  have e : (bs s)[i]'h = (bs s).data[i]'h := rfl
  rw [e, ← Array.getElem_toList]
  have := bs_data s
  have h2 : (bs s).data.toList[i]? = some c := by rw [this]; exact hc
  obtain ⟨_, e2⟩ := List.getElem?_eq_some_iff.1 h2
  exact e2
theorem rune {s : W} {i : Nat} {c : UInt8} (hc : s[i]? = some c) : (Utf8.decode (bs s) i).1 ≤ 2147483647 ∧ (decide (97 ≤ (Utf8.decode (bs s) i).1 ∧ (Utf8.decode (bs s) i).1 ≤ 122) = low c) ∧ (low c = true → (Utf8.decode (bs s) i).2 = 1) := by
  have hi := (List.getElem?_eq_some_iff.1 hc).1
  have hs : i < (bs s).size := by rw [bs_size]; exact hi
  have he := bs_at hc hs
  refine ⟨decode_le _ _, ?_⟩
  by_cases ha : c.toNat < 128
  · rw [decode_ascii (bs s) i hs (by rw [he]; exact ha), he]
    exact ⟨rfl, fun _ => rfl⟩
  · have := decode_high (bs s) i hs (by rw [he]; omega)
    unfold low
    refine ⟨?_, fun hh => ?_⟩
    · rw [Bool.eq_iff_iff]; simp only [decide_eq_true_eq]; omega
    · rw [decide_eq_true_eq] at hh; omega
theorem w_aRange {s : W} {h : AH} {K : Value → AH → Prop} (k : ∀ h', Ex h h' → h'.length = h.length + 1 → h'[h.length]? = some (.strIter (bs s) 0) → K (.pointer (some ⟨h.length, 0, none⟩)) h') : aRange Try.prog 9 (.string (bs s)) none h K := by
  have e : Try.prog.underlying 9 = some .string := by kernel_rfl
  unfold aRange
  rw [e]
  exact n_newv k
theorem w_aNext {s : W} {r i : Nat} {h : AH} {K : Value → AH → Prop} (g : h[r]? = some (.strIter (bs s) i))
    (k1 : i < s.length → K (.tuple #[.bool true, .int .i64 i, .int .i32 (Utf8.decode (bs s) i).1]) (h.set r (.strIter (bs s) (i + (Utf8.decode (bs s) i).2))))
    (k2 : s.length ≤ i → K over h) : aNext (.pointer (some ⟨r, 0, none⟩)) true h K := by
  unfold aNext
  simp only [g]
  rw [bs_size]
  split
  · exact k1 (by assumption)
  · exact k2 (by omega)
theorem tw_at {s : W} {i : Nat} (h : ∀ j c, j < i → s[j]? = some c → low c = true) (hi : i ≤ s.length) (he : ∀ c, s[i]? = some c → low c = false) : (s.takeWhile low).length = i := by
  induction s generalizing i with
  | nil => simp at hi; simp [hi]
  | cons a l ih =>
    cases i with
    | zero =>
      have := he a rfl
      rw [List.takeWhile_cons_of_neg (by rw [this]; decide)]
      rfl
    | succ i =>
      rw [List.takeWhile_cons_of_pos (h 0 a (by omega) rfl), List.length_cons]
      rw [ih (i := i) (fun j c hj hc => h (j + 1) c (by omega) hc) (by simpa using hi) (fun c hc => he c hc)]
theorem index70 {s : W} {h : AH} {K : Value → AH → Prop} (hs : s.length ≤ 2000) (k : ∀ h', Ex h h' → K (.int .i64 (if (s.takeWhile low).length < s.length then ((s.takeWhile low).length : Nat) else -1)) h') : callW Try.prog 70 [.string (bs s), .func (.func 56) #[] #[], .bool false] h K := by
  refine c70 ?_
  unfold s70
  refine w_aRange fun h1 x1 l1 g1 => ?_
  refine loopE_intro (fun m e h' => ∃ i : Nat, i ≤ s.length ∧ m = s.length - i ∧ e 1 = .func (.func 56) #[] #[] ∧ e 2 = .bool false ∧ e 10 = .pointer (some ⟨h.length, 0, none⟩) ∧ Ex h h' ∧ h'[h.length]? = some (.strIter (bs s) i) ∧ ∀ j c, j < i → s[j]? = some c → low c = true) s.length
    ⟨0, Nat.zero_le _, rfl, rfl, rfl, rfl, x1, g1, fun j c hj => by omega⟩ ?_
  rintro I m e h2 ⟨i, hi, hm, e1, e2, e10, x2, g2, hall⟩ ih
  rw [e1, e2, e10]
  refine w_aNext g2 (fun hlt => ?_) (fun hge => ?_)
  · obtain ⟨c, hc⟩ := getElem?_of_lt hlt
    obtain ⟨r1, r2, r3⟩ := rune hc
    have x3 : Ex h (h2.set h.length (.strIter (bs s) (i + (Utf8.decode (bs s) i).2))) := x2.set (Nat.le_refl _) _
    have g3 : (h2.set h.length (.strIter (bs s) (i + (Utf8.decode (bs s) i).2)))[h.length]? = some (.strIter (bs s) (i + (Utf8.decode (bs s) i).2)) := get_set _ (lt_of_get g2) _
    refine w_some (v := Value.bool true) rfl (c_t ?_)
    refine w_some (v := Value.int .i64 i) rfl ?_
    refine w_some (v := Value.int .i32 (Utf8.decode (bs s) i).1) rfl ?_
    show callW Try.prog 56 [.int .i32 ((Utf8.decode (bs s) i).1 : Nat)] _ _
    refine letter56 r1 ?_
    rw [r2]
    have eB : ∀ b : Bool, pBin Try.prog .eql 4 (.bool b) (.bool false) = some (.bool (!b)) := fun b => by cases b <;> kernel_rfl
    refine w_some (eB _) ?_
    cases hl : low c with
    | true =>
      refine c_f ?_
      rw [r3 hl] at x3 g3 ⊢
      refine ih (s.length - (i + 1)) _ _ (by omega) ⟨i + 1, by omega, rfl, e1, e2, e10, x3, g3, fun j c' hj hc' => ?_⟩
      by_cases e : j = i
      · subst e
        rw [hc] at hc'
        cases hc'
        exact hl
      · exact hall j c' (by omega) hc'
    | false =>
      have ht := tw_at hall hi (fun c' hc' => by rw [hc] at hc'; cases hc'; exact hl)
      refine c_t ?_
      have := k _ x3
      rw [ht, if_pos hlt] at this
      exact this
  · have ei : i = s.length := by omega
    have ht := tw_at hall hi (fun c' hc' => by rw [List.getElem?_eq_none (by omega)] at hc'; cases hc')
    refine w_some (v := Value.bool false) rfl ?_
    refine c_f ?_
    have := k _ x2
    rw [ht, if_neg (by omega)] at this
    exact this
theorem trim55 {s : W} {h : AH} {K : Value → AH → Prop} (hs : s.length ≤ 2000) (k : ∀ h', Ex h h' → K (.string (bs (s.drop (s.takeWhile low).length))) h') : callW Try.prog 55 [.string (bs s), .func (.func 56) #[] #[]] h K := by
  refine c55 ?_
  unfold s55
  refine index70 hs fun h1 x1 => ?_
  have hle := (List.takeWhile_sublist (p := low) (l := s)).length_le
  by_cases q : (s.takeWhile low).length < s.length
  · rw [if_pos q]
    refine w_eql (c_ff (by omega) (w_dropStr (by omega) (by omega) ?_))
    exact k h1 x1
  · rw [if_neg q]
    refine w_eql (c_tt rfl ?_)
    have e : s.drop (s.takeWhile low).length = [] := List.drop_eq_nil_of_le (by omega)
    have := k h1 x1
    rw [e] at this
    exact this
end Go.Proofs.Ytlenlhlipmkeeaa.W
end

section
/- Schema's laws: the program's reader: the next sign. Conditions: none. -/
namespace Go.Proofs.Ytlenlhlipmkeeaa.W
open Go Go.AM SchM
set_option linter.unusedVariables false
set_option maxRecDepth 100000
def prow (s w : W) (fr at_ D e pl : Int) (c : UInt8) (vn : Value) : List Value := [.string (bs s), .int .i64 fr, .int .i64 at_, .string (bs w), .int .u8 c.toNat, .int .i64 D, .int .i64 e, .int .i64 pl, vn]
abbrev At (X : Nat) : Nat → Prop := fun j => j = X
theorem blank_of {c : UInt8} : SchM.blank c = (decide ((c.toNat : Int) = 32) || decide ((c.toNat : Int) = 10)) := by
  unfold SchM.blank
  have e1 : (c == 32) = decide ((c.toNat : Int) = 32) := by
    rw [Bool.eq_iff_iff]; simp only [beq_iff_eq, decide_eq_true_eq]
    exact ⟨fun h => by subst h; rfl, fun h => UInt8.toNat_inj.1 (by show c.toNat = 32; omega)⟩
  have e2 : (c == 10) = decide ((c.toNat : Int) = 10) := by
    rw [Bool.eq_iff_iff]; simp only [beq_iff_eq, decide_eq_true_eq]
    exact ⟨fun h => by subst h; rfl, fun h => UInt8.toNat_inj.1 (by show c.toNat = 10; omega)⟩
  rw [e1, e2]
theorem setX {h : AH} {X : Nat} (o : AObj) : Chg (At X) h (At X) (h.set X o) := Chg.setf (F := At X) (f := X) rfl o
theorem tail32 {h : AH} {X p : Nat} {s w : W} {at_ D e pl : Int} {c : UInt8} {vn : Value} {K : Value → AH → Prop} (g : h[X]? = some (.row (prow s w p at_ D e pl c vn) true)) (hs : s.length ≤ 2000) (hp : p ≤ s.length)
    (k : ∀ h', Chg (At X) h (At X) h' → h'[X]? = some (.row (prow s (sgn s p).1 p ((p + tl s p : Nat) : Int) D e pl (sgn s p).2 vn) true) → K (.tuple #[]) h') :
    optW (pNilCheck (.pointer (some ⟨X, 0, none⟩))) fun v53 =>
    optW (pOff 0 v53) fun v54 =>
    optW (rdRow false 1 v54 h) fun v55 =>
    optW (pNilCheck (.pointer (some ⟨X, 0, none⟩))) fun v57 =>
    optW (pOff 1 v57) fun v58 =>
    optW (rdRow false 1 v58 h) fun v59 =>
    optW (pSliceStr v55 (some v59) none) fun v60 =>
    optW (bld [(.string (bs [])), (.int .u8 0)] [(0, 1), (1, 1)] []) fun v63 =>
    optW (pNilCheck (.pointer (some ⟨X, 0, none⟩))) fun v65 =>
    optW (pOff 1 v65) fun v66 =>
    optW (rdRow false 1 v66 h) fun v67 =>
    optW (pNilCheck (.pointer (some ⟨X, 0, none⟩))) fun v68 =>
    optW (pOff 3 v68) fun v69 =>
    optW (pStore 2 v69 v63 h) fun h_26 =>
    optW (pNilCheck (.pointer (some ⟨X, 0, none⟩))) fun v70 =>
    optW (pOff 2 v70) fun v71 =>
    optW (pStore 1 v71 v67 h_26) fun h_27 =>
    optW (lenStr v60) fun v73 =>
    callW Try.prog 55 [v60, (.func (.func 56) #[] #[])] h_27 fun v75 h_28 =>
    optW (lenStr v75) fun v76 =>
    optW (pBin Try.prog .sub 3 v73 v76) fun v77 =>
    optW (pBin Try.prog .gtr 3 v77 (.int .i64 0)) fun v79 =>
    condW v79 (
      optW (pSliceStr v60 none (some v77)) fun v84 =>
      optW (bld [(.string (bs [])), (.int .u8 0)] [(0, 1), (1, 1)] [(0, v84)]) fun v85 =>
      optW (pNilCheck (.pointer (some ⟨X, 0, none⟩))) fun v87 =>
      optW (pOff 1 v87) fun v88 =>
      optW (rdRow false 1 v88 h_28) fun v89 =>
      optW (pBin Try.prog .add 3 v89 v77) fun v91 =>
      optW (pNilCheck (.pointer (some ⟨X, 0, none⟩))) fun v92 =>
      optW (pOff 3 v92) fun v93 =>
      optW (pStore 2 v93 v85 h_28) fun h_29 =>
      optW (pNilCheck (.pointer (some ⟨X, 0, none⟩))) fun v94 =>
      optW (pOff 2 v94) fun v95 =>
      optW (pStore 1 v95 v91 h_29) fun h_30 =>
      K (.tuple #[]) h_30
    ) (
      optW (pBin Try.prog .neq 9 v60 (.string (bs []))) fun v97 =>
      condW v97 (
        optW (pIdxStr v60 (.int .i64 0)) fun v101 =>
        optW (bld [(.string (bs [])), (.int .u8 0)] [(0, 1), (1, 1)] [(1, v101)]) fun v102 =>
        optW (pNilCheck (.pointer (some ⟨X, 0, none⟩))) fun v104 =>
        optW (pOff 1 v104) fun v105 =>
        optW (rdRow false 1 v105 h_28) fun v106 =>
        optW (pBin Try.prog .add 3 v106 (.int .i64 1)) fun v107 =>
        optW (pNilCheck (.pointer (some ⟨X, 0, none⟩))) fun v108 =>
        optW (pOff 3 v108) fun v109 =>
        optW (pStore 2 v109 v102 h_28) fun h_31 =>
        optW (pNilCheck (.pointer (some ⟨X, 0, none⟩))) fun v110 =>
        optW (pOff 2 v110) fun v111 =>
        optW (pStore 1 v111 v107 h_31) fun h_32 =>
        optW (pIdxStr v60 (.int .i64 0)) fun v113 =>
        optW (pBin Try.prog .eql 5 v113 (.int .u8 0)) fun v114 =>
        condW v114 (
          optW (bld [(.string (bs [])), (.int .u8 0)] [(0, 1), (1, 1)] [(0, (.string (bs [110, 111, 110, 101, 32, 97, 116, 32, 97, 108, 108])))]) fun v116 =>
          optW (pNilCheck (.pointer (some ⟨X, 0, none⟩))) fun v117 =>
          optW (pOff 3 v117) fun v118 =>
          optW (pStore 2 v118 v116 h_32) fun h_33 =>
          K (.tuple #[]) h_33
        ) (
          K (.tuple #[]) h_32)
      ) (
        K (.tuple #[]) h_28)) := by
  have lt := lt_of_get g
  have hle := (List.takeWhile_sublist (p := low) (l := s.drop p)).length_le
  have hdl : (s.drop p).length = s.length - p := List.length_drop
  refine w_nilc (w_offP (w_rdP g (v := .string (bs s)) rfl (w_nilc (w_offP (w_rdP g (v := .int .i64 p) rfl (w_dropStr (by omega) (by omega) ?_))))))
  rw [Int.toNat_natCast]
  refine w_some (v := .agg #[.string (bs []), .int .u8 0]) rfl ?_
  refine w_nilc (w_offP (w_rdP g (v := .int .i64 p) rfl (w_nilc (w_offP (w_stPA g rfl (by show 0 + 3 + 2 ≤ 9; decide) rfl ?_)))))
  have g1 : (h.set X (.row (spliceL (prow s w p at_ D e pl c vn) (0 + 3) (cellsL (.agg #[.string (bs []), .int .u8 0]))) true))[X]? = some (.row (prow s [] p at_ D e pl 0 vn) true) := get_set _ lt _
  have c1 : Chg (At X) h (At X) (h.set X (.row (spliceL (prow s w p at_ D e pl c vn) (0 + 3) (cellsL (.agg #[.string (bs []), .int .u8 0]))) true)) := setX _
  generalize h.set X (.row (spliceL (prow s w p at_ D e pl c vn) (0 + 3) (cellsL (.agg #[.string (bs []), .int .u8 0]))) true) = h1 at g1 c1 ⊢
  refine w_nilc (w_offP (w_stP g1 (by show 0 + 2 < 9; decide) rfl rfl ?_))
  have g2 : (h1.set X (.row ((prow s [] p at_ D e pl 0 vn).set (0 + 2) (.int .i64 p)) true))[X]? = some (.row (prow s [] p p D e pl 0 vn) true) := get_set _ (lt_of_get g1) _
  have c2 := c1.trans (setX (h := h1) (.row ((prow s [] p at_ D e pl 0 vn).set (0 + 2) (.int .i64 p)) true))
  generalize h1.set X (.row ((prow s [] p at_ D e pl 0 vn).set (0 + 2) (.int .i64 p)) true) = h2 at g2 c2 ⊢
  refine w_lenStr (trim55 (by omega) fun h3 x3 => w_lenStr ?_)
  have g3 := x3.some g2
  have c3 := c2.trans (Chg.ex (F := At X) x3)
  have lt3 := lt_of_get g3
  have el : ((s.drop p).drop ((s.drop p).takeWhile low).length).length = s.length - p - ((s.drop p).takeWhile low).length := by rw [List.length_drop, hdl]
  refine w_sub (by omega) (by omega) (w_gtr ?_)
  have en : ((s.drop p).length : Int) - (((s.drop p).drop ((s.drop p).takeWhile low).length).length : Nat) = (((s.drop p).takeWhile low).length : Nat) := by omega
  rw [en]
  refine c_dec (fun q => ?_) (fun q => ?_)
  · have hw : wordAt s p ≠ [] := fun e => by unfold wordAt at e; rw [e] at q; simp at q
    refine w_takeStr (by omega) (by omega) ?_
    rw [Int.toNat_natCast]
    have et : (s.drop p).take ((s.drop p).takeWhile low).length = wordAt s p := by
      unfold wordAt
      exact (List.prefix_iff_eq_take.1 (List.takeWhile_prefix low)).symm
    rw [et]
    refine w_some (v := .agg #[.string (bs (wordAt s p)), .int .u8 0]) rfl ?_
    refine w_nilc (w_offP (w_rdP g3 (v := .int .i64 p) rfl (w_add (by omega) (by omega) (w_nilc (w_offP (w_stPA g3 rfl (by show 0 + 3 + 2 ≤ 9; decide) rfl ?_))))))
    have g4 : (h3.set X (.row (spliceL (prow s [] p p D e pl 0 vn) (0 + 3) (cellsL (.agg #[.string (bs (wordAt s p)), .int .u8 0]))) true))[X]? = some (.row (prow s (wordAt s p) p p D e pl 0 vn) true) := get_set _ lt3 _
    refine w_nilc (w_offP (w_stP g4 (by show 0 + 2 < 9; decide) rfl rfl ?_))
    refine k _ ((c3.trans (setX _)).trans (setX _)) ?_
    rw [get_set _ (lt_of_get g4)]
    have e1 : sgn s p = (wordAt s p, 0) := by unfold sgn; rw [if_pos hw]
    have e2 : tl s p = (wordAt s p).length := by unfold tl; rw [if_pos hw]
    rw [e1, e2]
    rfl
  · have hn : ((s.drop p).takeWhile low).length = 0 := by omega
    have hw : ¬ wordAt s p ≠ [] := fun h => h (List.eq_nil_of_length_eq_zero hn)
    refine w_sneq ?_
    by_cases q2 : p < s.length
    · obtain ⟨b, hb⟩ := getElem?_of_lt q2
      have hne : ¬ s.drop p = [] := fun e => by have := congrArg List.length e; rw [hdl] at this; simp at this; omega
      have hb0 : (s.drop p)[(0 : Int).toNat]? = some b := by
        show (s.drop p)[0]? = some b
        rw [List.getElem?_drop]
        exact hb
      refine c_tt hne (w_idxStr (by omega) hb0 ?_)
      refine w_some (v := .agg #[.string (bs []), .int .u8 b.toNat]) rfl ?_
      refine w_nilc (w_offP (w_rdP g3 (v := .int .i64 p) rfl (w_add (by omega) (by omega) (w_nilc (w_offP (w_stPA g3 rfl (by show 0 + 3 + 2 ≤ 9; decide) rfl ?_))))))
      have g4 : (h3.set X (.row (spliceL (prow s [] p p D e pl 0 vn) (0 + 3) (cellsL (.agg #[.string (bs []), .int .u8 b.toNat]))) true))[X]? = some (.row (prow s [] p p D e pl b vn) true) := get_set _ lt3 _
      have c4 := c3.trans (setX (h := h3) (.row (spliceL (prow s [] p p D e pl 0 vn) (0 + 3) (cellsL (.agg #[.string (bs []), .int .u8 b.toNat]))) true))
      generalize h3.set X (.row (spliceL (prow s [] p p D e pl 0 vn) (0 + 3) (cellsL (.agg #[.string (bs []), .int .u8 b.toNat]))) true) = h4 at g4 c4 ⊢
      refine w_nilc (w_offP (w_stP g4 (by show 0 + 2 < 9; decide) rfl rfl ?_))
      have g5 : (h4.set X (.row ((prow s [] p p D e pl b vn).set (0 + 2) (.int .i64 ((p : Int) + 1))) true))[X]? = some (.row (prow s [] p ((p + 1 : Nat) : Int) D e pl b vn) true) := get_set _ (lt_of_get g4) _
      have c5 := c4.trans (setX (h := h4) (.row ((prow s [] p p D e pl b vn).set (0 + 2) (.int .i64 ((p : Int) + 1))) true))
      generalize h4.set X (.row ((prow s [] p p D e pl b vn).set (0 + 2) (.int .i64 ((p : Int) + 1))) true) = h5 at g5 c5 ⊢
      have e2 : tl s p = 1 := by unfold tl; rw [if_neg hw, if_pos q2]
      refine w_idxStr (by omega) hb0 (w_eql (c_dec (fun q3 => ?_) (fun q3 => ?_)))
      · have eb : b = 0 := UInt8.toNat_inj.1 (by show b.toNat = 0; omega)
        refine w_some (v := .agg #[.string (bs noneAt), .int .u8 0]) rfl ?_
        refine w_nilc (w_offP (w_stPA g5 rfl (by show 0 + 3 + 2 ≤ 9; decide) rfl ?_))
        refine k _ (c5.trans (setX _)) ?_
        rw [get_set _ (lt_of_get g5)]
        have e1 : sgn s p = (noneAt, 0) := by unfold sgn; rw [if_neg hw, hb]; simp [eb]
        rw [e1, e2]
        rfl
      · have eb : ¬ b = 0 := fun e => q3 (by rw [e]; rfl)
        refine k _ c5 ?_
        have e1 : sgn s p = ([], b) := by unfold sgn; rw [if_neg hw, hb]; simp [eb]
        rw [e1, e2]
        exact g5
    · have hne : s.drop p = [] := List.drop_eq_nil_of_le (by omega)
      refine c_ff (fun h => h hne) ?_
      refine k _ c3 ?_
      have e2 : tl s p = 0 := by unfold tl; rw [if_neg hw, if_neg q2]
      rw [sgn_end (by omega), e2]
      exact g3
theorem next32 {h : AH} {X : Nat} {at_ : Nat} {s w : W} {fr D e pl : Int} {c : UInt8} {vn : Value} {K : Value → AH → Prop} (g : h[X]? = some (.row (prow s w fr at_ D e pl c vn) true)) (hs : s.length ≤ 2000) (hat : at_ ≤ s.length)
    (k : ∀ h', Chg (At X) h (At X) h' → h'[X]? = some (.row (prow s (sgn s (skip s at_)).1 (skip s at_ : Nat) ((skip s at_ + tl s (skip s at_) : Nat) : Int) D e pl (sgn s (skip s at_)).2 vn) true) → K (.tuple #[]) h') : callW Try.prog 32 [.pointer (some ⟨X, 0, none⟩)] h K := by
  refine c32 ?_
  unfold s32
  have lt := lt_of_get g
  refine w_nilc (w_offP (w_rdP g (v := .int .i64 at_) rfl (w_nilc (w_offP (w_stP g (by show 0 + 1 < 9; decide) rfl rfl ?_)))))
  have g1 : (h.set X (.row ((prow s w fr at_ D e pl c vn).set (0 + 1) (.int .i64 at_)) true))[X]? = some (.row (prow s w at_ at_ D e pl c vn) true) := get_set _ lt _
  have c1 : Chg (At X) h (At X) (h.set X (.row ((prow s w fr at_ D e pl c vn).set (0 + 1) (.int .i64 at_)) true)) := setX _
  generalize h.set X (.row ((prow s w fr at_ D e pl c vn).set (0 + 1) (.int .i64 at_)) true) = h1 at g1 c1 ⊢
  refine loopE_intro (fun m e' h' => ∃ i : Nat, i ≤ s.length ∧ m = s.length - i ∧ e' 0 = .pointer (some ⟨X, 0, none⟩) ∧ Chg (At X) h (At X) h' ∧ h'[X]? = some (.row (prow s w i at_ D e pl c vn) true) ∧ skip s i = skip s at_) (s.length - at_)
    ⟨at_, hat, rfl, rfl, c1, g1, rfl⟩ ?_
  rintro I m e' h2 ⟨i, hi, hm, e0, c2, g2, hsk⟩ ih
  rw [e0]
  refine w_nilc (w_offP (w_rdP g2 (v := .int .i64 i) rfl (w_nilc (w_offP (w_rdP g2 (v := .string (bs s)) rfl (w_lenStr (w_lss ?_)))))))
  by_cases q : (i : Int) < (s.length : Nat)
  · obtain ⟨b, hb⟩ := getElem?_of_lt (l := s) (i := i) (by omega)
    have hbl := blank_of (c := b)
    refine gd_tt q (gd_tt q (w_nilc (gd_tt q (w_offP (gd_tt q (hist_nil (w_rdP g2 (v := .string (bs s)) rfl (gd_tt q (gd_tt q (w_nilc (gd_tt q (w_offP (gd_tt q (hist_nil (w_rdP g2 (v := .int .i64 i) rfl (gd_tt q (w_idxStr (by omega) hb (gd_tt q (w_eql (gd_tt q ?_))))))))))))))))))))
    by_cases q2 : (b.toNat : Int) = 32
    · rw [decide_eq_true q2, Bool.true_or] at hbl
      refine gd_ft q2 (gd_ft q2 (gd_ft q2 (gd_ft q2 (gd_ft q2 (gd_ft q2 (gd_ft q2 (gd_ft q2 (gd_ft q2 (gd_ft q2 (gd_tt q (pk_tt q2 (pk_tt q (c_t ?_)))))))))))))
      refine w_nilc (w_offP (w_rdP g2 (v := .int .i64 i) rfl (w_add (by omega) (by omega) (w_nilc (w_offP (w_stP g2 (by show 0 + 1 < 9; decide) rfl rfl ?_))))))
      exact ih (s.length - (i + 1)) _ _ (by omega) ⟨i + 1, by omega, rfl, e0, c2.trans (setX _), get_set _ (lt_of_get g2) _, by rw [← skip_step hb hbl]; exact hsk⟩
    · rw [decide_eq_false q2, Bool.false_or] at hbl
      refine gd_ff q2 (gd_ff q2 (w_nilc (gd_ff q2 (w_offP (gd_ff q2 (hist_nil (w_rdP g2 (v := .string (bs s)) rfl (gd_ff q2 (gd_ff q2 (w_nilc (gd_ff q2 (w_offP (gd_ff q2 (hist_nil (w_rdP g2 (v := .int .i64 i) rfl (gd_ff q2 (w_idxStr (by omega) hb (gd_ff q2 (w_eql (gd_tt q (pk_ff q2 (pk_tt q (c_dec (fun q3 => ?_) (fun q3 => ?_))))))))))))))))))))))))
      · rw [decide_eq_true q3] at hbl
        refine w_nilc (w_offP (w_rdP g2 (v := .int .i64 i) rfl (w_add (by omega) (by omega) (w_nilc (w_offP (w_stP g2 (by show 0 + 1 < 9; decide) rfl rfl ?_))))))
        exact ih (s.length - (i + 1)) _ _ (by omega) ⟨i + 1, by omega, rfl, e0, c2.trans (setX _), get_set _ (lt_of_get g2) _, by rw [← skip_step hb hbl]; exact hsk⟩
      · rw [decide_eq_false q3] at hbl
        have es : skip s i = i := skip_of fun c' hc' => by rw [hb] at hc'; cases hc'; exact hbl
        rw [← hsk, es] at k
        exact tail32 g2 hs hi fun h' c' g' => k h' (c2.trans c') g'
  · refine gd_tf q (gd_tf q (gd_tf q (gd_tf q (gd_tf q (gd_tf q (gd_tf q (gd_tf q (gd_tf q (gd_tf q (gd_tf q ?_))))))))))
    refine gdu (gdu (gdu (gdu (gdu (gdu (gdu (gdu (gdu (gdu (gd_tf q (pk_ff q (c_f ?_))))))))))))
    have es : skip s i = i := skip_of fun c' hc' => by rw [List.getElem?_eq_none (by omega)] at hc'; cases hc'
    rw [← hsk, es] at k
    exact tail32 g2 hs hi fun h' c' g' => k h' (c2.trans c') g'
end Go.Proofs.Ytlenlhlipmkeeaa.W
end

section
/- Schema's laws: the program's reader: signs are taken. Conditions: none. -/
namespace Go.Proofs.Ytlenlhlipmkeeaa.W
open Go Go.AM SchM
set_option linter.unusedVariables false
set_option maxRecDepth 100000
structure PO (h : AH) (X : Nat) (F : Nat → Prop) (s : W) (p D : Nat) (ns : List W) : Prop where
  row : ∃ vn, h[X]? = some (.row (prow s (sgn s p).1 p ((p + tl s p : Nat) : Int) D 0 0 (sgn s p).2 vn) true) ∧ OwnG 1 (fun j => F j ∧ j ≠ X) h vn ns.length (ns.map fun w => .string (bs w))
  nb : ns.length ≤ p
  p : p ≤ s.length
  X : F X
  fb : ∀ j, F j → j < h.length
structure PE (h : AH) (X : Nat) (F : Nat → Prop) (s : W) (D : Nat) (e : Int) (a : Nat) : Prop where
  row : ∃ w fr at_ c vn, h[X]? = some (.row (prow s w fr at_ D e a c vn) true) ∧ isSl vn
  e : e ≠ 0
  X : F X
section
variable {h h' : AH} {X : Nat} {F : Nat → Prop} {s : W} {p D : Nat} {ns : List W}
theorem PO.ex (r : PO h X F s p D ns) (x : Ex h h') : PO h' X F s p D ns := by
  obtain ⟨vn, g, o⟩ := r.row
  exact ⟨⟨vn, x.some g, o.mono (fun _ _ h => h) fun j hj _ => x.get j (o.on hj).2⟩, r.nb, r.p, r.X, fun j hj => x.lt (r.fb j hj)⟩
theorem PE.ex {e : Int} {a : Nat} (r : PE h X F s D e a) (x : Ex h h') : PE h' X F s D e a := by
  obtain ⟨w, fr, at_, c, vn, g, o⟩ := r.row
  exact ⟨⟨w, fr, at_, c, vn, x.some g, o⟩, r.e, r.X⟩
theorem Chg.weak {G : Nat → Prop} (c : Chg (At X) h (At X) h') (hF : F X) : Chg F h F h' :=
  ⟨c.len, fun j hj hn => c.get j hj fun e => hn (by have : j = X := e; rw [this]; exact hF), fun j hj => .inl hj⟩
theorem next {K : Value → AH → Prop} (r : PO h X F s p D ns) (hs : s.length ≤ 2000) (k : ∀ h', Chg F h F h' → PO h' X F s (adv s p) D ns → K (.tuple #[]) h') : callW Try.prog 32 [.pointer (some ⟨X, 0, none⟩)] h K := by
  obtain ⟨vn, g, o⟩ := r.row
  refine next32 g hs (tl_le s p r.p) fun h' c g' => ?_
  refine k h' (Chg.weak (G := F) c r.X) ⟨⟨vn, g', o.mono (fun _ _ h => h) fun j hj hF => c.get j (o.on hj).2 hF.2⟩, by have := r.nb; have := (skip_le s (p + tl s p) (tl_le s p r.p)).1; unfold adv; omega, adv_le s p r.p, r.X, fun j hj => Nat.lt_of_lt_of_le (r.fb j hj) c.len⟩
end
end Go.Proofs.Ytlenlhlipmkeeaa.W
end

section
/- Schema's laws: models as they lie. Conditions: none. -/
namespace Go.Proofs.Ytlenlhlipmkeeaa.W
open Go Go.AM SchM
set_option linter.unusedVariables false
set_option maxRecDepth 100000
theorem Sl.keepOn {s : Nat} {h h' : AH} {v : Value} {n : Nat} {cs : List Value} (hv : Sl s h v n cs) (hh : ∀ j, onId v j → h'[j]? = h[j]?) : Sl s h' v n cs := by
  obtain ⟨h0, h1⟩ := hv
  refine ⟨h0, ?_⟩
  rcases h1 with h1 | ⟨id, off, cap, e, hc, h3⟩
  · exact .inl h1
  · refine .inr ⟨id, off, cap, e, hc, ?_⟩
    rcases h3 with h3 | ⟨c, w, g, r⟩
    · exact .inl h3
    · subst e
      exact .inr ⟨c, w, (hh id rfl).trans g, r⟩
mutual
def MH (h : AH) (G : Nat → Prop) : Mdl → Value → Prop
  | .mk k n l, v => ∃ a c cs, v = .agg #[.int .i64 k, .string (bs n), .slice a l.length c] ∧ Sl 3 h (.slice a l.length c) l.length cs ∧ (∀ j, onId (.slice a l.length c) j → G j) ∧ ML h G l cs
def ML (h : AH) (G : Nat → Prop) : List Mdl → List Value → Prop
  | [], cs => cs = []
  | m :: l, cs => ∃ x y z rest, cs = x :: y :: z :: rest ∧ MH h G m (.agg #[x, y, z]) ∧ ML h G l rest
end
mutual
theorem MH.mono {h h' : AH} {G G' : Nat → Prop} (hh : ∀ j, G j → h'[j]? = h[j]? ∧ G' j) : ∀ (m : Mdl) (v : Value), MH h G m v → MH h' G' m v
  | .mk k n l, v => by
    intro x
    unfold MH at x ⊢
    obtain ⟨a, c, cs, e, s, g, r⟩ := x
    exact ⟨a, c, cs, e, Sl.keepOn s fun j hj => (hh j (g j hj)).1, fun j hj => (hh j (g j hj)).2, ML.mono hh l cs r⟩
theorem ML.mono {h h' : AH} {G G' : Nat → Prop} (hh : ∀ j, G j → h'[j]? = h[j]? ∧ G' j) : ∀ (l : List Mdl) (cs : List Value), ML h G l cs → ML h' G' l cs
  | [], cs => by
    intro x
    unfold ML at x ⊢
    exact x
  | m :: l, cs => by
    intro x
    unfold ML at x ⊢
    obtain ⟨x, y, z, rest, e, a, b⟩ := x
    exact ⟨x, y, z, rest, e, MH.mono hh m _ a, ML.mono hh l rest b⟩
end
theorem MH.leaf (h : AH) (G : Nat → Prop) (k : Int) (n : W) : MH h G (.mk k n []) (.agg #[.int .i64 k, .string (bs n), .slice none 0 0]) := by
  unfold MH
  exact ⟨none, 0, [], rfl, ⟨rfl, .inl ⟨rfl, rfl⟩⟩, fun j hj => hj.elim, by unfold ML; rfl⟩
theorem MH.shape {h : AH} {G : Nat → Prop} {m : Mdl} {v : Value} (x : MH h G m v) : ∃ k n a l c, v = .agg #[.int .i64 k, .string (bs n), .slice a l c] := by
  obtain ⟨k, n, l⟩ := m
  unfold MH at x
  obtain ⟨a, c, cs, e, _⟩ := x
  exact ⟨k, n, a, _, c, e⟩
theorem ML.snoc {h : AH} {G : Nat → Prop} {m : Mdl} {x y z : Value} (hm : MH h G m (.agg #[x, y, z])) : ∀ (l : List Mdl) (cs : List Value), ML h G l cs → ML h G (l ++ [m]) (cs ++ [x, y, z])
  | [], cs => fun hl => by
    unfold ML at hl
    subst hl
    rw [List.nil_append, List.nil_append]
    unfold ML
    exact ⟨x, y, z, [], rfl, hm, by unfold ML; rfl⟩
  | a :: l, cs => fun hl => by
    unfold ML at hl
    obtain ⟨p, q, r, rest, e, b, c⟩ := hl
    subst e
    rw [List.cons_append]
    unfold ML
    exact ⟨p, q, r, rest ++ [x, y, z], rfl, b, ML.snoc hm l rest c⟩
theorem ML.len {h : AH} {G : Nat → Prop} : ∀ (l : List Mdl) (cs : List Value), ML h G l cs → cs.length = l.length * 3
  | [], cs => fun hl => by unfold ML at hl; subst hl; rfl
  | a :: l, cs => fun hl => by
    unfold ML at hl
    obtain ⟨p, q, r, rest, e, b, c⟩ := hl
    subst e
    have := ML.len l rest c
    simp only [List.length_cons]
    omega
def Wr (h : AH) (j : Nat) : Prop := ∃ c, h[j]? = some (.row c true)
theorem Wr.keep {h h' : AH} {j : Nat} (w : Wr h j) (e : h'[j]? = h[j]?) : Wr h' j := w.elim fun c hc => ⟨c, e.trans hc⟩
theorem ownG_wr {s : Nat} {F : Nat → Prop} {h : AH} {v : Value} {n : Nat} {cs : List Value} (ho : OwnG s F h v n cs) {j : Nat} (hj : onId v j) : Wr h j := by
  obtain ⟨h0, ⟨rfl, rfl⟩ | ⟨id, c, hf, rfl, h1, h2, h3⟩⟩ := ho
  · exact hj.elim
  · have : id = j := hj
    exact ⟨c, this ▸ h1⟩
def Gd (b : Nat) (h : AH) (F : Nat → Prop) (j : Nat) : Prop := b ≤ j ∧ j < h.length ∧ ¬ F j ∧ Wr h j
theorem Gd.chg {b : Nat} {h h' : AH} {F F' : Nat → Prop} (c : Chg F h F' h') (j : Nat) (g : Gd b h F j) : h'[j]? = h[j]? ∧ Gd b h' F' j :=
  ⟨c.get j g.2.1 g.2.2.1, g.1, Nat.lt_of_lt_of_le g.2.1 c.len, fun hf => (c.dom j hf).elim g.2.2.1 fun h => by have := g.2.1; omega, g.2.2.2.keep (c.get j g.2.1 g.2.2.1)⟩
abbrev MG (b : Nat) (h : AH) (F : Nat → Prop) (m : Mdl) (v : Value) : Prop := MH h (Gd b h F) m v
theorem MG.chg {b : Nat} {h h' : AH} {F F' : Nat → Prop} {m : Mdl} {v : Value} (x : MG b h F m v) (c : Chg F h F' h') : MG b h' F' m v := MH.mono (Gd.chg c) m v x
theorem MG.ex {b : Nat} {h h' : AH} {F : Nat → Prop} {m : Mdl} {v : Value} (x : MG b h F m v) (c : Ex h h') : MG b h' F m v := x.chg (Chg.ex c)
theorem MG.low {b b' : Nat} {h : AH} {F : Nat → Prop} {m : Mdl} {v : Value} (x : MG b' h F m v) (hb : b ≤ b') : MG b h F m v := MH.mono (fun j g => ⟨rfl, Nat.le_trans hb g.1, g.2⟩) m v x
def Gs (h : AH) (G : Nat → Prop) (v : Value) (n : Nat) (cs : List Value) : Prop :=
  (∃ i, v = .slice (some ⟨i, 0, none⟩) n n ∧ n = 1 ∧ G i ∧ h[i]? = some (.row cs true) ∧ cs.length = n * 3) ∨ OwnG 3 G h v n cs
theorem Gs.mono {h h' : AH} {G G' : Nat → Prop} {v : Value} {n : Nat} {cs : List Value} (x : Gs h G v n cs) (hh : ∀ j, G j → h'[j]? = h[j]? ∧ G' j) : Gs h' G' v n cs := by
  rcases x with ⟨i, e, n1, g, r, l⟩ | o
  · exact .inl ⟨i, e, n1, (hh i g).2, (hh i g).1.trans r, l⟩
  · exact .inr (o.mono (fun j _ hj => (hh j hj).2) fun j _ hj => (hh j hj).1)
theorem Gs.sl {h : AH} {G : Nat → Prop} {v : Value} {n : Nat} {cs : List Value} (x : Gs h G v n cs) : Sl 3 h v n cs := by
  rcases x with ⟨i, e, n1, g, r, l⟩ | o
  · subst n1
    exact ⟨l, .inr ⟨i, 0, 1, e, .inl ⟨by decide, Nat.le_refl _⟩, .inr ⟨cs, true, r, by omega, by rw [List.drop_zero, ← l, List.take_length]⟩⟩⟩
  · exact o.sl
theorem Gs.on {h : AH} {G : Nat → Prop} {v : Value} {n : Nat} {cs : List Value} (x : Gs h G v n cs) {j : Nat} (hj : onId v j) : G j := by
  rcases x with ⟨i, e, n1, g, r, l⟩ | o
  · subst e
    have : i = j := hj
    subst this
    exact g
  · exact (o.on hj).1
structure LL (b : Nat) (h : AH) (F : Nat → Prop) (v : Value) (l : List Mdl) : Prop where
  ex : ∃ cs, Gs h (Gd b h F) v l.length cs ∧ ML h (fun j => Gd b h F j ∧ ¬ onId v j) l cs
theorem LL.chg {b : Nat} {h h' : AH} {F F' : Nat → Prop} {v : Value} {l : List Mdl} (x : LL b h F v l) (c : Chg F h F' h') : LL b h' F' v l := by
  obtain ⟨cs, g, r⟩ := x.ex
  exact ⟨cs, g.mono (Gd.chg c), ML.mono (fun j hj => ⟨(Gd.chg c j hj.1).1, (Gd.chg c j hj.1).2, hj.2⟩) l cs r⟩
theorem bigR3 : (1000000 : Nat) < room40 := by decide
theorem app_lit {h : AH} {i r n : Nat} {cs cells : List Value} {K : Value → AH → Prop} (g : h[i]? = some (.row cs true)) (l : cs.length = n * 3) (n0 : 0 < n) (hn : n < 1000) (gr : h[r]? = some (.row cells true)) (hl : cells.length = 3)
    (k : K (.slice (some ⟨h.length, 0, none⟩) (n + 1) (openCap + 3)) (h ++ [.row (cs ++ cells) true])) : appSl 3 (.slice (some ⟨i, 0, none⟩) n n) (.slice (some ⟨r, 0, none⟩) 1 1) h K := by
  refine appSl_of (.inl ?_)
  have hsrc := srcL_new (n := 1) (s := 3) (cap := 1) gr (by decide) hl
  have hr : (1000000 : Nat) < room40 := by decide
  have hc : (1000000 : Nat) < openCap := by decide
  have : pAppS 3 (.slice (some ⟨i, 0, none⟩) n n) (.slice (some ⟨r, 0, none⟩) 1 1) h = some (.slice (some ⟨h.length, 0, none⟩) (n + 1) (openCap + 3), h ++ [AObj.row (cs ++ cells) true]) := by
    unfold pAppS
    simp only [hsrc]
    rw [if_pos (by omega), if_pos (by omega)]
    simp only [pAppEx]
    rw [if_neg (by omega)]
    simp [firstL, g, ← l]
  rw [this]
  exact k
theorem Gs.app {b n : Nat} {h0 h : AH} {F0 F : Nat → Prop} {v w : Value} {cs z : List Value} {k' : Int} {n' : W} {a : Option Addr} {ll c : Nat} {Q : List Value → Nat → Value → AH → Prop} (g : Gs h (Gd b h F) v n cs) (hw : w = .agg #[.int .i64 k', .string (bs n'), .slice a ll c]) (hz : z.length = 3) (hn : n < 100000) (hn0 : 0 < n) (c0 : Chg F0 h0 F h) (hb : h0.length ≤ b) (hbh : b ≤ h.length) (hfb : ∀ j, F j → j < h.length)
    (k : ∀ c' j v' h', Chg F0 h0 F h' → (∀ j, j < h.length → ¬ onId v j → h'[j]? = h[j]?) → h.length ≤ h'.length → (∀ j, onId v' j → onId v j ∨ h.length ≤ j) → Gs h' (Gd b h' F) v' (n + 1) (cs ++ [.int .i64 k', .string (bs n'), .slice a ll c]) → Q c' j v' h') :
    optW (bldSl 3 z 1 [(0, w)]) fun c => newW none (.row c true) h fun j h1 => appSl 3 v (.slice (some ⟨j, 0, none⟩) 1 1) h1 fun v' h' => Q c j v' h' := by
  subst hw
  have hbl : bldSl 3 z 1 [(0, .agg #[.int .i64 k', .string (bs n'), .slice a ll c])] = some [.int .i64 k', .string (bs n'), .slice a ll c] := bldSl_one hz (by decide) rfl rfl
  refine w_some hbl ?_
  refine n_newv fun h1 x1 l1 g1 => ?_
  have hlv : ∀ j, onId v j → b ≤ j ∧ j < h.length := fun j hj => ⟨(g.on hj).1, (g.on hj).2.1⟩
  have hfn : ∀ j, h.length ≤ j → ¬ F j := fun j hj hf => by have := hfb j hf; omega
  have mk : ∀ (h' : AH) (v' : Value), h1.length ≤ h'.length → (∀ j, j < h1.length → ¬ onId v j → h'[j]? = h1[j]?) → (∀ j, onId v' j → onId v j ∨ j = h1.length) → Gs h' (Gd b h' F) v' (n + 1) (cs ++ [.int .i64 k', .string (bs n'), .slice a ll c]) → Q [.int .i64 k', .string (bs n'), .slice a ll c] h.length v' h' := fun h' v' hl' hh' hid hg => by
    refine k _ _ v' h' ⟨(by have := c0.len; omega), (fun j hj hjF => ?_), c0.dom⟩ (fun j hj hno => (hh' j (by omega) hno).trans (x1.get j hj)) (by omega) (fun j hj => (hid j hj).imp id (by omega)) hg
    rw [hh' j (by have := c0.len; omega) fun hon => by have := (hlv j hon).1; omega, x1.get j (by have := c0.len; omega)]
    exact c0.get j hj hjF
  rcases g with ⟨i, rfl, n1, gi, ri, li⟩ | o
  · refine app_lit (x1.some ri) li (by omega) (by omega) g1 rfl ?_
    refine mk _ _ (by simp) (fun j hj _ => List.getElem?_append_left hj) (fun j hj => .inr (by have : h1.length = j := hj; omega)) (.inr ⟨by rw [List.length_append, li]; show n * 3 + 3 = (n + 1) * 3; omega, .inr ⟨h1.length, _, ⟨by omega, by simp, hfn _ (by omega), ⟨_, get_new _ _⟩⟩, rfl, get_new _ _, by rw [List.length_append, li]; show (n + 1) * 3 ≤ n * 3 + 3; omega, List.take_of_length_le (by rw [List.length_append, li]; show n * 3 + 3 ≤ (n + 1) * 3; omega)⟩⟩)
  · refine appSl_of ?_
    have o1 := o.mono (F' := Gd b h F) (h' := h1) (fun _ _ h => h) fun j hj _ => x1.get j (hlv j hj).2
    refine app_g (by decide) o1 (srcL_new (n := 1) (s := 3) g1 (by decide) rfl) rfl (by have := bigR3; omega) fun v' h' a1 a2 a3 a4 => ?_
    refine mk h' v' a2 a3 a4 (.inr (a1.mono (fun j hj hF => ?_) fun _ _ _ => rfl))
    have hj' := (a1.on hj).2
    rcases hF with hF | rfl
    · exact ⟨hF.1, by omega, hF.2.2.1, ownG_wr a1 hj⟩
    · exact ⟨by omega, hj', hfn _ (by omega), ownG_wr a1 hj⟩
theorem LL.app {b : Nat} {h0 h : AH} {F0 F : Nat → Prop} {v w : Value} {l : List Mdl} {m : Mdl} {z : List Value} {Q : List Value → Nat → Value → AH → Prop} (x : LL b h F v l) (hm : MH h (fun j => Gd b h F j ∧ ¬ onId v j) m w) (hz : z.length = 3) (hn : l.length < 100000) (hl0 : 0 < l.length) (c0 : Chg F0 h0 F h) (hb : h0.length ≤ b) (hbh : b ≤ h.length) (hfb : ∀ j, F j → j < h.length)
    (k : ∀ c j v' h', Chg F0 h0 F h' → (∀ j, j < h.length → ¬ onId v j → h'[j]? = h[j]?) → h.length ≤ h'.length → LL b h' F v' (l ++ [m]) → Q c j v' h') :
    optW (bldSl 3 z 1 [(0, w)]) fun c => newW none (.row c true) h fun j h1 => appSl 3 v (.slice (some ⟨j, 0, none⟩) 1 1) h1 fun v' h' => Q c j v' h' := by
  obtain ⟨cs, g, r⟩ := x.ex
  obtain ⟨k', n', a, ll, c, rfl⟩ := hm.shape
  refine g.app rfl hz hn hl0 c0 hb hbh hfb fun c' j v' h' c1 same len ids g' => k _ _ _ _ c1 same len ⟨⟨cs ++ [.int .i64 k', .string (bs n'), .slice a ll c], ?_, ?_⟩⟩
  · have elm : (l ++ [m]).length = l.length + 1 := by simp
    rw [elm]
    exact g'
  · have up : ∀ j, Gd b h F j ∧ ¬ onId v j → h'[j]? = h[j]? ∧ Gd b h' F j ∧ ¬ onId v' j := fun j hj => ⟨same j hj.1.2.1 hj.2, ⟨hj.1.1, by have := hj.1.2.1; omega, hj.1.2.2.1, hj.1.2.2.2.keep (same j hj.1.2.1 hj.2)⟩, fun hon => (ids j hon).elim hj.2 fun e => by have := hj.1.2.1; omega⟩
    exact ML.snoc (MH.mono up m _ hm) l cs (ML.mono up l cs r)
theorem MH.one {h : AH} {G : Nat → Prop} {k : Int} {m : Mdl} {x y z : Value} {i : Nat} (hm : MH h G m (.agg #[x, y, z])) (gi : h[i]? = some (.row [x, y, z] true)) (Gi : G i) : MH h G (.mk k [] [m]) (.agg #[.int .i64 k, .string (bs []), .slice (some ⟨i, 0, none⟩) 1 1]) := by
  unfold MH
  refine ⟨some ⟨i, 0, none⟩, 1, [x, y, z], rfl, ⟨rfl, .inr ⟨i, 0, 1, rfl, .inl ⟨by decide, Nat.le_refl _⟩, .inr ⟨[x, y, z], true, gi, Nat.le_refl 3, rfl⟩⟩⟩, fun j hj => by have : i = j := hj; rw [← this]; exact Gi, ?_⟩
  unfold ML
  exact ⟨x, y, z, [], rfl, hm, by unfold ML; rfl⟩
end Go.Proofs.Ytlenlhlipmkeeaa.W
end

section
/- Schema's laws: the program's reader: an atom. Conditions: none. -/
namespace Go.Proofs.Ytlenlhlipmkeeaa.W
open Go Go.AM SchM
set_option linter.unusedVariables false
set_option maxRecDepth 100000
def isMv (v : Value) : Prop := ∃ k n a l c, v = .agg #[.int .i64 k, .string (bs n), .slice a l c]
theorem res59 (n : Nat) (e : Env) (h : AH) : resList Try.prog e h [.cell n 59] = (rdRow true 3 (e n) h).map fun v => [v] := by
  have h2 : ∀ x, pLoad Try.prog 59 x h = rdRow true 3 x h := fun x => by kernel_rfl
  show (match pLoad Try.prog 59 (e n) h with
    | some v => match resList Try.prog e h [] with
      | some vs => some (v :: vs)
      | none => none
    | none => none) = _
  rw [h2]
  cases rdRow true 3 (e n) h <;> rfl
theorem endM {E : Env} {rs : List ResultVar} {n r : Nat} {h : AH} {c : List Value} {v : Value} {K : Value → AH → Prop} (hr : rs = [.cell n 59]) (hE : E n = .pointer (some ⟨r, 0, none⟩)) (g : h[r]? = some (.row c true)) (hc : c.length = 3) (hv : isMv v) (k : ∀ o, K v (h.set r o)) :
    optW (pStore 3 (.pointer (some ⟨r, 0, none⟩)) v h) fun h' => optW (resList Try.prog E h' rs) fun vs => K (resOf vs) h' := by
  obtain ⟨k', n', a, l, cc, rfl⟩ := hv
  refine w_stPA g rfl (by omega) rfl ?_
  have g2 : (h.set r (.row (spliceL c 0 (cellsL (.agg #[.int .i64 k', .string (bs n'), .slice a l cc]))) true))[r]? = some (.row [.int .i64 k', .string (bs n'), .slice a l cc] true) := by
    rw [get_set _ (lt_of_get g)]
    match c, hc with
    | [x, y, z], _ => rfl
  rw [hr, res59, hE]
  refine w_some (v := [Value.agg #[.int .i64 k', .string (bs n'), .slice a l cc]]) ?_ (show K (.agg #[.int .i64 k', .string (bs n'), .slice a l cc]) _ from k _)
  have e := hopt (o := rdRow true 3 (.pointer (some ⟨r, 0, none⟩)) _) (w_rdPA g2 (Nat.le_refl 3) rfl)
  rw [e]
  rfl
theorem _root_.Go.AM.Chg.setNew {F F' : Nat → Prop} {h h' : AH} {i : Nat} (c : Chg F h F' h') (hi : h.length ≤ i) (o : AObj) : Chg F h F' (h'.set i o) :=
  ⟨by rw [List.length_set]; exact c.len, fun j hj hn => (get_ne (by omega) _).trans (c.get j hj hn), c.dom⟩
theorem PO.setNew {h : AH} {X : Nat} {F : Nat → Prop} {s : W} {p D : Nat} {ns : List W} {i : Nat} (r : PO h X F s p D ns) (hi : ¬ F i) (o : AObj) : PO (h.set i o) X F s p D ns := by
  obtain ⟨vn, g, ow⟩ := r.row
  have hX : i ≠ X := fun e => hi (by rw [e]; exact r.X)
  exact ⟨⟨vn, (get_ne hX _).trans g, ow.mono (fun _ _ h => h) fun j hj hF => get_ne (fun e => hi (by rw [e]; exact hF.1)) _⟩, r.nb, r.p, r.X, fun j hj => by rw [List.length_set]; exact r.fb j hj⟩
theorem PE.setNew {h : AH} {X : Nat} {F : Nat → Prop} {s : W} {D : Nat} {e : Int} {a : Nat} {i : Nat} (r : PE h X F s D e a) (hX : i ≠ X) (o : AObj) : PE (h.set i o) X F s D e a := by
  obtain ⟨w, fr, at_, c, vn, g, ow⟩ := r.row
  exact ⟨⟨w, fr, at_, c, vn, (get_ne hX _).trans g, ow⟩, r.e, r.X⟩
theorem MG.setNew {b : Nat} {h : AH} {F : Nat → Prop} {m : Mdl} {v : Value} {i : Nat} (x : MG b h F m v) (hi : ¬ Gd b h F i) (o : AObj) : MG b (h.set i o) F m v :=
  MH.mono (fun j g => ⟨get_ne (fun e => hi (by rw [e]; exact g)) _, g.1, by rw [List.length_set]; exact g.2.1, g.2.2.1, g.2.2.2.keep (get_ne (fun e => hi (by rw [e]; exact g)) _)⟩) m v x
end Go.Proofs.Ytlenlhlipmkeeaa.W
end

section
/- Schema's laws: the program's reader: an atom. Conditions: none. -/
namespace Go.Proofs.Ytlenlhlipmkeeaa.W
open Go Go.AM SchM
set_option linter.unusedVariables false
set_option maxRecDepth 100000
end Go.Proofs.Ytlenlhlipmkeeaa.W
end

section
/- Schema's laws: the program's reader: models. Conditions: none. -/
namespace Go.Proofs.Ytlenlhlipmkeeaa.W
open Go Go.AM SchM
set_option linter.unusedVariables false
set_option maxRecDepth 100000
end Go.Proofs.Ytlenlhlipmkeeaa.W
end

section
/- Schema's laws: the program's reader: models, all of them. Conditions: none. -/
namespace Go.Proofs.Ytlenlhlipmkeeaa.W
open Go Go.AM SchM
set_option linter.unusedVariables false
set_option maxRecDepth 100000
end Go.Proofs.Ytlenlhlipmkeeaa.W
end

section
/- Schema's laws: the program's reader: elements. Conditions: none. -/
namespace Go.Proofs.Ytlenlhlipmkeeaa.W
open Go Go.AM SchM
set_option linter.unusedVariables false
set_option maxRecDepth 100000
def EL (h : AH) (G : Nat → Prop) : List (W × Mdl) → List Value → Prop
  | [], cs => cs = []
  | e :: l, cs => ∃ k n a ll c rest, cs = .string (bs e.1) :: .int .i64 k :: .string (bs n) :: .slice a ll c :: rest ∧ MH h G e.2 (.agg #[.int .i64 k, .string (bs n), .slice a ll c]) ∧ EL h G l rest
theorem EL.mono {h h' : AH} {G G' : Nat → Prop} (hh : ∀ j, G j → h'[j]? = h[j]? ∧ G' j) : ∀ (l : List (W × Mdl)) (cs : List Value), EL h G l cs → EL h' G' l cs
  | [], cs, x => x
  | e :: l, cs, ⟨k, n, a, ll, c, rest, e1, m, r⟩ => ⟨k, n, a, ll, c, rest, e1, MH.mono hh _ _ m, EL.mono hh l rest r⟩
theorem EL.snoc {h : AH} {G : Nat → Prop} {e : W × Mdl} {k : Int} {n : W} {a : Option Addr} {ll c : Nat} (hm : MH h G e.2 (.agg #[.int .i64 k, .string (bs n), .slice a ll c])) : ∀ (l : List (W × Mdl)) (cs : List Value), EL h G l cs → EL h G (l ++ [e]) (cs ++ [.string (bs e.1), .int .i64 k, .string (bs n), .slice a ll c])
  | [], cs, x => by
    have : cs = [] := x
    subst this
    exact ⟨k, n, a, ll, c, [], rfl, hm, rfl⟩
  | f :: l, cs, ⟨k', n', a', ll', c', rest, e1, m, r⟩ => by
    subst e1
    exact ⟨k', n', a', ll', c', _, rfl, m, EL.snoc hm l rest r⟩
theorem EL.get {h : AH} {G : Nat → Prop} : ∀ (l : List (W × Mdl)) (cs : List Value), EL h G l cs → ∀ i e, l[i]? = some e → ∃ k n a ll c, (cs.drop (i * 4)).take 4 = [.string (bs e.1), .int .i64 k, .string (bs n), .slice a ll c] ∧ MH h G e.2 (.agg #[.int .i64 k, .string (bs n), .slice a ll c])
  | [], cs, _ => fun i e hi => by simp at hi
  | f :: l, cs, ⟨k', n', a', ll', c', rest, e1, m, r⟩ => fun i e hi => by
    subst e1
    cases i with
    | zero =>
      cases hi
      exact ⟨k', n', a', ll', c', rfl, m⟩
    | succ i =>
      obtain ⟨k, n, a, ll, c, h1, h2⟩ := EL.get l rest r i e hi
      refine ⟨k, n, a, ll, c, ?_, h2⟩
      have e2 : (i + 1) * 4 = i * 4 + 4 := by omega
      rw [e2]
      exact h1
structure Nm (h : AH) (v : Value) (names : List W) : Prop where
  ex : ∃ cs, Sl 4 h v names.length cs ∧ ∀ i w, names[i]? = some w → ∃ k nn a ll c, (cs.drop (i * 4)).take 4 = [.string (bs w), .int .i64 k, .string (bs nn), .slice a ll c]
theorem Nm.ext {h h' : AH} {v : Value} {names : List W} (x : Nm h v names) (e : Ex h h') : Nm h' v names := by
  obtain ⟨cs, s, r⟩ := x.ex
  exact ⟨⟨cs, s.ex e, r⟩⟩
theorem Nm.keep {h h' : AH} {v : Value} {names : List W} (x : Nm h v names) (e : ∀ j, onId v j → h'[j]? = h[j]?) : Nm h' v names := by
  obtain ⟨cs, s, r⟩ := x.ex
  exact ⟨⟨cs, Sl.keepOn s e, r⟩⟩
end Go.Proofs.Ytlenlhlipmkeeaa.W
end

section
/- Schema's laws: the program's Parse. Conditions: none. -/
namespace Go.Proofs.Ytlenlhlipmkeeaa.W
open Go Go.AM SchM
set_option linter.unusedVariables false
set_option maxRecDepth 100000
theorem joinE_intro {B : (Env → AH → Prop) → Prop} {J : Env → AH → Prop} (Inv : Env → AH → Prop) (hJ : ∀ e h, Inv e h → J e h) (hB : ∀ J', (∀ e h, Inv e h → J' e h) → B J') : joinE B J := hB J hJ
theorem ptr_id {n id off : Nat} {h h' : AH} (e : h'[id]? = h[id]?) : ∀ x ∈ ceOf n (.pointer (some ⟨id, off, none⟩)), vw x h = vw x h' := by
  intro x hx
  rw [ce_id hx]
  exact vw_eq e.symm
def zS : List Value := [(.string (bs [])), (.slice none 0 0)]
structure BS (h4 : AH) (T X O : Nat) (h : AH) (F : Nat → Prop) (w : W) (vl : Value) : Prop where
  c : Chg (fun j => j = X ∨ j = O) h4 (fun j => F j ∨ j = O) h
  nO : ¬ F O
  o : h[O]? = some (.row [.string (bs w), vl] true)
structure B4 (h0 h4 : AH) (T X O : Nat) : Prop where
  x : Ex h0 h4
  t : h4[T]? = some (.row zS true)
  tX : T ≠ X
  tO : T ≠ O
  xO : X ≠ O
  bX : h0.length ≤ X
  bO : h0.length ≤ O
  bT : h0.length ≤ T
  lX : X < h4.length
  lO : O < h4.length
section
variable {h0 h4 h h' : AH} {T X O : Nat} {F F' : Nat → Prop} {w : W} {vl : Value}
theorem BS.chg (b : BS h4 T X O h F w vl) (c : Chg F h F' h') : BS h4 T X O h' F' w vl := by
  have lO := lt_of_get b.o
  refine ⟨b.c.trans ⟨c.len, fun j hj hn => c.get j hj fun hf => hn (.inl hf), fun j hj => ?_⟩, fun hf => (c.dom O hf).elim b.nO (by omega), (c.get O lO b.nO).trans b.o⟩
  rcases hj with hj | hj
  · exact (c.dom j hj).imp .inl id
  · exact .inl (.inr hj)
theorem BS.ex (b : BS h4 T X O h F w vl) (x : Ex h h') : BS h4 T X O h' F w vl := b.chg (Chg.ex x)
theorem BS.setO (b : BS h4 T X O h F w vl) (w' : W) (vl' : Value) : BS h4 T X O (h.set O (.row [.string (bs w'), vl'] true)) F w' vl' :=
  ⟨b.c.trans (Chg.setf (F := fun j => F j ∨ j = O) (.inr rfl) _), b.nO, get_set _ (lt_of_get b.o) _⟩
theorem BS.t (b4 : B4 h0 h4 T X O) (b : BS h4 T X O h F w vl) : h[T]? = some (.row zS true) :=
  (b.c.get T (lt_of_get b4.t) fun hf => hf.elim b4.tX b4.tO).trans b4.t
theorem BS.toEx (b4 : B4 h0 h4 T X O) (b : BS h4 T X O h F w vl) : Ex h0 h := b.c.toEx b4.x fun j hj => hj.elim (fun e => by rw [e]; exact b4.bX) fun e => by rw [e]; exact b4.bO
theorem BS.tl (b4 : B4 h0 h4 T X O) (b : BS h4 T X O h F w vl) : T < h.length := lt_of_get (b.t b4)
end
theorem PO.setO {h : AH} {X O : Nat} {F : Nat → Prop} {s : W} {p D : Nat} {ns : List W} (r : PO h X F s p D ns) (hO : ¬ F O) (o : AObj) : PO (h.set O o) X F s p D ns := r.setNew hO o
structure LE (b : Nat) (h : AH) (F : Nat → Prop) (v : Value) (l : List (W × Mdl)) : Prop where
  ex : ∃ cs, OwnG 4 (Gd b h F) h v l.length cs ∧ EL h (fun j => Gd b h F j ∧ ¬ onId v j) l cs
theorem LE.chg {b : Nat} {h h' : AH} {F F' : Nat → Prop} {v : Value} {l : List (W × Mdl)} (x : LE b h F v l) (c : Chg F h F' h') : LE b h' F' v l := by
  obtain ⟨cs, g, r⟩ := x.ex
  exact ⟨cs, g.mono (fun j _ hj => (Gd.chg c j hj).2) fun j _ hj => (Gd.chg c j hj).1, EL.mono (fun j hj => ⟨(Gd.chg c j hj.1).1, (Gd.chg c j hj.1).2, hj.2⟩) l cs r⟩
theorem LE.on {b : Nat} {h : AH} {F : Nat → Prop} {v : Value} {l : List (W × Mdl)} (x : LE b h F v l) {j : Nat} (hj : onId v j) : Gd b h F j := by
  obtain ⟨cs, g, r⟩ := x.ex
  exact (g.on hj).1
theorem LE.nm {b : Nat} {h : AH} {F : Nat → Prop} {v : Value} {l : List (W × Mdl)} (x : LE b h F v l) : Nm h v (l.map (·.1)) := by
  obtain ⟨cs, g, r⟩ := x.ex
  refine ⟨⟨cs, by rw [List.length_map]; exact g.sl, fun i w hw => ?_⟩⟩
  rw [List.getElem?_map] at hw
  cases hl : l[i]? with
  | none => rw [hl] at hw; cases hw
  | some e =>
    rw [hl] at hw
    cases hw
    obtain ⟨k, n, a, ll, c, h1, _⟩ := EL.get l cs r i e hl
    exact ⟨k, n, a, ll, c, h1⟩
end Go.Proofs.Ytlenlhlipmkeeaa.W
end

section
/- The law's within. Conditions: none. -/
namespace Go.Proofs.Ytlenlhlipmkeeaa.W
open Go Go.AM
set_option maxRecDepth 100000
theorem within15 (a n : Int) (h : AH) (K : Value → AH → Prop) (h1 : 0 < n) (h2 : n ≤ 1152921504606846976)
   (k : K (.int .i64 (a % n)) h) : callW Try.prog 15 [.int .i64 a, .int .i64 n] h K := by
  obtain ⟨_, q1, q2, q3, q4⟩ := tmod_emod a n h1
  refine c15 ?_
  unfold s15
  refine w_tmod (by omega) ?_
  generalize hm : a.tmod n = m at *
  (repeat' (with_reducible first | refine w_lss ?_ | refine w_leq ?_ | refine w_gtr ?_ | refine w_geq ?_ | refine w_eql ?_ | refine w_neq ?_ | refine w_lenSl ?_ | refine w_lenStr ?_ | refine w_not ?_ | refine w_add (by omega) (by omega) ?_ | refine w_sub (by omega) (by omega) ?_ | refine w_rem (by omega) (by omega) ?_ | refine w_quo (by omega) (by omega) (by omega) ?_ | refine w_seql ?_ | refine w_sneq ?_ | refine c_t ?_ | refine c_f ?_ | refine c_tt (by first | assumption | omega) ?_ | refine c_ff (by first | assumption | omega) ?_ | refine c_dec (fun hc => ?_) (fun hc => ?_) | refine c_b (fun hc => ?_) (fun hc => ?_) | refine gc_tt ?_ | refine gc_ft ?_ | refine gc_tf ?_ | refine gc_ff ?_ | refine g_tt (by first | assumption | omega) ?_ | refine g_tf (by first | assumption | omega) ?_ | refine g_ft (by first | assumption | omega) ?_ | refine g_ff (by first | assumption | omega) ?_ | refine g_dec (fun hc => ?_) (fun hc => ?_) | refine g_decf (fun hc => ?_) (fun hc => ?_) | refine pk_t ?_ | refine pk_f ?_ | refine pk_tt (by first | assumption | omega) ?_ | refine pk_ff (by first | assumption | omega) ?_))
  · rw [q1 (by assumption)]; exact k
  · rw [q2 (by assumption)]; exact k
end Go.Proofs.Ytlenlhlipmkeeaa.W
end

section
/- Schema's laws: models made of numbers. Conditions: none. -/
namespace Go.Proofs.Ytlenlhlipmkeeaa.W
open Go Go.AM SchM
set_option linter.unusedVariables false
set_option maxRecDepth 100000
abbrev ptr (X : Nat) : Value := .pointer (some ⟨X, 0, none⟩)
structure MkH (hb h : AH) (X : Nat) (nm : List W) (ns : List Int) (v0 v1 : Value) (a : Nat) : Prop where
  row : h[X]? = some (.row [v0, v1, .int .i64 a] true)
  n0 : SlT 1 eS hb v0 nm
  n1 : Ints hb v1 ns
  x : Ex hb h
  X : hb.length ≤ X
theorem MkH.ex {hb h h' : AH} {X : Nat} {nm : List W} {ns : List Int} {v0 v1 : Value} {a : Nat} (m : MkH hb h X nm ns v0 v1 a) (x : Ex h h') : MkH hb h' X nm ns v0 v1 a := ⟨x.some m.row, m.n0, m.n1, m.x.trans x, m.X⟩
theorem MkH.lt {hb h : AH} {X : Nat} {nm : List W} {ns : List Int} {v0 v1 : Value} {a : Nat} (m : MkH hb h X nm ns v0 v1 a) : X < h.length := lt_of_get m.row
theorem MkH.setNew {hb h : AH} {X i : Nat} {nm : List W} {ns : List Int} {v0 v1 : Value} {a : Nat} (m : MkH hb h X nm ns v0 v1 a) (hi : X < i) (o : AObj) : MkH hb (h.set i o) X nm ns v0 v1 a :=
  ⟨(get_ne (by omega) _).trans m.row, m.n0, m.n1, m.x.set (by have := m.X; omega) _, m.X⟩
theorem nx30 {hb h : AH} {X : Nat} {nm : List W} {ns : List Int} {v0 v1 : Value} {a : Nat} {n : Int} {K : Value → AH → Prop} (m : MkH hb h X nm ns v0 v1 a) (ha : a ≤ 100000000000) (hn : 0 < n ∧ n ≤ 1000000000000)
    (k : ∀ h', Chg (At X) h (At X) h' → h'.length = h.length → MkH hb h' X nm ns v0 v1 (nxA ns a) → K (.int .i64 (nx ns a n)) h') : callW Try.prog 30 [.pointer (some ⟨X, 0, none⟩), .int .i64 n] h K := by
  refine c30 ?_
  unfold s30
  have g := m.row
  have lt := m.lt
  refine w_nilc (w_offP (w_rdP g (v := .int .i64 a) rfl (w_nilc (w_offP (w_rdP g (v := v1) rfl (w_len (m.n1.ex m.x) (w_geq ?_)))))))
  refine c_dec (fun q => ?_) (fun q => ?_)
  · have e1 : nx ns a n = 0 := by unfold nx; rw [List.getElem?_eq_none (by omega)]
    have e2 : nxA ns a = a := by unfold nxA; rw [if_neg (by omega)]
    have := k h (Chg.refl _ _) rfl (by rw [e2]; exact m)
    rw [e1] at this
    exact this
  · refine w_nilc (w_offP (w_rdP g (v := .int .i64 a) rfl (w_add (by omega) (by omega) (w_nilc (w_offP (w_stP g (by show 0 + 2 < 3; decide) rfl rfl ?_))))))
    have g1 : (h.set X (.row ([v0, v1, .int .i64 a].set (0 + 2) (.int .i64 ((a : Int) + 1))) true))[X]? = some (.row [v0, v1, .int .i64 ((a : Int) + 1)] true) := get_set _ lt _
    have c1 : Chg (At X) h (At X) (h.set X (.row ([v0, v1, .int .i64 a].set (0 + 2) (.int .i64 ((a : Int) + 1))) true)) := ⟨by rw [List.length_set]; exact Nat.le_refl _, fun j _ hj => get_ne (fun e => hj e.symm) _, fun j hj => .inl hj⟩
    have l1 : (h.set X (.row ([v0, v1, .int .i64 a].set (0 + 2) (.int .i64 ((a : Int) + 1))) true)).length = h.length := List.length_set ..
    have x1 : Ex hb (h.set X (.row ([v0, v1, .int .i64 a].set (0 + 2) (.int .i64 ((a : Int) + 1))) true)) := m.x.set m.X _
    generalize h.set X _ = h1 at *
    refine w_nilc (w_offP (w_rdP g1 (v := v1) rfl (w_nilc (w_offP (w_rdP g1 (v := .int .i64 ((a : Int) + 1)) rfl (w_sub (by omega) (by omega) ?_))))))
    have ea : ((a : Int) + 1 - 1) = (a : Nat) := by omega
    rw [ea]
    obtain ⟨z, hz⟩ := getElem?_of_lt (l := ns) (i := a) (by omega)
    refine w_idxN (enc := eI) eI_len (m.n1.ex x1) hz fun pp hpp => w_rd1 hpp rfl ?_
    refine within15 _ _ _ _ hn.1 (by omega) ?_
    have e1 : nx ns a n = z % n := by unfold nx; rw [hz]
    have e2 : nxA ns a = a + 1 := by unfold nxA; rw [if_pos (by omega)]
    have := k h1 c1 l1 (by rw [e2]; exact ⟨g1, m.n0, m.n1, x1, m.X⟩)
    rw [e1] at this
    exact this
abbrev MGw (b : Nat) (h : AH) (F : Nat → Prop) (m : Mdl) (v : Value) : Prop := MH h (fun j => Gd b h F j ∧ Wr h j) m v
theorem MGw.chg {b : Nat} {h h' : AH} {F F' : Nat → Prop} {m : Mdl} {v : Value} (x : MGw b h F m v) (c : Chg F h F' h') : MGw b h' F' m v := MH.mono (fun j g => ⟨(Gd.chg c j g.1).1, (Gd.chg c j g.1).2, g.2.keep (Gd.chg c j g.1).1⟩) m v x
theorem MGw.ex {b : Nat} {h h' : AH} {F : Nat → Prop} {m : Mdl} {v : Value} (x : MGw b h F m v) (c : Ex h h') : MGw b h' F m v := x.chg (Chg.ex c)
theorem MGw.low {b b' : Nat} {h : AH} {F : Nat → Prop} {m : Mdl} {v : Value} (x : MGw b' h F m v) (hb : b ≤ b') : MGw b h F m v := MH.mono (fun j g => ⟨rfl, ⟨Nat.le_trans hb g.1.1, g.1.2⟩, g.2⟩) m v x
theorem MGw.setNew {b : Nat} {h : AH} {F : Nat → Prop} {m : Mdl} {v : Value} {i : Nat} (x : MGw b h F m v) (hi : ¬ Gd b h F i) (o : AObj) : MGw b (h.set i o) F m v :=
  MH.mono (fun j g => ⟨get_ne (fun e => hi (by rw [e]; exact g.1)) _, ⟨g.1.1, by rw [List.length_set]; exact g.1.2.1, g.1.2.2.1, g.2.keep (get_ne (fun e => hi (by rw [e]; exact g.1)) _)⟩, g.2.keep (get_ne (fun e => hi (by rw [e]; exact g.1)) _)⟩) m v x
theorem MH.rowN {h : AH} {G : Nat → Prop} {k : Int} {l : List Mdl} {cs : List Value} {i cap : Nat} (hml : ML h G l cs) (gi : h[i]? = some (.row cs true)) (Gi : G i) (hc : cap < openCap ∧ l.length ≤ cap ∨ cap = openCap + 3) : MH h G (.mk k [] l) (.agg #[.int .i64 k, .string (bs []), .slice (some ⟨i, 0, none⟩) l.length cap]) := by
  have hl := ML.len l cs hml
  unfold MH
  refine ⟨some ⟨i, 0, none⟩, cap, cs, rfl, ⟨hl, .inr ⟨i, 0, cap, rfl, hc, .inr ⟨cs, true, gi, by omega, by rw [List.drop_zero, ← hl, List.take_length]⟩⟩⟩, fun j hj => by have : i = j := hj; rw [← this]; exact Gi, hml⟩
theorem bld32 (k1 k2 : Int) (n1 n2 : W) (a1 a2 : Option Addr) (l1 l2 c1 c2 : Nat) : bldSl 3 [(.int .i64 0), (.string (bs [])), (.slice none 0 0)] 2 [(0, .agg #[.int .i64 k1, .string (bs n1), .slice a1 l1 c1]), (1, .agg #[.int .i64 k2, .string (bs n2), .slice a2 l2 c2])] = some [.int .i64 k1, .string (bs n1), .slice a1 l1 c1, .int .i64 k2, .string (bs n2), .slice a2 l2 c2] := by kernel_rfl
set_option maxHeartbeats 1000000 in
theorem mk31 {hb : AH} {X : Nat} {nm : List W} {ns : List Int} {v0 v1 : Value} (hnm : 0 < nm.length ∧ nm.length ≤ 100) : ∀ (d : Nat) (h : AH) (a : Nat) (K : Value → AH → Prop), MkH hb h X nm ns v0 v1 a → a + 4 ^ (d + 1) ≤ 1000000 → d ≤ 100 →
    (∀ v h', Chg (At X) h (At X) h' → MkH hb h' X nm ns v0 v1 (gen nm ns d a).2 → MGw h.length h' (At X) (gen nm ns d a).1 v → K v h') → callW Try.prog 31 [.pointer (some ⟨X, 0, none⟩), .int .i64 (d : Nat)] h K := by
  intro d
  induction d using Nat.strongRecOn with
  | ind d ih =>
  intro h a K m ha hd k
  refine c31 ?_
  unfold s31
  have p4 : 4 ≤ 4 ^ (d + 1) := by
    have := Nat.pow_le_pow_right (n := 4) (by decide) (show 1 ≤ d + 1 by omega)
    simpa using this
  refine n_rowv fun h1 x1 l1 g1 => ?_
  have ltX := m.lt
  have a0 := nxA_le ns a
  have k14 := nx_in ns a (show (0 : Int) < 14 by decide)
  refine nx30 (m.ex x1) (by omega) (by decide) fun h2 c2 l2 m2 => ?_
  obtain ⟨kk, hkk⟩ : ∃ kk : Int, kk = if d = 0 then nx ns a 14 % 6 else nx ns a 14 := ⟨_, rfl⟩
  have kk0 : 0 ≤ kk ∧ kk < 14 := by
    rw [hkk]
    split <;> omega
  have glow : kk < 6 → gen nm ns d a = leaf nm ns kk (nxA ns a) := by
    intro q
    cases d with
    | zero => rw [hkk, if_pos rfl]; rfl
    | succ d =>
      rw [if_neg (by omega)] at hkk
      rw [hkk] at q ⊢
      rw [gen, if_neg (by omega), if_neg (by omega)]
  have fin : ∀ (E : Env) (h' : AH) (v : Value) (m' : Mdl) (a' : Nat), E 4 = .pointer (some ⟨h.length, 0, none⟩) → Chg (At X) h1 (At X) h' → MkH hb h' X nm ns v0 v1 a' → MGw h1.length h' (At X) m' v → gen nm ns d a = (m', a') →
      optW (pStore 3 (.pointer (some ⟨h.length, 0, none⟩)) v h') fun h'' => optW (resList Try.prog E h'' Try.f31.results.toList) fun vs => K (resOf vs) h'' := fun E h' v m' a' hE c mk mv hg => by
    have g' : h'[h.length]? = some (.row [(.int .i64 0), (.string (bs [])), (.slice none 0 0)] true) := (c.get _ (by omega) (fun e => by have : h.length = X := e; omega)).trans g1
    refine endM (n := 4) (by kernel_rfl) hE g' rfl mv.shape fun o => ?_
    refine k v _ (((Chg.ex x1).trans c).setNew (Nat.le_refl _) o) ?_ ?_
    · rw [hg]; exact mk.setNew ltX o
    · rw [hg]; exact (mv.setNew (fun hg => by have := hg.1; omega) o).low (by omega)
  have fin2 : ∀ (E : Env) (kd : Int) (w : W) (a' : Nat) (h' : AH), E 4 = .pointer (some ⟨h.length, 0, none⟩) → Chg (At X) h1 (At X) h' → MkH hb h' X nm ns v0 v1 a' → gen nm ns d a = (.mk kd w [], a') →
      optW (pStore 3 (.pointer (some ⟨h.length, 0, none⟩)) (.agg #[.int .i64 kd, .string (bs w), .slice none 0 0]) h') fun h'' => optW (resList Try.prog E h'' Try.f31.results.toList) fun vs => K (resOf vs) h'' := fun E kd w a' h' hE c mk hg => fin E h' _ _ a' hE c mk (MH.leaf _ _ kd w) hg
  refine joinE_intro (fun e h' => e 0 = .pointer (some ⟨X, 0, none⟩) ∧ e 1 = .int .i64 (d : Nat) ∧ e 4 = .pointer (some ⟨h.length, 0, none⟩) ∧ e 5 = .int .i64 kk ∧ h2 = h') ?_ ?_
  case refine_2 =>
    intro J hJ
    refine w_leq (c_dec (fun q => ?_) (fun q => ?_))
    · refine w_rem (by decide) k14.1 (hJ _ _ ⟨rfl, rfl, rfl, ?_, rfl⟩)
      rw [hkk, if_pos (by omega)]
      rfl
    · refine hJ _ _ ⟨rfl, rfl, rfl, ?_, rfl⟩
      rw [hkk, if_neg (by omega)]
      rfl
  rintro e h' ⟨e0, e1, e4, e5, rfl⟩
  refine joinE_intro (fun e h' => e 0 = .pointer (some ⟨X, 0, none⟩) ∧ e 4 = .pointer (some ⟨h.length, 0, none⟩) ∧ h2 = h' ∧ gen nm ns d a = (.mk 4 (nm.getD (nx ns (nxA ns a) nm.length).toNat []) [], nxA ns (nxA ns a))) ?_ ?_
  case refine_1 =>
    rintro e h' ⟨e0, e4, rfl, hg⟩
    rw [e0, e4]
    have n0 := m2.n0.ex m2.x
    refine w_nilc (w_offP (w_rdP m2.row (v := v0) rfl (w_nilc (w_offP (w_rdP m2.row (v := v0) rfl (w_len n0 ?_))))))
    refine nx30 m2 (by omega) (by omega) fun h5 c5 l5 m5 => ?_
    refine ⟨idcell m2.row m5.row rfl rfl, ?_⟩
    have ni := nx_in ns (nxA ns a) (show (0 : Int) < (nm.length : Nat) by omega)
    obtain ⟨w, hw⟩ := getElem?_of_lt (l := nm) (i := (nx ns (nxA ns a) nm.length).toNat) (by omega)
    have hwd : nm.getD (nx ns (nxA ns a) nm.length).toNat [] = w := by rw [List.getD_eq_getElem?_getD, hw]; rfl
    rw [hwd] at hg
    refine w_idxT (enc := eS) eS_len (m2.n0.ex m5.x) ni.1 hw fun pp hpp => w_rd1 hpp rfl ?_
    refine w_some (v := .agg #[.int .i64 4, .string (bs w), .slice none 0 0]) rfl ?_
    exact fin2 _ 4 w _ h5 e4 (c2.trans c5) m5 hg
  intro J1 hJ1
  rw [e5]
  refine w_eql (c_dec (fun q0 => ?_) (fun q0 => ?_))
  · refine w_some (v := .agg #[.int .i64 1, .string (bs []), .slice none 0 0]) rfl ?_
    rw [e4]
    refine fin2 _ 1 [] _ h2 e4 c2 m2 ?_
    rw [glow (by omega), q0]
    rfl
  refine w_eql (c_dec (fun q1 => ?_) (fun q1 => ?_))
  · refine w_some (v := .agg #[.int .i64 2, .string (bs []), .slice none 0 0]) rfl ?_
    rw [e4]
    refine fin2 _ 2 [] _ h2 e4 c2 m2 ?_
    rw [glow (by omega), q1]
    rfl
  refine w_eql (c_dec (fun q2 => ?_) (fun q2 => ?_))
  · refine w_some (v := .agg #[.int .i64 3, .string (bs []), .slice none 0 0]) rfl ?_
    rw [e4]
    refine fin2 _ 3 [] _ h2 e4 c2 m2 ?_
    rw [glow (by omega), q2]
    rfl
  refine joinE_intro (fun e h' => e 0 = .pointer (some ⟨X, 0, none⟩) ∧ e 1 = .int .i64 (d : Nat) ∧ e 4 = .pointer (some ⟨h.length, 0, none⟩) ∧ e 5 = .int .i64 kk ∧ e 13 = .int .i64 kk ∧ e 23 = .bool (decide (6 ≤ kk ∧ kk ≤ 10)) ∧ h2 = h') ?_ ?_
  case refine_2 =>
    intro J hJ
    refine w_eql (c_dec (fun q6 => hJ _ _ ⟨e0, e1, e4, e5, rfl, congrArg Value.bool (decide_eq_decide.2 ⟨fun _ => by omega, fun _ => by omega⟩), rfl⟩) (fun q6 => ?_))
    refine w_eql (c_dec (fun q7 => hJ _ _ ⟨e0, e1, e4, e5, rfl, congrArg Value.bool (decide_eq_decide.2 ⟨fun _ => by omega, fun _ => by omega⟩), rfl⟩) (fun q7 => ?_))
    refine w_eql (c_dec (fun q8 => hJ _ _ ⟨e0, e1, e4, e5, rfl, congrArg Value.bool (decide_eq_decide.2 ⟨fun _ => by omega, fun _ => by omega⟩), rfl⟩) (fun q8 => ?_))
    refine w_eql (c_dec (fun q9 => hJ _ _ ⟨e0, e1, e4, e5, rfl, congrArg Value.bool (decide_eq_decide.2 ⟨fun _ => by omega, fun _ => by omega⟩), rfl⟩) (fun q9 => ?_))
    exact w_eql (hJ _ _ ⟨e0, e1, e4, e5, rfl, congrArg Value.bool (decide_eq_decide.2 ⟨fun _ => by omega, fun _ => by omega⟩), rfl⟩)
  clear e0 e1 e4 e5 e
  rintro e h' ⟨e0, e1, e4, e5, e13, e23, rfl⟩
  rw [e23]
  have dd : 6 ≤ kk → ∃ d', d = d' + 1 := by
    intro q
    cases d with
    | zero => rw [hkk, if_pos rfl] at q; omega
    | succ d => exact ⟨d, rfl⟩
  refine c_dec (fun q => ?_) (fun q => ?_)
  · obtain ⟨d, rfl⟩ := dd q.1
    rw [if_neg (by omega)] at hkk
    have pw : 4 ^ (d + 1 + 1) = 4 * 4 ^ (d + 1) := by rw [Nat.pow_succ]; omega
    have p5 : 4 ≤ 4 ^ (d + 1) := by
      have := Nat.pow_le_pow_right (n := 4) (by decide) (show 1 ≤ d + 1 by omega)
      simpa using this
    have ed : ((d + 1 : Nat) : Int) - 1 = (d : Nat) := by omega
    have s1 := gen_le nm ns d (nxA ns a)
    have s2 := gen_le nm ns d (gen nm ns d (nxA ns a)).2
    have s3 := nxA_le ns (gen nm ns d (gen nm ns d (nxA ns a)).2).2
    rw [e0, e1, e4, e5]
    refine w_sub (by omega) (by omega) ?_
    rw [ed]
    refine ih d (by omega) _ _ _ m2 (by omega) (by omega) fun v32 h11 c11 m11 g11 => ?_
    refine w_sub (by omega) (by omega) ?_
    rw [ed]
    refine ih d (by omega) _ _ _ m11 (by omega) (by omega) fun v36 h12 c12 m12 g12 => ?_
    have hgen : gen nm ns (d + 1) a = if nx ns (gen nm ns d (gen nm ns d (nxA ns a)).2).2 3 = 0 then
        (.mk (5 + kk % 2) [] [(gen nm ns d (nxA ns a)).1, (gen nm ns d (gen nm ns d (nxA ns a)).2).1, (gen nm ns d (nxA ns (gen nm ns d (gen nm ns d (nxA ns a)).2).2)).1],
          (gen nm ns d (nxA ns (gen nm ns d (gen nm ns d (nxA ns a)).2).2)).2)
      else (.mk (5 + kk % 2) [] [(gen nm ns d (nxA ns a)).1, (gen nm ns d (gen nm ns d (nxA ns a)).2).1], nxA ns (gen nm ns d (gen nm ns d (nxA ns a)).2).2) := by
      rw [hkk] at q ⊢
      rw [gen, if_pos q]
    generalize gen nm ns d (nxA ns a) = A1 at *
    generalize gen nm ns d A1.2 = A2 at *
    obtain ⟨k1, n1, a1, l1', c1, rfl⟩ := g11.shape
    obtain ⟨k2, n2, a2, l2', c2', rfl⟩ := g12.shape
    refine w_some (bld32 k1 k2 n1 n2 a1 a2 l1' l2' c1 c2') ?_
    refine n_newv fun h13 x13 l13 g13 => ?_
    refine nx30 (m12.ex x13) (by omega) (by decide) fun h14 c14 l14 m14 => ?_
    have cA := ((c2.trans c11).trans c12).trans ((Chg.ex x13).trans c14)
    have lA := c2.len
    have lB := c11.len
    have lC := c12.len
    have G1 : MGw h1.length h14 (At X) A1.1 _ := (((g11.chg c12).ex x13).chg c14).low (by omega)
    have G2 : MGw h1.length h14 (At X) A2.1 _ := ((g12.ex x13).chg c14).low (by omega)
    have g14 := (c14.get h12.length (by omega) (fun e => by have : h12.length = X := e; omega)).trans g13
    refine w_eql (c_dec (fun q3 => ?_) (fun q3 => ?_))
    · rw [if_pos q3] at hgen
      have s4 := gen_le nm ns d (nxA ns A2.2)
      refine w_sub (by omega) (by omega) ?_
      rw [ed]
      refine ih d (by omega) _ _ _ m14 (by omega) (by omega) fun v45 h15 c15 m15 g15 => ?_
      generalize gen nm ns d (nxA ns A2.2) = A3 at *
      obtain ⟨k3, n3, a3, l3', c3', rfl⟩ := g15.shape
      refine w_some (bldSl_one (v := .agg #[.int .i64 k3, .string (bs n3), .slice a3 l3' c3']) rfl (by decide) rfl rfl) ?_
      refine n_newv fun h16 x16 l16 g16 => ?_
      have lD := c15.len
      have g15' := x16.some ((c15.get h12.length (by omega) (fun e => by have : h12.length = X := e; omega)).trans g14)
      refine app_lit (n := 2) g15' rfl (by decide) (by decide) g16 rfl ?_
      refine w_rem (by decide) kk0.1 (w_add (by omega) (by omega) ?_)
      refine w_some (v := .agg #[.int .i64 (5 + kk % 2), .string (bs []), .slice (some ⟨h16.length, 0, none⟩) (2 + 1) (openCap + 3)]) rfl ?_
      refine fin _ _ _ _ _ e4 (cA.trans (c15.trans ((Chg.ex x16).trans (Chg.ex (.app _ _))))) ((m15.ex x16).ex (.app _ _)) ?_ hgen
      refine MH.rowN (l := [A1.1, A2.1, A3.1]) ?_ (get_new _ _) ⟨⟨by omega, by simp, fun e => by have : h16.length = X := e; omega, _, (get_new _ _)⟩, _, (get_new _ _)⟩ (.inr rfl)
      have G1' := ((G1.chg c15).ex x16).ex (.app _ [AObj.row ([.int .i64 k1, .string (bs n1), .slice a1 l1' c1, .int .i64 k2, .string (bs n2), .slice a2 l2' c2'] ++ [.int .i64 k3, .string (bs n3), .slice a3 l3' c3']) true])
      have G2' := ((G2.chg c15).ex x16).ex (.app _ [AObj.row ([.int .i64 k1, .string (bs n1), .slice a1 l1' c1, .int .i64 k2, .string (bs n2), .slice a2 l2' c2'] ++ [.int .i64 k3, .string (bs n3), .slice a3 l3' c3']) true])
      have G3' := ((g15.low (b := h1.length) (by omega)).ex x16).ex (.app _ [AObj.row ([.int .i64 k1, .string (bs n1), .slice a1 l1' c1, .int .i64 k2, .string (bs n2), .slice a2 l2' c2'] ++ [.int .i64 k3, .string (bs n3), .slice a3 l3' c3']) true])
      unfold ML
      refine ⟨_, _, _, _, rfl, G1', ?_⟩
      unfold ML
      refine ⟨_, _, _, _, rfl, G2', ?_⟩
      unfold ML
      refine ⟨_, _, _, _, rfl, G3', ?_⟩
      unfold ML
      rfl
    · rw [if_neg q3] at hgen
      refine w_rem (by decide) kk0.1 (w_add (by omega) (by omega) ?_)
      refine w_some (v := .agg #[.int .i64 (5 + kk % 2), .string (bs []), .slice (some ⟨h12.length, 0, none⟩) 2 2]) rfl ?_
      refine fin _ _ _ _ _ e4 cA m14 ?_ hgen
      refine MH.rowN (l := [A1.1, A2.1]) ?_ g14 ⟨⟨by omega, by omega, fun e => by have : h12.length = X := e; omega, _, g14⟩, _, g14⟩ (.inl ⟨by decide, Nat.le_refl _⟩)
      unfold ML
      refine ⟨_, _, _, _, rfl, G1, ?_⟩
      unfold ML
      refine ⟨_, _, _, _, rfl, G2, ?_⟩
      unfold ML
      rfl
  · have rp : ∀ (E : Value → Value → Value → Value → Nat → Value → Env), (∀ a b c d e f, E a b c d e f 4 = .pointer (some ⟨h.length, 0, none⟩)) → 11 ≤ kk →
        callW Try.prog 30 [.pointer (some ⟨X, 0, none⟩), (.int .i64 3)] h2 fun v58 h_20 =>
        optW (pBin Try.prog .add 3 (.int .i64 7) v58) fun v59 =>
        optW (pBin Try.prog .sub 3 (.int .i64 (d : Nat)) (.int .i64 1)) fun v62 =>
        callW Try.prog 31 [.pointer (some ⟨X, 0, none⟩), v62] h_20 fun v63 h_21 =>
        optW (bldSl 3 [(.int .i64 0), (.string (bs [])), (.slice none 0 0)] 1 [(0, v63)]) fun c_2 =>
        newW none (.row c_2 true) h_21 fun i_2 h_22 =>
        optW (bld [(.int .i64 0), (.string (bs [])), (.slice none 0 0)] [(0, 1), (1, 1), (2, 1)] [(0, v59), (2, (.slice (some ⟨i_2, 0, none⟩) 1 1))]) fun v65 =>
        optW (pStore 3 (.pointer (some ⟨h.length, 0, none⟩)) v65 h_22) fun h_23 =>
        optW (resList Try.prog (E v58 v59 v62 v63 i_2 v65) h_23 Try.f31.results.toList) fun vs => K (resOf vs) h_23 := by
      intro E hE q
      obtain ⟨d, rfl⟩ := dd (by omega)
      rw [if_neg (by omega)] at hkk
      have pw : 4 ^ (d + 1 + 1) = 4 * 4 ^ (d + 1) := by rw [Nat.pow_succ]; omega
      have p5 : 4 ≤ 4 ^ (d + 1) := by
        have := Nat.pow_le_pow_right (n := 4) (by decide) (show 1 ≤ d + 1 by omega)
        simpa using this
      have ed : ((d + 1 : Nat) : Int) - 1 = (d : Nat) := by omega
      have n3 := nx_in ns (nxA ns a) (show (0 : Int) < 3 by decide)
      have a1 := nxA_le ns (nxA ns a)
      refine nx30 m2 (by omega) (by decide) fun h20 c20 l20 m20 => ?_
      refine w_add (by omega) (by omega) (w_sub (by omega) (by omega) ?_)
      rw [ed]
      refine ih d (by omega) _ _ _ m20 (by omega) (by omega) fun v63 h21 c21 m21 g21 => ?_
      have hgen : gen nm ns (d + 1) a = (.mk (7 + nx ns (nxA ns a) 3) [] [(gen nm ns d (nxA ns (nxA ns a))).1], (gen nm ns d (nxA ns (nxA ns a))).2) := by
        rw [hkk] at q
        rw [gen, if_neg (by omega), if_pos q]
      generalize gen nm ns d (nxA ns (nxA ns a)) = A1 at *
      obtain ⟨k1, n1, a1', l1', c1, rfl⟩ := g21.shape
      refine w_some (bldSl_one (v := .agg #[.int .i64 k1, .string (bs n1), .slice a1' l1' c1]) rfl (by decide) rfl rfl) ?_
      refine n_newv fun h22 x22 l22 g22 => ?_
      refine w_some (v := .agg #[.int .i64 (7 + nx ns (nxA ns a) 3), .string (bs []), .slice (some ⟨h21.length, 0, none⟩) 1 1]) rfl ?_
      have lA := c2.len
      have lB := c20.len
      have lC := c21.len
      refine fin _ _ _ _ _ (hE _ _ _ _ _ _) (c2.trans (c20.trans (c21.trans (Chg.ex x22)))) (m21.ex x22) ?_ hgen
      exact MH.one ((g21.ex x22).low (by omega)) g22 ⟨⟨by omega, by omega, fun e => by have : h21.length = X := e; omega, _, g22⟩, _, g22⟩
    rw [e0, e1, e4, e13]
    refine w_eql (c_dec (fun r1 => c_tt r1 (rp _ (fun _ _ _ _ _ _ => e4) (by omega))) (fun r1 => ?_))
    refine w_eql (c_dec (fun r2 => c_tt r2 (rp _ (fun _ _ _ _ _ _ => e4) (by omega))) (fun r2 => ?_))
    refine w_eql (c_dec (fun r3 => rp _ (fun _ _ _ _ _ _ => e4) (by omega)) (fun r3 => ?_))
    refine hJ1 _ _ ⟨e0, e4, rfl, ?_⟩
    rw [glow (by omega)]
    unfold leaf
    rw [if_neg q0, if_neg q1, if_neg q2]
end Go.Proofs.Ytlenlhlipmkeeaa.W
end

section
/- Schema's laws: Make: a schema of numbers. Conditions: none. -/
namespace Go.Proofs.Ytlenlhlipmkeeaa.W
open Go Go.AM SchM
set_option linter.unusedVariables false
set_option maxRecDepth 100000
def SH (h : AH) (b : Nat) (x : W × List (W × Mdl)) (v : Value) : Prop :=
  ∃ a c cs, v = .agg #[.string (bs x.1), .slice a x.2.length c] ∧ Sl 4 h (.slice a x.2.length c) x.2.length cs ∧ (∀ j, onId (.slice a x.2.length c) j → (b ≤ j ∧ j < h.length) ∧ Wr h j) ∧ EL h (fun j => (b ≤ j ∧ j < h.length) ∧ Wr h j) x.2 cs
theorem SH.ex {h h' : AH} {b : Nat} {x : W × List (W × Mdl)} {v : Value} (s : SH h b x v) (e : Ex h h') : SH h' b x v := by
  obtain ⟨a, c, cs, ev, sl, on, el⟩ := s
  exact ⟨a, c, cs, ev, sl.ex e, fun j hj => ⟨⟨(on j hj).1.1, e.lt (on j hj).1.2⟩, (on j hj).2.keep (e.get j (on j hj).1.2)⟩, EL.mono (fun j hj => ⟨e.get j hj.1.2, ⟨hj.1.1, e.lt hj.1.2⟩, hj.2.keep (e.get j hj.1.2)⟩) _ _ el⟩
theorem bld5 : bldSl 1 [(.string (bs []))] 5 [(0, (.string (bs [97]))), (1, (.string (bs [98, 98]))), (2, (.string (bs [99]))), (3, (.string (bs [122, 122, 122, 122, 122, 122, 122, 122]))), (4, (.string (bs [116, 101, 120, 116, 115])))] = some (flat eS five) := by kernel_rfl
theorem optW_so {α : Type} {v : α} {K : α → Prop} : optW (some v) K = K v := rfl
theorem strsAt {h : AH} {l : List W} {n i : Nat} (hg : h[i]? = some (.row (flat eS l) true)) (hn : n = l.length) (hl : l.length < 100) : SlT 1 eS h (.slice (some ⟨i, 0, none⟩) n n) l := by
  subst hn
  refine ⟨flat_length eS_len l, .inr ⟨i, 0, _, rfl, .inl ⟨?_, Nat.le_refl _⟩, .inr ⟨_, true, hg, ?_, ?_⟩⟩⟩
  · have : (100 : Nat) < openCap := by decide
    omega
  · rw [flat_length eS_len]; omega
  · rw [List.drop_zero, ← flat_length eS_len l, List.take_length]
theorem res14 (e : Env) (h : AH) : resList Try.prog e h Try.f14.results.toList = (rdRow true 2 (e 6) h).map fun v => [v] := by
  have h1 : Try.f14.results.toList = [.cell 6 27] := by kernel_rfl
  have h2 : ∀ x, pLoad Try.prog 27 x h = rdRow true 2 x h := fun x => by kernel_rfl
  rw [h1]
  show (match pLoad Try.prog 27 (e 6) h with
    | some v => match resList Try.prog e h [] with
      | some vs => some (v :: vs)
      | none => none
    | none => none) = _
  rw [h2]
  cases rdRow true 2 (e 6) h <;> rfl
structure LEw (b : Nat) (h : AH) (F : Nat → Prop) (v : Value) (l : List (W × Mdl)) : Prop where
  ex : ∃ cs, OwnG 4 (Gd b h F) h v l.length cs ∧ EL h (fun j => (Gd b h F j ∧ Wr h j) ∧ ¬ onId v j) l cs
theorem LEw.chg {b : Nat} {h h' : AH} {F F' : Nat → Prop} {v : Value} {l : List (W × Mdl)} (x : LEw b h F v l) (c : Chg F h F' h') : LEw b h' F' v l := by
  obtain ⟨cs, g, r⟩ := x.ex
  exact ⟨cs, g.mono (fun j _ hj => (Gd.chg c j hj).2) fun j _ hj => (Gd.chg c j hj).1, EL.mono (fun j hj => ⟨(Gd.chg c j hj.1.1).1, ⟨(Gd.chg c j hj.1.1).2, hj.1.2.keep (Gd.chg c j hj.1.1).1⟩, hj.2⟩) l cs r⟩
theorem LEw.on {b : Nat} {h : AH} {F : Nat → Prop} {v : Value} {l : List (W × Mdl)} (x : LEw b h F v l) {j : Nat} (hj : onId v j) : Gd b h F j := by
  obtain ⟨cs, g, r⟩ := x.ex
  exact (g.on hj).1
set_option maxHeartbeats 1000000 in
theorem make14 {h : AH} {v1 : Value} {ns : List Int} {size : Int} {d : Nat} {K : Value → AH → Prop} (hns : Ints h v1 ns) (hd : d ≤ 6) (k : ∀ v h', Ex h h' → SH h' h.length (make size ns d) v → K v h') : callW Try.prog 14 [.int .i64 size, v1, .int .i64 (d : Nat)] h K := by
  refine c14 ?_
  unfold s14
  have z0 := Int.emod_nonneg size (show (5 : Int) ≠ 0 by decide)
  have z1 := Int.emod_lt_of_pos size (show (0 : Int) < 5 by decide)
  have nl := namesOf_len size
  refine n_rowv fun h1 x1 l1 g1 => ?_
  rw [bld5, optW_so]
  refine n_newv fun h2 x2 l2 g2 => ?_
  refine within15 _ _ _ _ (by decide) (by decide) ?_
  refine w_add (by omega) (by omega) ?_
  have ej : (1 : Int) + size % 5 = ((1 + (size % 5).toNat : Nat) : Int) := by omega
  rw [ej]
  refine w_sliceT (enc := eS) eS_len (i := 0) (j := 1 + (size % 5).toNat) (strsAt g2 rfl (by decide)) (by omega) (by show _ ≤ 5; omega) (.inl ⟨rfl, rfl⟩) (.inr ⟨_, rfl⟩) fun v14 s14 on14 => ?_
  have enm : (five.drop 0).take (1 + (size % 5).toNat - 0) = namesOf size := by rw [List.drop_zero, Nat.sub_zero]; rfl
  rw [enm] at s14
  have hns2 := hns.ex (x1.trans x2)
  obtain ⟨a14, n14, c14, rfl⟩ := s14.isSl
  obtain ⟨a1, n1, c1, rfl⟩ := hns2.isSl
  refine w_some (v := .agg #[.slice a14 n14 c14, .slice a1 n1 c1, .int .i64 0]) rfl ?_
  refine n_boxv rfl fun h4 x4 l4 g4 => ?_
  have g4' : h4[h2.length]? = some (.row [.slice a14 n14 c14, .slice a1 n1 c1, .int .i64 ((0 : Nat) : Int)] true) := g4
  obtain ⟨nm, hnm⟩ : ∃ nm, nm = namesOf size := ⟨_, rfl⟩
  rw [← hnm] at s14 nl
  have hnl : 0 < nm.length ∧ nm.length ≤ 100 := by omega
  have m4 : MkH h2 h4 h2.length nm ns (.slice a14 n14 c14) (.slice a1 n1 c1) 0 := ⟨g4', s14, hns2, x4, Nat.le_refl _⟩
  have xr := Ex.res h4
  have mr := m4.ex xr
  have ni := nx_in ns 0 (show (0 : Int) < (nm.length : Nat) by omega)
  refine w_nilc (w_offP (w_rdP mr.row (v := .slice a14 n14 c14) rfl (w_nilc (w_offP (w_rdP mr.row (v := .slice a14 n14 c14) rfl (w_len (s14.ex mr.x) ?_))))))
  refine nx30 mr (by omega) (by omega) fun h5 c5 l5 m5 => ?_
  refine ⟨idcell mr.row m5.row rfl rfl, ?_⟩
  obtain ⟨root, hro⟩ := getElem?_of_lt (l := nm) (i := (nx ns 0 nm.length).toNat) (by omega)
  refine w_idxT (enc := eS) eS_len (s14.ex m5.x) ni.1 hro fun pp hpp => w_rd1 hpp rfl ?_
  refine w_some (v := .agg #[.string (bs root), .slice none 0 0]) rfl ?_
  refine n_slot ?_
  have lr : (reserve 1 h4).length = h4.length + 1 := by rw [reserve_one]; simp
  have l5' : h5.length = h4.length + 1 := by rw [l5, lr]
  have m6 := m5.setNew (i := h4.length) (by omega) (.row [(.string (bs [])), (.slice none 0 0)] true)
  have g6 : (h5.set h4.length (.row [(.string (bs [])), (.slice none 0 0)] true))[h4.length]? = some (.row [(.string (bs [])), (.slice none 0 0)] true) := get_set _ (by omega) _
  have T6 : (h5.set h4.length (.row [(.string (bs [])), (.slice none 0 0)] true))[h.length]? = some (.row zS true) := by
    rw [get_ne (by omega)]
    exact (c5.get _ (by omega) (fun e => by have : h.length = h2.length := e; omega)).trans ((x2.trans (x4.trans xr)).some g1)
  have x6 : Ex h (h5.set h4.length (.row [(.string (bs [])), (.slice none 0 0)] true)) := (c5.toEx (x1.trans (x2.trans (x4.trans xr))) fun j hj => by have : j = h2.length := hj; omega).set (by omega) _
  have l6 : (h5.set h4.length (.row [(.string (bs [])), (.slice none 0 0)] true)).length = h4.length + 1 := by rw [List.length_set, l5']
  generalize h5.set h4.length (.row [(.string (bs [])), (.slice none 0 0)] true) = h6 at *
  refine w_stPA g6 rfl (Nat.le_refl 2) rfl ?_
  have g7 : (h6.set h4.length (.row (spliceL [(.string (bs [])), (.slice none 0 0)] 0 (cellsL (.agg #[.string (bs root), .slice none 0 0]))) true))[h4.length]? = some (.row [.string (bs root), .slice none 0 0] true) := get_set _ (lt_of_get g6) _
  have m7 := m6.setNew (i := h4.length) (by omega) (.row (spliceL [(.string (bs [])), (.slice none 0 0)] 0 (cellsL (.agg #[.string (bs root), .slice none 0 0]))) true)
  have T7 := (get_ne (h := h6) (i := h4.length) (j := h.length) (by omega) (.row (spliceL [(.string (bs [])), (.slice none 0 0)] 0 (cellsL (.agg #[.string (bs root), .slice none 0 0]))) true)).trans T6
  have x7 := x6.set (i := h4.length) (by omega) (.row (spliceL [(.string (bs [])), (.slice none 0 0)] 0 (cellsL (.agg #[.string (bs root), .slice none 0 0]))) true)
  have l7 : (h6.set h4.length (.row (spliceL [(.string (bs [])), (.slice none 0 0)] 0 (cellsL (.agg #[.string (bs root), .slice none 0 0]))) true)).length = h4.length + 1 := by rw [List.length_set, l6]
  generalize h6.set h4.length (.row (spliceL [(.string (bs [])), (.slice none 0 0)] 0 (cellsL (.agg #[.string (bs root), .slice none 0 0]))) true) = h7 at *
  clear g6 m6 T6 x6 l6 h6
  have hmake : make size ns d = (root, (genS nm ns d (nxA ns 0) nm.length).1) := by
    unfold make
    rw [← hnm, List.getD_eq_getElem?_getD, hro]
    rfl
  generalize ha0 : nxA ns 0 = a0 at *
  have ha0' : a0 ≤ 1 := by rw [← ha0]; exact (nxA_le ns 0).2
  have pw : 4 ^ (d + 1) ≤ 16384 := Nat.le_trans (Nat.pow_le_pow_right (by decide) (show d + 1 ≤ 7 by omega)) (by decide)
  have hLE : LEw h7.length h7 (At h2.length) (.slice none 0 0) (genS nm ns d a0 0).1 := ⟨⟨[], OwnG.nil _ _ _, rfl⟩⟩
  have m7' : MkH h2 h7 h2.length nm ns (.slice a14 n14 c14) (.slice a1 n1 c1) (genS nm ns d a0 0).2 := m7
  refine loopE_intro (fun m e h' => ∃ (i : Nat) (vl : Value), i ≤ nm.length ∧ m = nm.length - i ∧ e 2 = .int .i64 (d : Nat) ∧ e 6 = .pointer (some ⟨h.length, 0, none⟩) ∧ e 7 = .pointer (some ⟨h2.length, 0, none⟩) ∧ e 8 = .pointer (some ⟨h4.length, 0, none⟩) ∧ e 9 = .int .i64 (i : Nat) ∧
      MkH h2 h' h2.length nm ns (.slice a14 n14 c14) (.slice a1 n1 c1) (genS nm ns d a0 i).2 ∧ h'[h.length]? = some (.row zS true) ∧ h'[h4.length]? = some (.row [.string (bs root), vl] true) ∧ LEw h7.length h' (At h2.length) vl (genS nm ns d a0 i).1 ∧ Ex h h' ∧ h7.length ≤ h'.length) nm.length
    ⟨0, _, Nat.zero_le _, rfl, rfl, rfl, rfl, rfl, rfl, m7', T7, g7, hLE, x7, Nat.le_refl _⟩ ?_
  rintro I m e0 h' ⟨i, vl, hi, hm, e2, e6, e7, e8, e9, mk, T, g, L, x, hl⟩ ih
  rw [e2, e6, e7, e8, e9]
  refine w_nilc (w_offP (w_rdP mk.row (v := .slice a14 n14 c14) rfl (w_len (s14.ex mk.x) (w_lss ?_))))
  refine c_dec (fun q => ?_) (fun q => ?_)
  · obtain ⟨w, hw⟩ := getElem?_of_lt (l := nm) (i := i) (by omega)
    have xr := Ex.res h'
    have mr := mk.ex xr
    refine w_offP (w_rdP (xr.some g) (v := vl) rfl (w_nilc (w_offP (w_rdP mr.row (v := .slice a14 n14 c14) rfl ?_))))
    refine w_idxN (enc := eS) eS_len s14 hw fun pp hpp => w_rd1 (hpp.ex mr.x) rfl ?_
    have hle := genS_le nm ns d a0 i
    have hmul : i * 4 ^ (d + 1) ≤ 10 * 16384 := Nat.mul_le_mul (by omega) pw
    refine mk31 hnl d _ _ _ mr (by omega) (by omega) fun v52 h9 c9 m9 g9 => ?_
    have lS := lt_of_get g
    refine ⟨PtrTo.ids hpp mr.x m9.x, idcell mr.row m9.row rfl rfl, ptr_id (c9.get _ (xr.lt lS) (fun e => by have : h4.length = h2.length := e; omega)), ?_⟩
    obtain ⟨k', n', a', ll, cc, rfl⟩ := g9.shape
    refine w_some (v := .agg #[.string (bs w), .int .i64 k', .string (bs n'), .slice a' ll cc]) rfl ?_
    refine w_some (bldSl_one (v := .agg #[.string (bs w), .int .i64 k', .string (bs n'), .slice a' ll cc]) rfl (by decide) rfl rfl) ?_
    refine n_slot ?_
    have lr : (reserve 1 h').length = h'.length + 1 := by rw [reserve_one]; simp
    have l9 := c9.len
    have ltX := mk.lt
    have c10 := ((Chg.ex (F := At h2.length) xr).trans c9).setNew (i := h'.length) (Nat.le_refl _) (.row [.string (bs w), .int .i64 k', .string (bs n'), .slice a' ll cc] true)
    have m10 := m9.setNew (i := h'.length) (by omega) (.row [.string (bs w), .int .i64 k', .string (bs n'), .slice a' ll cc] true)
    have G10 := g9.setNew (i := h'.length) (fun hg => by have := hg.1; omega) (.row [.string (bs w), .int .i64 k', .string (bs n'), .slice a' ll cc] true)
    have g10 : (h9.set h'.length (.row [.string (bs w), .int .i64 k', .string (bs n'), .slice a' ll cc] true))[h'.length]? = some (.row [.string (bs w), .int .i64 k', .string (bs n'), .slice a' ll cc] true) := get_set _ (by omega) _
    have l10 : (h9.set h'.length (.row [.string (bs w), .int .i64 k', .string (bs n'), .slice a' ll cc] true)).length = h9.length := List.length_set ..
    show appSl 4 vl _ (h9.set h'.length (.row [.string (bs w), .int .i64 k', .string (bs n'), .slice a' ll cc] true)) _
    generalize h9.set h'.length (.row [.string (bs w), .int .i64 k', .string (bs n'), .slice a' ll cc] true) = h10 at *
    obtain ⟨cs, o10, el10⟩ := (L.chg c10).ex
    have lvl : ∀ j, onId vl j → h7.length ≤ j ∧ j < h'.length := fun j hj => ⟨(L.on hj).1, (L.on hj).2.1⟩
    have len1 := genS_len nm ns d a0 i
    refine appSl_of ?_
    refine app_g (by decide) o10 (srcL_new (n := 1) (s := 4) g10 (by decide) rfl) rfl (by have := bigR3; omega) fun v' h15 a1 a2 a3 a4 => ?_
    have nS : ¬ onId vl h4.length := fun hon => by have := lvl _ hon; omega
    have gS10 : h10[h4.length]? = some (.row [.string (bs root), vl] true) := (c10.get _ lS (fun e => by have : h4.length = h2.length := e; omega)).trans g
    have gS := (a3 _ (lt_of_get gS10) nS).trans gS10
    obtain ⟨sa, sn, sc, rfl⟩ := Sl.isSl a1.sl
    refine w_offP (w_stP gS (by show 0 + 1 < 2; decide) rfl rfl ?_)
    have l16 : (h15.set h4.length (.row ([Value.string (bs root), vl].set (0 + 1) (.slice sa sn sc)) true)).length = h15.length := List.length_set ..
    have n16 : ∀ j, j ≠ h4.length → (h15.set h4.length (.row ([Value.string (bs root), vl].set (0 + 1) (.slice sa sn sc)) true))[j]? = h15[j]? := fun j hj => get_ne (Ne.symm hj) _
    have g16 : (h15.set h4.length (.row ([Value.string (bs root), vl].set (0 + 1) (.slice sa sn sc)) true))[h4.length]? = some (.row [.string (bs root), .slice sa sn sc] true) := get_set _ (lt_of_get gS) _
    generalize h15.set h4.length (.row ([Value.string (bs root), vl].set (0 + 1) (.slice sa sn sc)) true) = h16 at *
    have same : ∀ j, j < h10.length → ¬ onId vl j → j ≠ h4.length → h16[j]? = h10[j]? := fun j hj hn hS => (n16 j hS).trans (a3 j hj hn)
    refine w_add (by omega) (by omega) ?_
    have c10l := c10.len
    have hwd : nm.getD i [] = w := by rw [List.getD_eq_getElem?_getD, hw]; rfl
    have eG : genS nm ns d a0 (i + 1) = ((genS nm ns d a0 i).1 ++ [(w, (gen nm ns d (genS nm ns d a0 i).2).1)], (gen nm ns d (genS nm ns d a0 i).2).2) := by
      show ((genS nm ns d a0 i).1 ++ [(nm.getD i [], _)], _) = _
      rw [hwd]
    have up : ∀ j, (Gd h7.length h10 (At h2.length) j ∧ Wr h10 j) ∧ ¬ onId vl j → h16[j]? = h10[j]? ∧ (Gd h7.length h16 (At h2.length) j ∧ Wr h16 j) ∧ ¬ onId (.slice sa sn sc) j := fun j hj => ⟨same j hj.1.1.2.1 hj.2 (fun e => by have := hj.1.1.1; omega), ⟨⟨hj.1.1.1, by have := hj.1.1.2.1; omega, hj.1.1.2.2.1, hj.1.2.keep (same j hj.1.1.2.1 hj.2 (fun e => by have := hj.1.1.1; omega))⟩, hj.1.2.keep (same j hj.1.1.2.1 hj.2 (fun e => by have := hj.1.1.1; omega))⟩, fun hon => (a4 j hon).elim hj.2 fun e => by have := hj.1.1.2.1; omega⟩
    refine ih (nm.length - (i + 1)) _ _ (by omega) ⟨i + 1, .slice sa sn sc, by omega, rfl, e2, e6, e7, e8, rfl, ?_, ?_, g16, ?_, ?_, by omega⟩
    · rw [eG]
      refine ⟨(same _ (by omega) (fun hon => by have := lvl _ hon; omega) (by omega)).trans m10.row, m10.n0, m10.n1, ⟨by have := m10.x.len; omega, fun j hj => ?_⟩, Nat.le_refl _⟩
      exact (same j (by omega) (fun hon => by have := lvl _ hon; omega) (by omega)).trans (m10.x.get j hj)
    · exact (same _ (by omega) (fun hon => by have := lvl _ hon; omega) (by omega)).trans ((c10.get _ (lt_of_get T) (fun e => by have : h.length = h2.length := e; omega)).trans T)
    · rw [eG]
      refine ⟨⟨cs ++ [.string (bs w), .int .i64 k', .string (bs n'), .slice a' ll cc], ?_, ?_⟩⟩
      · have elm : ((genS nm ns d a0 i).1 ++ [(w, (gen nm ns d (genS nm ns d a0 i).2).1)]).length = (genS nm ns d a0 i).1.length + 1 := by simp
        show OwnG 4 _ h16 (.slice sa sn sc) ((genS nm ns d a0 i).1 ++ [(w, (gen nm ns d (genS nm ns d a0 i).2).1)]).length _
        rw [elm]
        refine a1.mono (fun j hj hF => ?_) fun j hj hF => ?_
        · have hj' := (a1.on hj).2
          rcases hF with hF | rfl
          · exact ⟨hF.1, by omega, hF.2.2.1, (ownG_wr a1 hj).keep (n16 j fun e => by have := hF.1; omega)⟩
          · exact ⟨by omega, by omega, fun e => by have : h10.length = h2.length := e; omega, (ownG_wr a1 hj).keep (n16 _ fun e => by omega)⟩
        · refine n16 j fun e => ?_
          rcases hF with hF | rfl
          · have := hF.1; omega
          · omega
      · refine EL.snoc (e := (w, _)) (MH.mono (fun j gj => up j ⟨⟨⟨?_, gj.1.2⟩, gj.2⟩, fun hon => ?_⟩) _ _ G10) _ cs (EL.mono up _ cs el10)
        · have := gj.1.1; omega
        · have := lvl j hon; have := gj.1.1; omega
    · refine ⟨by have := x.len; omega, fun j hj => ?_⟩
      have hx := x.len
      exact ((same j (by omega) (fun hon => by have := lvl _ hon; omega) (by omega)).trans (c10.get j (by omega) (fun e => by have : j = h2.length := e; omega))).trans (x.get j hj)
  · have ei : i = nm.length := by omega
    subst ei
    obtain ⟨cs, o, el⟩ := L.ex
    obtain ⟨sa', sc', rfl⟩ := Sl.shape o.sl
    refine w_rdPA g (Nat.le_refl 2) ?_
    refine w_stPA T rfl (Nat.le_refl 2) rfl ?_
    have gT : (h'.set h.length (.row (spliceL zS 0 (cellsL (.agg #[.string (bs root), .slice sa' (genS nm ns d a0 nm.length).1.length sc']))) true))[h.length]? = some (.row [.string (bs root), .slice sa' (genS nm ns d a0 nm.length).1.length sc'] true) := get_set _ (lt_of_get T) _
    rw [res14]
    refine w_some (v := [Value.agg #[.string (bs root), .slice sa' (genS nm ns d a0 nm.length).1.length sc']]) ?_ (show K (.agg #[.string (bs root), .slice sa' (genS nm ns d a0 nm.length).1.length sc']) _ from ?_)
    · have e := hopt (o := rdRow true 2 (.pointer (some ⟨h.length, 0, none⟩)) _) (w_rdPA gT (Nat.le_refl 2) rfl)
      show (rdRow true 2 (e0 6) _).map _ = _
      rw [e6]
      exact congrArg (Option.map fun v => [v]) e
    · refine k _ _ (x.set (Nat.le_refl _) _) ?_
      rw [hmake]
      have hon : ∀ j, onId (.slice sa' (genS nm ns d a0 nm.length).1.length sc') j → h7.length ≤ j ∧ j < h'.length := fun j hj => ⟨(L.on hj).1, (L.on hj).2.1⟩
      have kp : ∀ (o : AObj) (j : Nat), h7.length ≤ j → (h'.set h.length o)[j]? = h'[j]? := fun o j hj => get_ne (by omega) _
      refine ⟨sa', sc', cs, rfl, Sl.keepOn o.sl fun j hj => kp _ j (hon j hj).1, fun j hj => ⟨?_, (ownG_wr o hj).keep (kp _ j (hon j hj).1)⟩, EL.mono (fun j hj => ⟨kp _ j hj.1.1.1, ⟨by have := hj.1.1.1; omega, by rw [List.length_set]; exact hj.1.1.2.1⟩, hj.1.2.keep (kp _ j hj.1.1.1)⟩) _ _ el⟩
      have := hon j hj
      rw [List.length_set]
      omega
end Go.Proofs.Ytlenlhlipmkeeaa.W
end

section
/- Schema's laws: rows of truths, joined, copied. Conditions: none. -/
namespace Go.Proofs.Ytlenlhlipmkeeaa.W
open Go Go.AM SchM
set_option linter.unusedVariables false
set_option maxRecDepth 100000
structure BR (h : AH) (i n : Nat) (v : Value) (P : Nat → Prop) : Prop where
  ex : ∃ cap bl, v = .slice (some ⟨i, 0, none⟩) (n + 1) cap ∧ (cap < openCap ∧ n + 1 ≤ cap ∨ cap = openCap + 1) ∧ h[i]? = some (.row (flat eBo bl) true) ∧ bl.length = n + 1 ∧ ∀ j, bl[j]? = some true ↔ P j
section
variable {h h' : AH} {i n : Nat} {v : Value} {P Q : Nat → Prop}
theorem BR.keep (b : BR h i n v P) (e : h'[i]? = h[i]?) : BR h' i n v P := by
  obtain ⟨cap, bl, h1, h2, h3, h4⟩ := b.ex
  exact ⟨cap, bl, h1, h2, e.trans h3, h4⟩
theorem BR.congr (b : BR h i n v P) (e : ∀ j, P j ↔ Q j) : BR h i n v Q := by
  obtain ⟨cap, bl, h1, h2, h3, h4, h5⟩ := b.ex
  exact ⟨cap, bl, h1, h2, h3, h4, fun j => (h5 j).trans (e j)⟩
theorem BR.lt (b : BR h i n v P) : i < h.length := by
  obtain ⟨cap, bl, h1, h2, h3, h4, h5⟩ := b.ex
  exact lt_of_get h3
theorem BR.le (b : BR h i n v P) {j : Nat} (hj : P j) : j ≤ n := by
  obtain ⟨cap, bl, h1, h2, h3, h4, h5⟩ := b.ex
  have := get_lt ((h5 j).2 hj)
  omega
theorem BR.len (b : BR h i n v P) {K : Value → Prop} (k : K (.int .i64 ((n + 1 : Nat) : Int))) : optW (lenSl v) K := by
  obtain ⟨cap, bl, rfl, h2⟩ := b.ex
  exact k
theorem ix1 {i n cap j : Nat} {K : Value → Prop} (hj : j < n) (k : K (.pointer (some ⟨i, j, none⟩))) : optW (pIdxS 1 (.slice (some ⟨i, 0, none⟩) n cap) (.int .i64 (j : Nat))) K := by
  refine w_some (v := .pointer (some ⟨i, j, none⟩)) ?_ k
  show (if 0 ≤ ((j : Nat) : Int) ∧ ((j : Nat) : Int) < (n : Int) then some (Value.pointer (some ⟨i, 0 + ((j : Nat) : Int).toNat * 1, none⟩)) else none) = _
  rw [if_pos (by omega)]
  simp
theorem flat_eBo_get : ∀ (bl : List Bool) (j : Nat), (flat eBo bl)[j]? = (bl[j]?).map Value.bool
  | [], j => by simp [flat]
  | b :: bl, 0 => rfl
  | b :: bl, j + 1 => by
    show (flat eBo bl)[j]? = _
    rw [flat_eBo_get bl j]
    rfl
theorem flat_eBo_set : ∀ (bl : List Bool) (j : Nat) (c : Bool), (flat eBo bl).set j (.bool c) = flat eBo (bl.set j c)
  | [], j, c => by simp [flat]
  | b :: bl, 0, c => rfl
  | b :: bl, j + 1, c => congrArg (Value.bool b :: ·) (flat_eBo_set bl j c)
theorem BR.rd (b : BR h i n v P) {j : Nat} (hj : j ≤ n) {K : Value → Value → Prop} (k : ∀ c : Bool, (c = true ↔ P j) → K (.pointer (some ⟨i, j, none⟩)) (.bool c)) : optW (pIdxS 1 v (.int .i64 (j : Nat))) fun p => optW (rdRow false 1 p h) fun x => K p x := by
  obtain ⟨cap, bl, rfl, h2, h3, h4, h5⟩ := b.ex
  refine ix1 (by omega) ?_
  obtain ⟨c, hc⟩ := getElem?_of_lt (l := bl) (i := j) (by omega)
  refine w_rdP h3 (v := .bool c) (by rw [flat_eBo_get, hc]; rfl) (k c ?_)
  rw [← h5 j, hc]
  simp
theorem BR.st (b : BR h i n v P) {j : Nat} (hj : j ≤ n) {c : Bool} {K : Value → AH → Prop} (k : ∀ h', Exx i h h' → h'.length = h.length → BR h' i n v (fun x => (x = j ∧ c = true) ∨ (x ≠ j ∧ P x)) → K (.pointer (some ⟨i, j, none⟩)) h') : optW (pIdxS 1 v (.int .i64 (j : Nat))) fun p => optW (pStore 1 p (.bool c) h) fun h' => K p h' := by
  obtain ⟨cap, bl, rfl, h2, h3, h4, h5⟩ := b.ex
  refine ix1 (by omega) ?_
  refine w_stP h3 (by rw [flat_length eBo_len]; omega) rfl rfl ?_
  refine k _ ⟨by simp, fun x hx hxi => get_ne (Ne.symm hxi) _⟩ (by simp) ⟨cap, bl.set j c, rfl, h2, by rw [get_set _ (lt_of_get h3), flat_eBo_set], by simpa using h4, fun x => ?_⟩
  by_cases e : j = x
  · subst e
    rw [List.getElem?_set_self (by omega)]
    simp
  · rw [List.getElem?_set_ne e, h5 x]
    have : x ≠ j := fun h => e h.symm
    simp [this]
end
theorem repL_no (k : Nat) : repL [.bool false] k = flat eBo (List.replicate k false) := by
  induction k with
  | zero => rfl
  | succ k ih =>
    show [.bool false] ++ repL [.bool false] k = _
    rw [ih]
    rfl
theorem bigRoom : (100000000001 : Nat) < room40 := by decide
theorem bigOpen : (100000000001 : Nat) < openCap := by decide
abbrev rdr (root L ws : Value) (M : Nat) : AObj := .row [root, L, ws, .map (some M)] true
theorem row66 {h : AH} {r n M : Nat} {root L : Value} {a : Option Addr} {c : Nat} {K : Value → AH → Prop} (g : h[r]? = some (rdr root L (.slice a n c) M)) (hn : n ≤ 100000000000)
    (k : ∀ v h', Ex h h' → h'.length = h.length + 1 → BR h' h.length n v (fun _ => False) → K v h') : callW Try.prog 66 [.pointer (some ⟨r, 0, none⟩)] h K := by
  refine c66 ?_
  unfold s66
  refine w_nilc (w_offP (w_rdP g (v := .slice a n c) rfl (w_lenSl (w_add (by omega) (by omega) ?_))))
  have := bigRoom
  have := bigOpen
  refine w_some (v := (n + 1, n + 1, repL [.bool false] (n + 1))) ?_ ?_
  · unfold mkSl
    dsimp only
    rw [if_pos ⟨by omega, by omega, by omega, by decide, rfl⟩]
    have : ((n : Int) + 1).toNat = n + 1 := by omega
    rw [this]
  · refine n_newv fun h1 x1 l1 g1 => ?_
    refine k _ h1 x1 l1 ⟨n + 1, List.replicate (n + 1) false, rfl, .inl ⟨by omega, Nat.le_refl _⟩, by rw [g1, repL_no], by simp, fun j => ?_⟩
    simp [List.getElem?_replicate]
set_option maxHeartbeats 1000000 in
theorem join83 {h : AH} {i i' n : Nat} {v v' : Value} {P Q : Nat → Prop} {K : Value → AH → Prop} (b : BR h i n v P) (b' : BR h i' n v' Q) (hi : i ≠ i') (hn : n ≤ 100000000000)
    (k : ∀ h', Exx i h h' → h'.length = h.length → BR h' i n v (fun j => P j ∨ Q j) → K (.tuple #[]) h') : callW Try.prog 83 [v, v'] h K := by
  refine c83 ?_
  unfold s83
  refine b'.len ?_
  refine loopE_intro (fun m e h1 => ∃ j : Nat, j ≤ n + 1 ∧ m = n + 1 - j ∧ e 0 = v ∧ e 6 = v' ∧ e 7 = .int .i64 ((n + 1 : Nat) : Int) ∧ e 8 = .int .i64 (j : Nat) ∧ Exx i h h1 ∧ h1.length = h.length ∧ BR h1 i n v (fun x => P x ∨ (x < j ∧ Q x))) (n + 1)
    ⟨0, Nat.zero_le _, rfl, rfl, rfl, rfl, rfl, .refl _ _, rfl, b.congr fun x => by simp⟩ ?_
  rintro I m e h1 ⟨j, hj, hm, e0, e6, e7, e8, x1, l1, b1⟩ ih
  rw [e0, e6, e7, e8]
  refine w_lss (c_dec (fun q => ?_) (fun q => ?_))
  · have b2 : BR h1 i' n v' Q := b'.keep (x1.get _ b'.lt (Ne.symm hi))
    refine b2.rd (by omega) fun c hc => ?_
    refine b1.rd (by omega) fun d hd => ?_
    cases d with
    | true =>
      refine gc_ft (pk_t ?_)
      refine b1.st (by omega) fun h2 x2 l2 b3 => w_add (by omega) (by omega) (ih (n + 1 - (j + 1)) _ _ (by omega) ⟨j + 1, by omega, rfl, e0, e6, e7, rfl, x1.trans x2, l2.trans l1, b3.congr fun x => ?_⟩)
      have hd : P j ∨ j < j ∧ Q j := hd.1 rfl
      have hd : P j := hd.elim id fun h => by omega
      by_cases e : x = j
      · subst e; simp [hd]
      · simp [e]
        constructor
        · rintro (h | ⟨h1, h2⟩)
          · exact .inl h
          · exact .inr ⟨by omega, h2⟩
        · rintro (h | ⟨h1, h2⟩)
          · exact .inl h
          · exact .inr ⟨by omega, h2⟩
    | false =>
      refine gc_ff (pk_f ?_)
      refine b1.st (by omega) fun h2 x2 l2 b3 => w_add (by omega) (by omega) (ih (n + 1 - (j + 1)) _ _ (by omega) ⟨j + 1, by omega, rfl, e0, e6, e7, rfl, x1.trans x2, l2.trans l1, b3.congr fun x => ?_⟩)
      have hd : ¬ (P j ∨ j < j ∧ Q j) := fun h => by cases hd.2 h
      have hd : ¬ P j := fun h => hd (.inl h)
      by_cases e : x = j
      · subst e; simp [hd, hc]
      · simp [e]
        constructor
        · rintro (h | ⟨h1, h2⟩)
          · exact .inl h
          · exact .inr ⟨by omega, h2⟩
        · rintro (h | ⟨h1, h2⟩)
          · exact .inl h
          · exact .inr ⟨by omega, h2⟩
  · exact k h1 x1 l1 (b1.congr fun x => ⟨fun h => h.imp id fun h => h.2, fun h => h.imp id fun h => ⟨by have := b'.le h; omega, h⟩⟩)
theorem clone84 {h : AH} {i n : Nat} {v : Value} {P : Nat → Prop} {K : Value → AH → Prop} (b : BR h i n v P) (hn : n ≤ 100000000000)
    (k : ∀ v' j h', Ex h h' → h.length ≤ j → j < h'.length → BR h' j n v' P → K v' h') : callW Try.prog 84 [v] h K := by
  obtain ⟨cap, bl, rfl, h2, h3, h4, h5⟩ := b.ex
  refine c84 ?_
  unfold s84
  have ht : Try.prog.underlying 52 = some (.slice 4) := by kernel_rfl
  refine w_slnil ht (c_f ?_)
  have hb : bldSl 1 [(.bool false)] 0 [] = some [] := by kernel_rfl
  refine w_some hb ?_
  refine n_new ?_
  have hx : Ex h (h ++ [AObj.row [] true]) := .app _ _
  have hsrc : srcL 1 (.slice (some ⟨i, 0, none⟩) (n + 1) cap) (h ++ [AObj.row [] true]) = some (n + 1, flat eBo bl) := by
    refine srcL_sl (by decide) ⟨by rw [flat_length eBo_len]; omega, .inr ⟨i, 0, cap, rfl, h2, .inr ⟨_, true, hx.some h3, by rw [flat_length eBo_len]; omega, ?_⟩⟩⟩
    rw [List.drop_zero, List.take_of_length_le (by rw [flat_length eBo_len]; omega)]
  have := bigRoom
  have hap : pAppS 1 (.slice (some ⟨h.length, 0, none⟩) 0 0) (.slice (some ⟨i, 0, none⟩) (n + 1) cap) (h ++ [AObj.row [] true]) = some (.slice (some ⟨(h ++ [AObj.row [] true]).length, 0, none⟩) (0 + (n + 1)) (openCap + 1), (h ++ [AObj.row [] true]) ++ [AObj.row ([] ++ flat eBo bl) true]) := by
    unfold pAppS
    simp only [hsrc]
    rw [if_pos (by omega), if_pos (by decide)]
    simp only [pAppEx]
    rw [if_neg (by omega), Nat.zero_mul]
    simp [firstL]
  refine appSl_of (.inl ?_)
  rw [hap]
  refine k _ (h ++ [AObj.row [] true]).length _ (hx.trans (.app _ _)) hx.len (by simp) ⟨openCap + 1, bl, by rw [Nat.zero_add], .inr rfl, ?_, h4, h5⟩
  rw [List.nil_append]
  exact get_new _ _
end Go.Proofs.Ytlenlhlipmkeeaa.W
end

section
/- Schema's laws: the document's tables of truths: one table or another, one behind another. Conditions: none. -/
namespace Go.Proofs.Ytlenlhlipmkeeaa.W
open Go Go.AM SchM
set_option linter.unusedVariables false
set_option maxRecDepth 100000
theorem read_dep {b : Array Nat} {j : Nat} {hb ha : AH} {S : ST} {K : Prop} (hd : (S.map (·.1)).all (fun i => !(free b i j && Nat.blt i j)) = true) (k : K) : readC b j hb ha S K := by
  refine readC_iff.2 ⟨fun y hy hf => ?_, k⟩
  have := List.all_eq_true.1 hd y.1 (List.mem_map_of_mem hy)
  rw [hf] at this
  exact absurd this Bool.false_ne_true
structure MT (h : AH) (lo n : Nat) (v : Value) (P : Nat → Nat → Prop) : Prop where
  ex : ∃ i vals, v = .slice (some ⟨i, 0, none⟩) (n + 1) (n + 1) ∧ lo ≤ i ∧ h[i]? = some (.row vals true) ∧ vals.length = n + 1 ∧ ∀ j, j ≤ n → ∃ ij vj, vals[j]? = some vj ∧ lo ≤ ij ∧ BR h ij n vj (P j)
structure CU (h : AH) (lo iT m n : Nat) (P : Nat → Nat → Prop) (c : Nat) (v : Value) (Q : Nat → Prop) : Prop where
  T : ∃ vals, h[iT]? = some (.row vals true) ∧ vals.length = n + 1 ∧ vals[m]? = some v ∧ ∀ j, j < m → ∃ ij vj, vals[j]? = some vj ∧ (lo ≤ ij ∧ ij < c ∧ ij ≠ iT) ∧ BR h ij n vj (P j)
  lo : lo ≤ iT ∧ iT < c
  b : BR h c n v Q
structure UT (h : AH) (lo iT m n : Nat) (P : Nat → Nat → Prop) : Prop where
  T : ∃ vals, h[iT]? = some (.row vals true) ∧ vals.length = n + 1 ∧ ∀ j, j < m → ∃ ij vj, vals[j]? = some vj ∧ (lo ≤ ij ∧ ij < h.length ∧ ij ≠ iT) ∧ BR h ij n vj (P j)
  lo : lo ≤ iT
section
variable {h h' : AH} {lo n iT m c : Nat} {v : Value} {P : Nat → Nat → Prop} {Q Q' : Nat → Prop}
theorem MT.ex' (t : MT h lo n v P) (x : Ex h h') : MT h' lo n v P := by
  obtain ⟨i, vals, e, hi, g, hl, r⟩ := t.ex
  refine ⟨i, vals, e, hi, x.some g, hl, fun j hj => ?_⟩
  obtain ⟨ij, vj, h1, h2, h3⟩ := r j hj
  exact ⟨ij, vj, h1, h2, h3.keep (x.get ij h3.lt)⟩
theorem MT.congr {P' : Nat → Nat → Prop} (t : MT h lo n v P) (e : ∀ i j, i ≤ n → (P i j ↔ P' i j)) : MT h lo n v P' := by
  obtain ⟨i, vals, e1, hi, g, hl, r⟩ := t.ex
  refine ⟨i, vals, e1, hi, g, hl, fun j hj => ?_⟩
  obtain ⟨ij, vj, h1, h2, h3⟩ := r j hj
  exact ⟨ij, vj, h1, h2, h3.congr fun x => e j x hj⟩
theorem MT.low {lo' : Nat} (t : MT h lo n v P) (hl : lo' ≤ lo) : MT h lo' n v P := by
  obtain ⟨i, vals, e1, hi, g, hl2, r⟩ := t.ex
  refine ⟨i, vals, e1, Nat.le_trans hl hi, g, hl2, fun j hj => ?_⟩
  obtain ⟨ij, vj, h1, h2, h3⟩ := r j hj
  exact ⟨ij, vj, h1, Nat.le_trans hl h2, h3⟩
theorem MT.len (t : MT h lo n v P) {K : Value → Prop} (k : K (.int .i64 ((n + 1 : Nat) : Int))) : optW (lenSl v) K := by
  obtain ⟨i, vals, rfl, r⟩ := t.ex
  exact k
theorem MT.le {i j : Nat} (t : MT h lo n v P) (hi : i ≤ n) (hp : P i j) : j ≤ n := by
  obtain ⟨i', vals, e1, _, g, hl2, r⟩ := t.ex
  obtain ⟨ij, vj, h1, h2, h3⟩ := r i hi
  exact h3.le hp
theorem MT.rd (t : MT h lo n v P) {j : Nat} (hj : j ≤ n) {K : Value → Value → Prop} (k : ∀ p rv ij, BR h ij n rv (P j) → K p rv) : optW (pIdxS 1 v (.int .i64 (j : Nat))) fun p => optW (rdRow false 1 p h) fun x => K p x := by
  obtain ⟨i, vals, rfl, hi, g, hl, r⟩ := t.ex
  obtain ⟨ij, vj, h1, h2, h3⟩ := r j hj
  exact ix1 (by omega) (w_rdP g h1 (k _ _ ij h3))
theorem CU.rdT (t : CU h lo iT m n P c v Q) (hm : m ≤ n) {K : Value → Value → Prop} (k : K (.pointer (some ⟨iT, m, none⟩)) v) : optW (pIdxS 1 (.slice (some ⟨iT, 0, none⟩) (n + 1) (n + 1)) (.int .i64 (m : Nat))) fun p => optW (rdRow false 1 p h) fun x => K p x := by
  obtain ⟨vals, g, hl, hv, r⟩ := t.T
  exact ix1 (by omega) (w_rdP g hv k)
theorem CU.keep (t : CU h lo iT m n P c v Q) (x : Exx c h h') (b : BR h' c n v Q') : CU h' lo iT m n P c v Q' := by
  obtain ⟨vals, g, hl, hv, r⟩ := t.T
  have hlo := t.lo
  refine ⟨⟨vals, x.some g (by omega), hl, hv, fun j hj => ?_⟩, t.lo, b⟩
  obtain ⟨ij, vj, h1, h2, h3⟩ := r j hj
  exact ⟨ij, vj, h1, h2, h3.keep (x.get ij h3.lt (by omega))⟩
theorem CU.ext (t : CU h lo iT m n P c v Q) (x : Ex h h') : CU h' lo iT m n P c v Q := by
  obtain ⟨vals, g, hl, hv, r⟩ := t.T
  refine ⟨⟨vals, x.some g, hl, hv, fun j hj => ?_⟩, t.lo, t.b.keep (x.get c t.b.lt)⟩
  obtain ⟨ij, vj, h1, h2, h3⟩ := r j hj
  exact ⟨ij, vj, h1, h2, h3.keep (x.get ij h3.lt)⟩
theorem CU.congr (t : CU h lo iT m n P c v Q) (e : ∀ j, Q j ↔ Q' j) : CU h lo iT m n P c v Q' := ⟨t.T, t.lo, t.b.congr e⟩
theorem CU.done (t : CU h lo iT m n P c v Q) (e : ∀ j, Q j ↔ P m j) : UT h lo iT (m + 1) n P := by
  obtain ⟨vals, g, hl, hv, r⟩ := t.T
  have hlo := t.lo
  have hc := t.b.lt
  refine ⟨⟨vals, g, hl, fun j hj => ?_⟩, t.lo.1⟩
  by_cases ej : j = m
  · subst ej
    exact ⟨c, v, hv, by omega, t.b.congr e⟩
  · obtain ⟨ij, vj, h1, h2, h3⟩ := r j (by omega)
    exact ⟨ij, vj, h1, by omega, h3⟩
theorem UT.mt (t : UT h lo iT (n + 1) n P) : MT h lo n (.slice (some ⟨iT, 0, none⟩) (n + 1) (n + 1)) P := by
  obtain ⟨vals, g, hl, r⟩ := t.T
  refine ⟨iT, vals, rfl, t.lo, g, hl, fun j hj => ?_⟩
  obtain ⟨ij, vj, h1, h2, h3⟩ := r j (by omega)
  exact ⟨ij, vj, h1, h2.1, h3⟩
theorem mkNil {n : Nat} (hn : n ≤ 100000000000) {K : Nat × Nat × List Value → Prop} (k : ∀ vals : List Value, vals.length = n + 1 → K (n + 1, n + 1, vals)) : optW (mkSl 1 24 [(.slice none 0 0)] (.int .i64 ((n + 1 : Nat) : Int)) (.int .i64 ((n + 1 : Nat) : Int))) K := by
  have := bigRoom
  refine w_some (v := (n + 1, n + 1, repL [.slice none 0 0] (n + 1))) ?_ (k _ ?_)
  · unfold mkSl
    dsimp only
    rw [if_pos ⟨by omega, by omega, by omega, by decide, rfl⟩]
    have : (((n + 1 : Nat) : Int)).toNat = n + 1 := by omega
    rw [this]
  · have : ∀ k, (repL [Value.slice none 0 0] k).length = k := by
      intro k
      induction k with
      | zero => rfl
      | succ k ih => show ([Value.slice none 0 0] ++ repL _ k).length = _; rw [List.length_append, ih]; simp; omega
    exact this _
theorem mkBo {n : Nat} (hn : n ≤ 100000000000) {K : Nat × Nat × List Value → Prop} (k : K (n + 1, n + 1, flat eBo (List.replicate (n + 1) false))) : optW (mkSl 1 1 [(.bool false)] (.int .i64 ((n + 1 : Nat) : Int)) (.int .i64 ((n + 1 : Nat) : Int))) K := by
  have := bigRoom
  refine w_some (v := (n + 1, n + 1, repL [.bool false] (n + 1))) ?_ (by rw [repL_no]; exact k)
  unfold mkSl
  dsimp only
  rw [if_pos ⟨by omega, by omega, by omega, by decide, rfl⟩]
  have : (((n + 1 : Nat) : Int)).toNat = n + 1 := by omega
  rw [this]
theorem UT.row (t : UT h lo iT m n P) (hm : m ≤ n) (hn : n ≤ 100000000000) {K : Nat × Nat × List Value → Nat → Value → AH → Prop}
    (k : ∀ h', Exx iT h h' → h'.length = h.length + 1 → CU h' lo iT m n P h.length (.slice (some ⟨h.length, 0, none⟩) (n + 1) (n + 1)) (fun _ => False) → K (n + 1, n + 1, flat eBo (List.replicate (n + 1) false)) h.length (.pointer (some ⟨iT, m, none⟩)) h') :
    optW (mkSl 1 1 [(.bool false)] (.int .i64 ((n + 1 : Nat) : Int)) (.int .i64 ((n + 1 : Nat) : Int))) fun c => newW none (.row c.2.2 true) h fun i h2 => optW (pIdxS 1 (.slice (some ⟨iT, 0, none⟩) (n + 1) (n + 1)) (.int .i64 (m : Nat))) fun p => optW (pStore 1 p (.slice (some ⟨i, 0, none⟩) c.1 c.2.1) h2) fun h3 => K c i p h3 := by
  refine mkBo hn ?_
  refine n_newv fun h2 x2 l2 g2 => ?_
  obtain ⟨vals, g, hl, r⟩ := t.T
  have lt := lt_of_get g
  have tlo := t.lo
  have := bigOpen
  refine ix1 (by omega) (w_stP (x2.some g) (by omega) rfl rfl ?_)
  have x3 : Exx iT h (h2.set iT (.row (vals.set m (.slice (some ⟨h.length, 0, none⟩) (n + 1) (n + 1))) true)) := ⟨by rw [List.length_set]; exact x2.len, fun j hj hji => (get_ne (Ne.symm hji) _).trans (x2.get j hj)⟩
  refine k _ x3 (by rw [List.length_set]; exact l2) ⟨⟨_, get_set _ (by omega) _, by simpa using hl, by rw [List.getElem?_set_self (by omega)], fun j hj => ?_⟩, ⟨tlo, lt⟩, ⟨n + 1, List.replicate (n + 1) false, rfl, .inl ⟨by omega, Nat.le_refl _⟩, by rw [get_ne (by omega)]; exact g2, by simp, fun j => by simp [List.getElem?_replicate]⟩⟩
  obtain ⟨ij, vj, h1, h2', h3⟩ := r j hj
  exact ⟨ij, vj, by rw [List.getElem?_set_ne (by omega)]; exact h1, by omega, h3.keep (x3.get ij h3.lt h2'.2.2)⟩
theorem MT.exx {k : Nat} (t : MT h lo n v P) (x : Exx k h h') (hk : ∀ j, lo ≤ j → j < h.length → j ≠ k) : MT h' lo n v P := by
  obtain ⟨i, vals, e, hi, g, hl, r⟩ := t.ex
  refine ⟨i, vals, e, hi, x.some g (hk i hi (lt_of_get g)), hl, fun j hj => ?_⟩
  obtain ⟨ij, vj, h1, h2, h3⟩ := r j hj
  exact ⟨ij, vj, h1, h2, h3.keep (x.get ij h3.lt (hk ij h2 h3.lt))⟩
theorem UT.start {h : AH} {n : Nat} {vals : List Value} {P : Nat → Nat → Prop} {iT : Nat} (g : h[iT]? = some (.row vals true)) (hl : vals.length = n + 1) : UT h iT iT 0 n P := ⟨⟨vals, g, hl, fun j hj => by omega⟩, Nat.le_refl _⟩
end
set_option maxHeartbeats 2000000 in
theorem either86 {h : AH} {la lb n : Nat} {va vb : Value} {A B : Nat → Nat → Prop} {K : Value → AH → Prop} (ta : MT h la n va A) (tb : MT h lb n vb B) (hn : n ≤ 100000000000)
    (k : ∀ v h', Ex h h' → MT h' h.length n v (fun i j => A i j ∨ B i j) → K v h') : callW Try.prog 86 [va, vb] h K := by
  refine c86 ?_
  unfold s86
  refine ta.len (mkNil (by omega) fun vals hvl => ?_)
  refine n_newv fun h1 x1 l1 g1 => ?_
  refine loopE_intro (fun mm e h2 => ∃ m : Nat, m ≤ n + 1 ∧ mm = n + 1 - m ∧ e 0 = va ∧ e 1 = vb ∧ e 5 = .slice (some ⟨h.length, 0, none⟩) (n + 1) (n + 1) ∧ e 6 = .int .i64 (m : Nat) ∧ Ex h h2 ∧ UT h2 h.length h.length m n (fun i j => A i j ∨ B i j)) (n + 1)
    ⟨0, Nat.zero_le _, rfl, rfl, rfl, rfl, rfl, x1, UT.start g1 hvl⟩ ?_
  rintro I mm e h2 ⟨m, hm, hmm, e0, e1, e5, e6, x2, t⟩ ih
  rw [e0, e5, e6]
  refine (ta.ex' x2).len (w_lss (c_dec (fun q => ?_) (fun q => ?_)))
  · refine (ta.ex' x2).len ?_
    refine t.row (by omega) (by omega) fun h3 x3 l3 cu => ?_
    have X3 : Ex h h3 := Exx.base x2 x3 (Nat.le_refl _)
    refine loopE_intro (fun mm e h4 => ∃ j : Nat, j ≤ n + 1 ∧ mm = n + 1 - j ∧ e 0 = va ∧ e 1 = vb ∧ e 5 = .slice (some ⟨h.length, 0, none⟩) (n + 1) (n + 1) ∧ e 6 = .int .i64 (m : Nat) ∧ e 7 = .int .i64 (j : Nat) ∧ Ex h h4 ∧
        CU h4 h.length h.length m n (fun i j => A i j ∨ B i j) h2.length (.slice (some ⟨h2.length, 0, none⟩) (n + 1) (n + 1)) (fun x => x < j ∧ (A m x ∨ B m x))) (n + 1)
      ⟨0, Nat.zero_le _, rfl, e0, e1, e5, e6, rfl, X3, cu.congr fun x => ⟨fun h => h.elim, fun h => by omega⟩⟩ ?_
    rintro I1 mm1 e' h4 ⟨j, hj, hmm1, f0, f1, f5, f6, f7, x4, cu4⟩ ih1
    rw [f0, f1, f5, f6, f7]
    have ta4 := ta.ex' x4
    have tb4 := tb.ex' x4
    refine ta4.len (w_lss (c_dec (fun q2 => ?_) (fun q2 => ?_)))
    · refine cu4.rdT (by omega) ?_
      refine ta4.rd (by omega) fun pa ra ia ba => ?_
      refine ba.rd (j := j) (by omega) fun ca hca => ?_
      have fin : ∀ (cb : Bool) (S : ST), (cb = true ↔ (A m j ∨ B m j)) → (S.map (·.1)).all (fun i => !(free #[0, 0, 3, 7, 0, 0, 0, 96, 224, 0, 992, 2016, 4064, 8160, 8160, 32736, 65504, 8160, 262112, 524256, 1048544, 2097151, 4194303] i 22 && Nat.blt i 22)) = true → ∀ {K2 : Value → AH → Prop},
          (∀ h5, CU h5 h.length h.length m n (fun i j => A i j ∨ B i j) h2.length (.slice (some ⟨h2.length, 0, none⟩) (n + 1) (n + 1)) (fun x => x < j + 1 ∧ (A m x ∨ B m x)) → Ex h h5 → K2 (.pointer (some ⟨h2.length, j, none⟩)) h5) →
          optW (pIdxS 1 (.slice (some ⟨h2.length, 0, none⟩) (n + 1) (n + 1)) (.int .i64 (j : Nat))) fun v50 => histC #[0, 0, 3, 7, 0, 0, 0, 96, 224, 0, 992, 2016, 4064, 8160, 8160, 32736, 65504, 8160, 262112, 524256, 1048544, 2097151, 4194303] 22 (obOf v50) [] (optW (pStore 1 v50 (.bool cb) h4) fun h_13 => readC #[0, 0, 3, 7, 0, 0, 0, 96, 224, 0, 992, 2016, 4064, 8160, 8160, 32736, 65504, 8160, 262112, 524256, 1048544, 2097151, 4194303] 22 h4 h_13 S (K2 v50 h_13)) := by
        intro cb S hcb hS K2 k2
        have bb := cu4.b
        have hlo := cu4.lo
        refine ix1 (by omega) (hist_nil ?_)
        obtain ⟨cap, bl, eb, hb2, hb3, hb4, hb5⟩ := bb.ex
        refine w_stP hb3 (by rw [flat_length eBo_len]; omega) rfl rfl (read_dep hS ?_)
        have xx : Exx h2.length h4 (h4.set h2.length (.row ((flat eBo bl).set j (.bool cb)) true)) := ⟨by simp, fun y hy hyi => get_ne (Ne.symm hyi) _⟩
        have b5 : BR (h4.set h2.length (.row ((flat eBo bl).set j (.bool cb)) true)) h2.length n (.slice (some ⟨h2.length, 0, none⟩) (n + 1) (n + 1)) (fun x => x < j + 1 ∧ (A m x ∨ B m x)) := by
          refine ⟨cap, bl.set j cb, eb, hb2, by rw [get_set _ (lt_of_get hb3), flat_eBo_set], by simpa using hb4, fun x => ?_⟩
          by_cases e : j = x
          · subst e
            rw [List.getElem?_set_self (by omega)]
            simp only [Option.some.injEq]
            exact hcb.trans ⟨fun h => ⟨Nat.lt_succ_self _, h⟩, fun h => h.2⟩
          · rw [List.getElem?_set_ne e, hb5 x]
            exact ⟨fun h => ⟨by omega, h.2⟩, fun h => ⟨by omega, h.2⟩⟩
        exact k2 _ (cu4.keep xx b5) (Exx.base x4 xx (by omega))
      cases ca with
      | true =>
        refine gdc_ft (gdc_ft (gdc_ft (gdc_ft (gdc_ft (gdc_ft (gdc_ft (pk_t ?_)))))))
        refine fin true _ ⟨fun _ => .inl (hca.1 rfl), fun _ => rfl⟩ ?_ fun h5 cu5 x5 => w_add (by omega) (by omega) ?_
        · show List.all [11, 8, 3] _ = true
          decide +kernel
        exact ih1 (n + 1 - (j + 1)) _ _ (by omega) ⟨j + 1, by omega, rfl, f0, f1, f5, f6, rfl, x5, cu5⟩
      | false =>
        refine gdc_ff (gdc_ff (gdc_ff ?_))
        obtain ⟨ib, valsb, eb, _, gb, hlb, rb⟩ := tb4.ex
        obtain ⟨ij, vj, h1b, h2b, h3b⟩ := rb m (by omega)
        rw [eb]
        refine ix1 (by omega) (gdc_ff (hist_nil (w_rdP gb h1b ?_)))
        obtain ⟨capj, blj, ebj, hbj2, hbj3, hbj4, hbj5⟩ := h3b.ex
        obtain ⟨cb, hcb⟩ := getElem?_of_lt (l := blj) (i := j) (by omega)
        rw [ebj]
        refine gdc_ff (gdc_ff (ix1 (by omega) (gdc_ff (hist_nil (w_rdP hbj3 (v := .bool cb) (by rw [flat_eBo_get, hcb]; rfl) (pk_f ?_))))))
        have hcb' : cb = true ↔ B m j := by rw [← hbj5 j, hcb]; simp
        have hA : ¬ A m j := fun h => by cases hca.2 h
        refine fin cb _ ⟨fun h => .inr (hcb'.1 h), fun h => hcb'.2 (h.resolve_left hA)⟩ ?_ fun h5 cu5 x5 => w_add (by omega) (by omega) ?_
        · show List.all [19, 16, 11, 8, 3] _ = true
          decide +kernel
        exact ih1 (n + 1 - (j + 1)) _ _ (by omega) ⟨j + 1, by omega, rfl, f0, f1, f5, f6, rfl, x5, cu5⟩
    · refine w_add (by omega) (by omega) (ih (n + 1 - (m + 1)) _ _ (by omega) ⟨m + 1, by omega, rfl, f0, f1, f5, rfl, x4, cu4.done fun x => ⟨fun h => h.2, fun h => ⟨?_, h⟩⟩⟩)
      have : x ≤ n := h.elim (ta.le (by omega)) (tb.le (by omega))
      omega
  · have em : m = n + 1 := by omega
    subst em
    exact k _ h2 x2 t.mt
end Go.Proofs.Ytlenlhlipmkeeaa.W
end

section
/- Schema's laws: the document's tables of truths: one behind another. Conditions: none. -/
namespace Go.Proofs.Ytlenlhlipmkeeaa.W
open Go Go.AM SchM
set_option linter.unusedVariables false
set_option maxRecDepth 100000
def Beh (A B : Nat → Nat → Prop) (i j : Nat) : Prop := ∃ k, i ≤ k ∧ k ≤ j ∧ A i k ∧ B k j
set_option maxHeartbeats 2000000 in
theorem behind85 {h : AH} {la lb n : Nat} {va vb : Value} {A B : Nat → Nat → Prop} {K : Value → AH → Prop} (ta : MT h la n va A) (tb : MT h lb n vb B) (hn : n ≤ 100000000000)
    (k : ∀ v h', Ex h h' → MT h' h.length n v (Beh A B) → K v h') : callW Try.prog 85 [va, vb] h K := by
  refine c85 ?_
  unfold s85
  refine ta.len (mkNil (by omega) fun vals hvl => ?_)
  refine n_newv fun h1 x1 l1 g1 => ?_
  refine loopE_intro (fun mm e h2 => ∃ m : Nat, m ≤ n + 1 ∧ mm = n + 1 - m ∧ e 0 = va ∧ e 1 = vb ∧ e 5 = .slice (some ⟨h.length, 0, none⟩) (n + 1) (n + 1) ∧ e 6 = .int .i64 (m : Nat) ∧ Ex h h2 ∧ UT h2 h.length h.length m n (Beh A B)) (n + 1)
    ⟨0, Nat.zero_le _, rfl, rfl, rfl, rfl, rfl, x1, UT.start g1 hvl⟩ ?_
  rintro I mm e h2 ⟨m, hm, hmm, e0, e1, e5, e6, x2, t⟩ ih
  rw [e0, e5, e6]
  refine (ta.ex' x2).len (w_lss (c_dec (fun q => ?_) (fun q => ?_)))
  · refine (ta.ex' x2).len ?_
    refine t.row (by omega) (by omega) fun h3 x3 l3 cu => ?_
    have X3 : Ex h h3 := Exx.base x2 x3 (Nat.le_refl _)
    refine loopE_intro (fun mm e h4 => ∃ y : Nat, m ≤ y ∧ y ≤ n + 1 ∧ mm = n + 1 - y ∧ e 0 = va ∧ e 1 = vb ∧ e 5 = .slice (some ⟨h.length, 0, none⟩) (n + 1) (n + 1) ∧ e 6 = .int .i64 (m : Nat) ∧ e 7 = .int .i64 (y : Nat) ∧ Ex h h4 ∧
        CU h4 h.length h.length m n (Beh A B) h2.length (.slice (some ⟨h2.length, 0, none⟩) (n + 1) (n + 1)) (fun x => ∃ z, m ≤ z ∧ z < y ∧ z ≤ x ∧ A m z ∧ B z x)) (n + 1 - m)
      ⟨m, Nat.le_refl _, hm, rfl, e0, e1, e5, e6, rfl, X3, cu.congr fun x => ⟨fun h => h.elim, fun ⟨z, h1, h2, _⟩ => by omega⟩⟩ ?_
    rintro I1 mm1 e' h4 ⟨y, hmy, hy, hmm1, f0, f1, f5, f6, f7, x4, cu4⟩ ih1
    rw [f0, f6, f7]
    refine (ta.ex' x4).len (w_lss (c_dec (fun q2 => ?_) (fun q2 => ?_)))
    · refine loopE_intro (fun mm e h4 => ∃ j : Nat, y ≤ j ∧ j ≤ n + 1 ∧ mm = n + 1 - j ∧ e 0 = va ∧ e 1 = vb ∧ e 5 = .slice (some ⟨h.length, 0, none⟩) (n + 1) (n + 1) ∧ e 6 = .int .i64 (m : Nat) ∧ e 7 = .int .i64 (y : Nat) ∧ e 8 = .int .i64 (j : Nat) ∧ Ex h h4 ∧
          CU h4 h.length h.length m n (Beh A B) h2.length (.slice (some ⟨h2.length, 0, none⟩) (n + 1) (n + 1)) (fun x => (∃ z, m ≤ z ∧ z < y ∧ z ≤ x ∧ A m z ∧ B z x) ∨ (A m y ∧ y ≤ x ∧ x < j ∧ B y x))) (n + 1 - y)
        ⟨y, Nat.le_refl _, hy, rfl, f0, f1, f5, f6, f7, rfl, x4, cu4.congr fun x => ⟨.inl, fun h => h.elim id fun h => by omega⟩⟩ ?_
      clear f0 f1 f5 f6 f7 cu4 x4
      rintro I2 mm2 e2 h5 ⟨j, hyj, hj, hmm2, f0, f1, f5, f6, f7, f8, x5, cu5⟩ ih2
      rw [f0, f1, f5, f6, f7, f8]
      have ta5 := ta.ex' x5
      have tb5 := tb.ex' x5
      have out : ∀ (E : Env), (∀ x, x ≤ n → A m y → B y x → y ≤ x → x < j) → E 0 = va → E 1 = vb → E 5 = .slice (some ⟨h.length, 0, none⟩) (n + 1) (n + 1) → E 6 = .int .i64 (m : Nat) → E 7 = .int .i64 (((y + 1 : Nat)) : Int) → I1 E h5 := by
        intro E hall F0 F1 F5 F6 F7
        refine ih1 (n + 1 - (y + 1)) _ _ (by omega) ⟨y + 1, by omega, by omega, rfl, F0, F1, F5, F6, F7, x5, cu5.congr fun x => ?_⟩
        constructor
        · rintro (⟨z, h1, h2, h3⟩ | ⟨h1, h2, h3, h4⟩)
          · exact ⟨z, h1, by omega, h3⟩
          · exact ⟨y, hmy, by omega, h2, h1, h4⟩
        · rintro ⟨z, h1, h2, h3, h4, h5⟩
          by_cases ez : z = y
          · subst ez
            exact .inr ⟨h4, h3, hall x (tb.le (by omega) h5) h4 h5 h3, h5⟩
          · exact .inl ⟨z, h1, by omega, h3, h4, h5⟩
      refine ta5.len (w_lss ?_)
      by_cases q3 : ((j : Nat) : Int) < ((n + 1 : Nat) : Int)
      · have hlt2 : n + 1 - (j + 1) < mm2 := by omega
        have hj1 : y ≤ j + 1 := by omega
        have hj2 : j + 1 ≤ n + 1 := by omega
        refine g_tt q3 (g_tt q3 (g_tt q3 ?_))
        obtain ⟨ia, valsa, ea, _, ga, hla, ra⟩ := ta5.ex
        obtain ⟨ija, vja, h1a, h2a, h3a⟩ := ra m (by omega)
        obtain ⟨capa, bla, eja, hba2, hba3, hba4, hba5⟩ := h3a.ex
        obtain ⟨ca, hca⟩ := getElem?_of_lt (l := bla) (i := y) (by omega)
        have hca' : ca = true ↔ A m y := by rw [← hba5 y, hca]; simp
        rw [ea]
        refine ix1 (by omega) (g_tt q3 (w_rdP ga (v := vja) h1a (g_tt q3 ?_)))
        rw [eja]
        refine g_tt q3 (ix1 (by omega) (g_tt q3 (w_rdP hba3 (v := .bool ca) (by rw [flat_eBo_get, hca]; rfl) (pk_tt q3 ?_))))
        refine c_b (fun ec => ?_) (fun ec => ?_)
        · have hA : A m y := hca'.1 ec
          refine cu5.rdT (by omega) ?_
          refine cu5.rdT (by omega) ?_
          have hlo := cu5.lo
          obtain ⟨cap, bl, eb, hb2, hb3, hb4, hb5⟩ := cu5.b.ex
          obtain ⟨cc, hcc⟩ := getElem?_of_lt (l := bl) (i := j) (by omega)
          refine ix1 (by omega) (w_rdP hb3 (v := .bool cc) (by rw [flat_eBo_get, hcc]; rfl) ?_)
          have hccP := hb5 j
          have fin : ∀ (cb : Bool) (S : ST), (cb = true ↔ (cc = true ∨ B y j)) → (S.map (·.1)).all (fun i => !(free #[0, 0, 3, 7, 0, 0, 0, 96, 224, 0, 992, 2016, 4064, 8160, 8160, 32736, 65504, 8160, 262112, 524256, 1048544, 2097151, 4194303] i 22 && Nat.blt i 22)) = true → ∀ {K2 : Value → AH → Prop},
              (∀ h6, CU h6 h.length h.length m n (Beh A B) h2.length (.slice (some ⟨h2.length, 0, none⟩) (n + 1) (n + 1)) (fun x => (∃ z, m ≤ z ∧ z < y ∧ z ≤ x ∧ A m z ∧ B z x) ∨ (A m y ∧ y ≤ x ∧ x < j + 1 ∧ B y x)) → Ex h h6 → K2 (.pointer (some ⟨h2.length, j, none⟩)) h6) →
              optW (pIdxS 1 (.slice (some ⟨h2.length, 0, none⟩) (n + 1) (n + 1)) (.int .i64 (j : Nat))) fun v50 => histC #[0, 0, 3, 7, 0, 0, 0, 96, 224, 0, 992, 2016, 4064, 8160, 8160, 32736, 65504, 8160, 262112, 524256, 1048544, 2097151, 4194303] 22 (obOf v50) [] (optW (pStore 1 v50 (.bool cb) h5) fun h_13 => readC #[0, 0, 3, 7, 0, 0, 0, 96, 224, 0, 992, 2016, 4064, 8160, 8160, 32736, 65504, 8160, 262112, 524256, 1048544, 2097151, 4194303] 22 h5 h_13 S (K2 v50 h_13)) := by
            intro cb S hcb hS K2 k2
            refine ix1 (by omega) (hist_nil ?_)
            refine w_stP hb3 (by rw [flat_length eBo_len]; omega) rfl rfl (read_dep hS ?_)
            have xx : Exx h2.length h5 (h5.set h2.length (.row ((flat eBo bl).set j (.bool cb)) true)) := ⟨by simp, fun y hy hyi => get_ne (Ne.symm hyi) _⟩
            refine k2 _ (cu5.keep xx ⟨cap, bl.set j cb, eb, hb2, by rw [get_set _ (lt_of_get hb3), flat_eBo_set], by simpa using hb4, fun x => ?_⟩) (Exx.base x5 xx (by omega))
            by_cases e : j = x
            · subst e
              rw [List.getElem?_set_self (by omega)]
              simp only [Option.some.injEq]
              rw [hcb]
              rw [hcc] at hccP
              simp only [Option.some.injEq] at hccP
              rw [hccP]
              constructor
              · rintro ((h | ⟨h1, h2, h3, h4⟩) | h)
                · exact .inl h
                · omega
                · exact .inr ⟨hA, hyj, Nat.lt_succ_self _, h⟩
              · rintro (h | ⟨h1, h2, h3, h4⟩)
                · exact .inl (.inl h)
                · exact .inr h4
            · rw [List.getElem?_set_ne e, hb5 x]
              constructor
              · rintro (h | ⟨h1, h2, h3, h4⟩)
                · exact .inl h
                · exact .inr ⟨h1, h2, by omega, h4⟩
              · rintro (h | ⟨h1, h2, h3, h4⟩)
                · exact .inl h
                · exact .inr ⟨h1, h2, by omega, h4⟩
          cases cc with
          | true =>
            refine gdc_ft (gdc_ft (gdc_ft (gdc_ft (gdc_ft (gdc_ft (gdc_ft (pk_t ?_)))))))
            refine fin true _ ⟨fun _ => .inl rfl, fun _ => rfl⟩ ?_ fun h6 cu6 x6 => w_add (by omega) (by omega) ?_
            · show List.all [11, 8, 3] _ = true
              decide +kernel
            exact ih2 (n + 1 - (j + 1)) _ _ hlt2 ⟨j + 1, hj1, hj2, rfl, f0, f1, f5, f6, f7, rfl, x6, cu6⟩
          | false =>
            refine gdc_ff (gdc_ff (gdc_ff ?_))
            obtain ⟨ib, valsb, eb', _, gb, hlb, rb⟩ := tb5.ex
            obtain ⟨ij, vj, h1b, h2b, h3b⟩ := rb y (by omega)
            rw [eb']
            refine ix1 (by omega) (gdc_ff (hist_nil (w_rdP gb h1b ?_)))
            obtain ⟨capj, blj, ebj, hbj2, hbj3, hbj4, hbj5⟩ := h3b.ex
            obtain ⟨cb, hcb⟩ := getElem?_of_lt (l := blj) (i := j) (by omega)
            rw [ebj]
            refine gdc_ff (gdc_ff (ix1 (by omega) (gdc_ff (hist_nil (w_rdP hbj3 (v := .bool cb) (by rw [flat_eBo_get, hcb]; rfl) (pk_f ?_))))))
            have hcb' : cb = true ↔ B y j := by rw [← hbj5 j, hcb]; simp
            refine fin cb _ ⟨fun h => .inr (hcb'.1 h), fun h => hcb'.2 (h.resolve_left Bool.false_ne_true)⟩ ?_ fun h6 cu6 x6 => w_add (by omega) (by omega) ?_
            · show List.all [19, 16, 11, 8, 3] _ = true
              decide +kernel
            exact ih2 (n + 1 - (j + 1)) _ _ hlt2 ⟨j + 1, hj1, hj2, rfl, f0, f1, f5, f6, f7, rfl, x6, cu6⟩
        · have hA : ¬ A m y := fun h => by rw [hca'.2 h] at ec; cases ec
          exact w_add (by omega) (by omega) (out _ (fun x _ h => absurd h hA) f0 f1 f5 f6 rfl)
      · refine g_tf q3 (g_tf q3 (g_tf q3 (g_tf q3 (g_tf q3 (g_tf q3 (g_tf q3 (pk_ff q3 (c_f ?_))))))))
        exact w_add (by omega) (by omega) (out _ (fun x hx _ _ _ => by omega) f0 f1 f5 f6 rfl)
    · refine w_add (by omega) (by omega) (ih (n + 1 - (m + 1)) _ _ (by omega) ⟨m + 1, by omega, rfl, f0, f1, f5, rfl, x4, cu4.done fun x => ?_⟩)
      constructor
      · rintro ⟨z, h1, h2, h3, h4, h5⟩
        exact ⟨z, h1, h3, h4, h5⟩
      · rintro ⟨z, h1, h3, h4, h5⟩
        exact ⟨z, h1, by have := ta.le (by omega) h4; omega, h3, h4, h5⟩
  · have em : m = n + 1 := by omega
    subst em
    exact k _ h2 x2 t.mt
end Go.Proofs.Ytlenlhlipmkeeaa.W
end

section
/- Schema's laws: which words a schema has: what is known so far, going on by a way. Conditions: none. -/
namespace Go.Proofs.Ytlenlhlipmkeeaa.W
open Go Go.AM SchM
set_option linter.unusedVariables false
set_option maxRecDepth 100000
def scOf (x : W × List (W × Mdl)) : Sc := ⟨fun n => (x.2.findIdx? (fun e => decide (e.1 = n))).elim (-1) (fun i => (i : Int)), x.2.length, fun i => (x.2[i]?.map (·.2)).getD (.mk 1 [] [])⟩
structure Hc where
  h0 : AH
  r : Nat
  M : Nat
  L : Value
  ws : Value
  w : List Int
  x : W × List (W × Mdl)
def Hc.G (c : Hc) (j : Nat) : Prop := j ≠ c.M ∧ j < c.h0.length ∧ Wr c.h0 j
structure HcOK (c : Hc) : Prop where
  rd : c.h0[c.r]? = some (rdr (.string (bs c.x.1)) c.L c.ws c.M)
  ls : ∃ a cap cs, c.L = .slice a c.x.2.length cap ∧ Sl 4 c.h0 c.L c.x.2.length cs ∧ (∀ j, onId c.L j → c.G j) ∧ EL c.h0 c.G c.x.2 cs
  ws : SlT 1 eI c.h0 c.ws c.w
  n : c.w.length ≤ 100000000000
  T : c.x.2.length ≤ 100000000000
  mp : ∃ es ck, c.h0[c.M]? = some (.map es ck)
def PM (c : Hc) (p o : Nat) (m : Mdl) : Prop := ∃ cc, c.h0[p]? = some (.row cc true) ∧ p ≠ c.M ∧ o + 3 ≤ cc.length ∧ MH c.h0 c.G m (.agg ((cc.drop o).take 3).toArray)
abbrev Rw (c : Hc) (m : Mdl) (a : Nat) : Nat → Prop := MR (scOf c.x).fd (scOf c.x).T (Stw (scOf c.x) c.w) m a
def Ent (c : Hc) (u : Nat → Prop) (h : AH) (e : Value × Value × Nat) : Prop :=
  ∃ p o a m i, e.1 = .agg #[.pointer (some ⟨p, o, none⟩), .int .i64 ((a : Nat) : Int)] ∧ PM c p o m ∧ a ≤ c.w.length ∧ u i ∧ BR h i c.w.length e.2.1 (Rw c m a)
structure MI (c : Hc) (u : Nat → Prop) (h : AH) : Prop where
  x : Exx c.M c.h0 h
  map : ∃ es ck, h[c.M]? = some (.map es ck) ∧ ∀ e ∈ es, Ent c u h e
  ub : ∀ i, u i → c.h0.length ≤ i ∧ i < h.length
section
variable {c : Hc} {u u' : Nat → Prop} {h h' : AH}
theorem HcOK.M (ok : HcOK c) : c.M < c.h0.length := ok.mp.elim fun es he => he.elim fun ck hg => lt_of_get hg
theorem MI.ext (ok : HcOK c) (m : MI c u h) (x : Ex h h') : MI c u h' := by
  obtain ⟨es, ck, g, he⟩ := m.map
  refine ⟨m.x.ex x, ⟨es, ck, x.some g, fun e hm => ?_⟩, fun i hi => ⟨(m.ub i hi).1, x.lt (m.ub i hi).2⟩⟩
  obtain ⟨p, o, a, md, i, h1, h2, h3, h4, h5⟩ := he e hm
  exact ⟨p, o, a, md, i, h1, h2, h3, h4, h5.keep (x.get i (m.ub i h4).2)⟩
theorem MI.set (ok : HcOK c) (m : MI c u h) {i : Nat} (hi : c.h0.length ≤ i) (hu : ¬ u i) (x : Exx i h h') : MI c u h' := by
  obtain ⟨es, ck, g, he⟩ := m.map
  have hM := ok.M
  refine ⟨⟨Nat.le_trans m.x.len x.len, fun j hj hjM => ?_⟩, ⟨es, ck, x.some g (by omega), fun e hm => ?_⟩, fun j hj => ⟨(m.ub j hj).1, Nat.lt_of_lt_of_le (m.ub j hj).2 x.len⟩⟩
  · rw [x.get j (Nat.lt_of_lt_of_le hj m.x.len) (by omega)]
    exact m.x.get j hj hjM
  · obtain ⟨p, o, a, md, i', h1, h2, h3, h4, h5⟩ := he e hm
    exact ⟨p, o, a, md, i', h1, h2, h3, h4, h5.keep (x.get i' (m.ub i' h4).2 (fun e => hu (by rw [← e]; exact h4)))⟩
theorem HcOK.rM (ok : HcOK c) : c.r ≠ c.M := by
  intro e
  obtain ⟨es, ck, g⟩ := ok.mp
  have h1 := ok.rd
  rw [e, g] at h1
  cases h1
theorem MI.rdr (ok : HcOK c) (m : MI c u h) : h[c.r]? = some (rdr (.string (bs c.x.1)) c.L c.ws c.M) := m.x.some ok.rd ok.rM
theorem Sl.exx {s n : Nat} {v : Value} {cs : List Value} (ok : HcOK c) (x : Exx c.M c.h0 h) (sl : Sl s c.h0 v n cs) : Sl s h v n cs := by
  refine ⟨sl.1, sl.2.imp id ?_⟩
  rintro ⟨id, off, cap, h1, h2, h3⟩
  refine ⟨id, off, cap, h1, h2, h3.imp (fun e => e) ?_⟩
  rintro ⟨cc, w, g, r⟩
  refine ⟨cc, w, x.some g fun e => ?_, r⟩
  obtain ⟨es, ck, g'⟩ := ok.mp
  rw [e, g'] at g
  cases g
theorem MI.w (ok : HcOK c) (m : MI c u h) : SlT 1 eI h c.ws c.w := Sl.exx ok m.x ok.ws
theorem BR.neM (m : MI c u h) {i n : Nat} {v : Value} {P : Nat → Prop} (b : BR h i n v P) : i ≠ c.M := by
  rintro rfl
  obtain ⟨es, ck, g, he⟩ := m.map
  obtain ⟨cap, bl, _, _, h3, _⟩ := b.ex
  rw [g] at h3
  cases h3
end
theorem words81 {c : Hc} (ok : HcOK c) {u : Nat → Prop} {h : AH} (m : MI c u h) {a : Nat} (ha : a ≤ c.w.length) {K : Value → AH → Prop}
    (k : ∀ v i h', Ex h h' → h.length ≤ i → i < h'.length → BR h' i c.w.length v (fun j => c.w[a]? = some (2 * (c.x.2.length : Int)) ∧ j = a + 1) → K v h') : callW Try.prog 81 [.pointer (some ⟨c.r, 0, none⟩), .int .i64 (a : Nat)] h K := by
  have hn := ok.n
  have hT := ok.T
  obtain ⟨wa, wc, hws⟩ := ok.ws.shape
  obtain ⟨La, Lc, Lcs, hL, _⟩ := ok.ls
  have g := m.rdr ok
  refine c81 ?_
  unfold s81
  rw [hws] at g
  refine row66 g (by omega) fun v h1 x1 l1 b => ?_
  have g1 := x1.some g
  refine w_nilc (w_offP (w_rdP g1 (v := .slice wa c.w.length wc) rfl (w_lenSl (w_lss ?_))))
  by_cases q : ((a : Nat) : Int) < (c.w.length : Nat)
  · have m1 := m.ext ok x1
    have sw : SlT 1 eI h1 (.slice wa c.w.length wc) c.w := hws ▸ m1.w ok
    obtain ⟨z, hz⟩ := getElem?_of_lt (l := c.w) (i := a) (by omega)
    refine gd_tt q (gd_tt q (w_nilc (gd_tt q (w_offP (gd_tt q (hist_nil (w_rdP g1 (v := .slice wa c.w.length wc) rfl (gd_tt q (gd_tt q ?_)))))))))
    refine w_idxN (enc := eI) eI_len sw hz fun pp hpp => ?_
    refine gd_tt q (hist_nil ?_)
    refine w_rd1 hpp (x := .int .i64 z) rfl ?_
    refine gd_tt q (gd_tt q (w_nilc (gd_tt q (w_offP (gd_tt q (w_offP (gd_tt q (hist_nil ?_))))))))
    refine w_rdP g1 (v := c.L) rfl ?_
    rw [hL]
    refine gd_tt q (w_lenSl (gd_tt q (w_mul (by omega) (by omega) (gd_tt q (w_eql (pk_tt q (c_dec (fun e => ?_) (fun e => ?_))))))))
    · refine w_add (by omega) (by omega) ?_
      refine b.st (j := a + 1) (by omega) fun h2 x2 l2 b2 => ?_
      refine k v h.length h2 ⟨by rw [l2, l1]; omega, fun j hj => (x2.get j (x1.lt hj) (by omega)).trans (x1.get j hj)⟩ (Nat.le_refl _) (by omega) (b2.congr fun j => ?_)
      rw [hz, e]
      simp
    · refine k v h.length h1 x1 (Nat.le_refl _) (by omega) (b.congr fun j => ?_)
      rw [hz]
      constructor
      · exact fun h => h.elim
      · rintro ⟨h, _⟩
        exact e (Option.some.inj h)
  · refine gd_tf q (gd_tf q (gd_tf q (gd_tf q (gd_tf q (gd_tf q (gd_tf q (gd_tf q (gd_tf q (gd_tf q (gd_tf q (gd_tf q (gd_tf q (gd_tf q (gd_tf q (pk_ff q (c_f ?_))))))))))))))))
    refine k v h.length h1 x1 (Nat.le_refl _) (by omega) (b.congr fun j => ?_)
    rw [List.getElem?_eq_none (by omega)]
    simp
end Go.Proofs.Ytlenlhlipmkeeaa.W
end

section
/- Schema's laws: which words a schema has: going on by a way, once and as often as may be. Conditions: none. -/
namespace Go.Proofs.Ytlenlhlipmkeeaa.W
open Go Go.AM SchM
set_option linter.unusedVariables false
set_option maxRecDepth 100000
def WayOK (c : Hc) (hb : AH) (way : Value) (lo : Nat) (Wy : Nat → Nat → Prop) : Prop :=
  ∀ (u : Nat → Prop) (h : AH) (k : Nat) (K : Value → AH → Prop), MI c u h → Exx c.M hb h → lo ≤ k → k ≤ c.w.length →
    (∀ (u' : Nat → Prop) (h' : AH) (v : Value) (i : Nat), MI c u' h' → Exx c.M h h' → (∀ i, u' i → u i ∨ h.length ≤ i) → (u' i ∨ h.length ≤ i) → BR h' i c.w.length v (Wy k) → K v h') → callV (callW Try.prog) way [.int .i64 (k : Nat)] h K
section
variable {c : Hc} {u : Nat → Prop} {h : AH} {f : Nat} {vf way : Value} {P : Nat → Prop} {lo : Nat} {Wy : Nat → Nat → Prop} {K : Value → AH → Prop}
set_option maxHeartbeats 1000000 in
theorem on82 (ok : HcOK c) (m : MI c u h) (bf : BR h f c.w.length vf P) (hP : ∀ j, P j → lo ≤ j) (hw : WayOK c h way lo Wy)
    (k : ∀ (u' : Nat → Prop) (h' : AH) (v : Value) (i : Nat), MI c u' h' → Exx c.M h h' → (∀ i, u' i → u i ∨ h.length ≤ i) → h.length ≤ i → ¬ u' i → BR h' i c.w.length v (fun j => ∃ a, P a ∧ Wy a j) → K v h') :
    callW Try.prog 82 [.pointer (some ⟨c.r, 0, none⟩), vf, way] h K := by
  have hn := ok.n
  obtain ⟨wa, wc, hws⟩ := ok.ws.shape
  have g := m.rdr ok
  refine c82 ?_
  unfold s82
  rw [hws] at g
  refine row66 g (by omega) fun v h1 x1 l1 b => bf.len ?_
  have fM := BR.neM m bf
  have hM := ok.M
  have hl := m.x.len
  refine loopE_intro (fun mm e h2 => ∃ (j : Nat) (u1 : Nat → Prop), j ≤ c.w.length + 1 ∧ mm = c.w.length + 1 - j ∧ e 2 = way ∧ e 7 = v ∧ e 12 = vf ∧ e 13 = .int .i64 ((c.w.length + 1 : Nat) : Int) ∧ e 14 = .int .i64 (j : Nat) ∧
      MI c u1 h2 ∧ Exx c.M h h2 ∧ (∀ i, u1 i → u i ∨ h.length ≤ i) ∧ ¬ u1 h.length ∧ BR h2 h.length c.w.length v (fun x => ∃ a, a < j ∧ P a ∧ Wy a x)) (c.w.length + 1)
    ⟨0, u, Nat.zero_le _, rfl, rfl, rfl, rfl, rfl, rfl, m.ext ok x1, (Exx.refl _ _).ex x1, fun i hi => .inl hi, fun hu => by have := (m.ub _ hu).2; omega, b.congr fun x => ⟨fun h => h.elim, fun ⟨a, h, _⟩ => by omega⟩⟩ ?_
  rintro I mm e h2 ⟨j, u1, hj, hmm, e2, e7, e12, e13, e14, m2, x2, s2, nu, b2⟩ ih
  rw [e2, e7, e12, e13, e14]
  refine w_lss (c_dec (fun q => ?_) (fun q => ?_))
  · have bf2 : BR h2 f c.w.length vf P := bf.keep (x2.get _ bf.lt fM)
    refine bf2.rd (by omega) fun t ht => ?_
    refine c_b (fun e => ?_) (fun e => ?_)
    · have hp : P j := ht.1 e
      refine hw u1 h2 j _ m2 x2 (hP j hp) (by omega) fun u3 h3 w i m3 x3 s3 hi b3 => ?_
      have nu3 : ¬ u3 h.length := fun hu => (s3 _ hu).elim nu fun hle => by have := b2.lt; omega
      have ni : h.length ≠ i := by
        rintro rfl
        rcases hi with hi | hi
        · exact nu3 hi
        · have := b2.lt; omega
      refine join83 (b2.keep (x3.get _ b2.lt (by omega))) b3 ni (by omega) fun h4 x4 l4 b4 => w_add (by omega) (by omega) ?_
      refine ih (c.w.length + 1 - (j + 1)) _ _ (by omega) ⟨j + 1, u3, by omega, rfl, e2, e7, e12, e13, rfl, m3.set ok (by omega) nu3 x4, ⟨Nat.le_trans (x2.trans x3).len x4.len, fun y hy hyM => ?_⟩, fun y hy => (s3 y hy).elim (s2 y) fun hle => .inr (Nat.le_trans x2.len hle), nu3, b4.congr fun x => ?_⟩
      · rw [x4.get y (Nat.lt_of_lt_of_le hy (x2.trans x3).len) (by omega)]
        exact (x2.trans x3).get y hy hyM
      · constructor
        · rintro (⟨a, h1, h2, h3⟩ | h)
          · exact ⟨a, by omega, h2, h3⟩
          · exact ⟨j, Nat.lt_succ_self _, hp, h⟩
        · rintro ⟨a, h1, h2, h3⟩
          by_cases ea : a = j
          · subst ea; exact .inr h3
          · exact .inl ⟨a, by omega, h2, h3⟩
    · have hp : ¬ P j := fun h => by rw [ht.2 h] at e; cases e
      refine w_add (by omega) (by omega) (ih (c.w.length + 1 - (j + 1)) _ _ (by omega) ⟨j + 1, u1, by omega, rfl, e2, e7, e12, e13, rfl, m2, x2, s2, nu, b2.congr fun x => ?_⟩)
      constructor
      · rintro ⟨a, h1, h2, h3⟩
        exact ⟨a, by omega, h2, h3⟩
      · rintro ⟨a, h1, h2, h3⟩
        by_cases ea : a = j
        · subst ea; exact absurd h2 hp
        · exact ⟨a, by omega, h2, h3⟩
  · refine k u1 h2 v h.length m2 x2 s2 (Nat.le_refl _) nu (b2.congr fun x => ?_)
    constructor
    · rintro ⟨a, h1, h2, h3⟩
      exact ⟨a, h2, h3⟩
    · rintro ⟨a, h2, h3⟩
      exact ⟨a, by have := bf.le h2; omega, h2, h3⟩
set_option maxHeartbeats 1000000 in
theorem often79 (ok : HcOK c) (m : MI c u h) (bf : BR h f c.w.length vf P) (hP : ∀ j, P j → lo ≤ j) (hw : WayOK c h way lo Wy) (hle : ∀ a j, lo ≤ a → Wy a j → a ≤ j) {rv : Value}
    (k : ∀ (u' : Nat → Prop) (h' : AH) (v : Value) (i : Nat), MI c u' h' → Exx c.M h h' → (∀ i, u' i → u i ∨ h.length ≤ i) → h.length ≤ i → ¬ u' i → BR h' i c.w.length v (fun j => ∃ a, P a ∧ RT Wy a j) → K v h') :
    callW Try.prog 79 [rv, vf, way] h K := by
  have hn := ok.n
  refine c79 ?_
  unfold s79
  have fM := BR.neM m bf
  have hM := ok.M
  have hl := m.x.len
  refine clone84 bf (by omega) fun v i0 h1 x1 l0 l1 b => b.len ?_
  refine loopE_intro (fun mm e h2 => ∃ (j : Nat) (u1 : Nat → Prop) (Q : Nat → Prop), j ≤ c.w.length + 1 ∧ mm = c.w.length + 1 - j ∧ e 2 = way ∧ e 7 = v ∧ e 12 = .int .i64 ((c.w.length + 1 : Nat) : Int) ∧ e 13 = .int .i64 (j : Nat) ∧
      MI c u1 h2 ∧ Exx c.M h h2 ∧ (∀ i, u1 i → u i ∨ h.length ≤ i) ∧ ¬ u1 i0 ∧ i0 < h2.length ∧ BR h2 i0 c.w.length v Q ∧ (∀ a, P a → Q a) ∧ (∀ a, Q a → lo ≤ a ∧ ∃ p, P p ∧ RT Wy p a) ∧ (∀ a, a < j → Q a → ∀ x, Wy a x → Q x)) (c.w.length + 1)
    ⟨0, u, P, Nat.zero_le _, rfl, rfl, rfl, rfl, rfl, m.ext ok x1, (Exx.refl _ _).ex x1, fun i hi => .inl hi, fun hu => by have := (m.ub _ hu).2; omega, l1, b, fun a h => h, fun a h => ⟨hP a h, a, h, .nil a⟩, fun a h => by omega⟩ ?_
  rintro I mm e h2 ⟨j, u1, Q, hj, hmm, e2, e7, e12, e13, m2, x2, s2, nu, l2, b2, q1, q2, q3⟩ ih
  rw [e2, e7, e12, e13]
  refine w_lss (c_dec (fun q => ?_) (fun q => ?_))
  · refine b2.rd (by omega) fun t ht => ?_
    refine c_b (fun e => ?_) (fun e => ?_)
    · have hp : Q j := ht.1 e
      refine hw u1 h2 j _ m2 x2 (q2 j hp).1 (by omega) fun u3 h3 w i m3 x3 s3 hi b3 => ?_
      have nu3 : ¬ u3 i0 := fun hu => (s3 _ hu).elim nu fun hle => by omega
      have ni : i0 ≠ i := by
        rintro rfl
        rcases hi with hi | hi
        · exact nu3 hi
        · omega
      refine join83 (b2.keep (x3.get _ b2.lt (by omega))) b3 ni (by omega) fun h4 x4 l4 b4 => w_add (by omega) (by omega) ?_
      refine ih (c.w.length + 1 - (j + 1)) _ _ (by omega) ⟨j + 1, u3, fun x => Q x ∨ Wy j x, by omega, rfl, e2, e7, e12, rfl, m3.set ok (by omega) nu3 x4, ⟨Nat.le_trans (x2.trans x3).len x4.len, fun y hy hyM => ?_⟩, fun y hy => (s3 y hy).elim (s2 y) fun hle => .inr (Nat.le_trans x2.len hle), nu3, by rw [l4]; exact Nat.lt_of_lt_of_le l2 x3.len, b4, fun a h => .inl (q1 a h), ?_, ?_⟩
      · rw [x4.get y (Nat.lt_of_lt_of_le hy (x2.trans x3).len) (by omega)]
        exact (x2.trans x3).get y hy hyM
      · rintro a (h | h)
        · exact q2 a h
        · obtain ⟨h1, p, h2, h3⟩ := q2 j hp
          exact ⟨Nat.le_trans h1 (hle _ _ h1 h), p, h2, h3.snoc h⟩
      · intro a ha hq x hx
        have hlo : lo ≤ a := by
          rcases hq with h | h
          · exact (q2 a h).1
          · exact Nat.le_trans (q2 j hp).1 (hle _ _ (q2 j hp).1 h)
        by_cases ea : a = j
        · subst ea; exact .inr hx
        · rcases hq with h | h
          · exact .inl (q3 a (by omega) h x hx)
          · have := hle _ _ (q2 j hp).1 h
            omega
    · have hp : ¬ Q j := fun h => by rw [ht.2 h] at e; cases e
      refine w_add (by omega) (by omega) (ih (c.w.length + 1 - (j + 1)) _ _ (by omega) ⟨j + 1, u1, Q, by omega, rfl, e2, e7, e12, rfl, m2, x2, s2, nu, l2, b2, q1, q2, fun a ha hq x hx => ?_⟩)
      by_cases ea : a = j
      · subst ea; exact absurd hq hp
      · exact q3 a (by omega) hq x hx
  · refine k u1 h2 v i0 m2 x2 s2 l0 nu (b2.congr fun x => ?_)
    constructor
    · exact fun h => (q2 x h).2
    · rintro ⟨p, hp, hr⟩
      have : ∀ {a b : Nat}, RT Wy a b → Q a → Q b := by
        intro a b hr
        induction hr with
        | nil i => exact fun h => h
        | cons h _ ih2 => exact fun hq => ih2 (q3 _ (by have := b2.le hq; omega) hq _ h)
      exact this hr (q1 p hp)
end
end Go.Proofs.Ytlenlhlipmkeeaa.W
end
