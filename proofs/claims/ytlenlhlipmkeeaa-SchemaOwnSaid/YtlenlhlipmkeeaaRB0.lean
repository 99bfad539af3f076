/- Parts of a proof, joined by a program. Conditions: none. -/
import Derived.Test.YtlenlhlipmkeeaaRA0
import Derived.Test.YtlenlhlipmkeeaaRA2
import Derived.Laws.RangeString
import Derived.Laws.RangeAny
import Derived.Test.YtlenlhlipmkeeaaRS0

section
/- Schema's laws: the program's reader: its signs. Conditions: none. -/
namespace Go.Proofs.Ytlenlhlipmkeeaa.W
open Go Go.AM SchM
set_option linter.unusedVariables false
set_option maxRecDepth 100000
theorem getElem?_of_lt {α : Type} {l : List α} {i : Nat} (h : i < l.length) : ∃ x, l[i]? = some x := ⟨l[i], List.getElem?_eq_getElem h⟩
theorem gdu {b : Bool} {f : (Value → AH → HT → ST → Prop) → Prop} {h : AH} {H : HT} {S : ST} {K : Value → AH → HT → ST → Prop} (k : K undef h H S) : gopD (gB undef b) f h H S K := k
theorem letter56 {n : Nat} {h : AH} {K : Value → AH → Prop} (hn : n ≤ 2147483647) (k : K (.bool (decide (97 ≤ n ∧ n ≤ 122))) h) : callW Try.prog 56 [.int .i32 n] h K := by
  refine c56 ?_
  unfold s56
  refine w_geq ?_
  by_cases q : (97 : Int) ≤ n
  · refine g_tt q (g_tt q (w_leq (pk_tt q ?_)))
    have : decide (97 ≤ n ∧ n ≤ 122) = decide ((n : Int) ≤ 122) := by rw [Bool.eq_iff_iff]; simp only [decide_eq_true_eq]; omega
    rw [this] at k
    exact k
  · refine g_tf q (g_tf q (pk_ff q ?_))
    have : decide (97 ≤ n ∧ n ≤ 122) = false := by rw [decide_eq_false_iff_not]; omega
    rw [this] at k
    exact k
theorem bs_size (s : W) : (bs s).size = s.length := by
  show (bs s).data.size = _
  rw [← Array.length_toList, bs_data]
theorem bs_at {s : W} {i : Nat} {c : UInt8} (hc : s[i]? = some c) (h : i < (bs s).size) : (bs s)[i]'h = c := by
  have e : (bs s)[i]'h = (bs s).data[i]'h := rfl
  rw [e, ← Array.getElem_toList]
  have := bs_data s
  have h2 : (bs s).data.toList[i]? = some c := by rw [this]; exact hc
  obtain ⟨_, e2⟩ := List.getElem?_eq_some_iff.1 h2
  exact e2
theorem rune {s : W} {i : Nat} {c : UInt8} (hc : s[i]? = some c) : (Utf8.decode (bs s) i).1 ≤ 2147483647 ∧ (decide (97 ≤ (Utf8.decode (bs s) i).1 ∧ (Utf8.decode (bs s) i).1 ≤ 122) = low c) ∧ (low c = true → (Utf8.decode (bs s) i).2 = 1) := by
  have hi := (List.getElem?_eq_some_iff.1 hc).1
  have hs : i < (bs s).size := by rw [bs_size]; exact hi
  have he := bs_at hc hs
  refine ⟨decode_le _ _, ?_⟩
  by_cases ha : c.toNat < 128
  · rw [decode_ascii (bs s) i hs (by rw [he]; exact ha), he]
    exact ⟨rfl, fun _ => rfl⟩
  · have := decode_high (bs s) i hs (by rw [he]; omega)
    unfold low
    refine ⟨?_, fun hh => ?_⟩
    · rw [Bool.eq_iff_iff]; simp only [decide_eq_true_eq]; omega
    · rw [decide_eq_true_eq] at hh; omega
theorem w_aRange {s : W} {h : AH} {K : Value → AH → Prop} (k : ∀ h', Ex h h' → h'.length = h.length + 1 → h'[h.length]? = some (.strIter (bs s) 0) → K (.pointer (some ⟨h.length, 0, none⟩)) h') : aRange Try.prog 9 (.string (bs s)) none h K := by
  have e : Try.prog.underlying 9 = some .string := by kernel_rfl
  unfold aRange
  rw [e]
  exact n_newv k
theorem w_aNext {s : W} {r i : Nat} {h : AH} {K : Value → AH → Prop} (g : h[r]? = some (.strIter (bs s) i))
    (k1 : i < s.length → K (.tuple #[.bool true, .int .i64 i, .int .i32 (Utf8.decode (bs s) i).1]) (h.set r (.strIter (bs s) (i + (Utf8.decode (bs s) i).2))))
    (k2 : s.length ≤ i → K over h) : aNext (.pointer (some ⟨r, 0, none⟩)) true h K := by
  unfold aNext
  simp only [g]
  rw [bs_size]
  split
  · exact k1 (by assumption)
  · exact k2 (by omega)
theorem tw_at {s : W} {i : Nat} (h : ∀ j c, j < i → s[j]? = some c → low c = true) (hi : i ≤ s.length) (he : ∀ c, s[i]? = some c → low c = false) : (s.takeWhile low).length = i := by
  induction s generalizing i with
  | nil => simp at hi; simp [hi]
  | cons a l ih =>
    cases i with
    | zero =>
      have := he a rfl
      rw [List.takeWhile_cons_of_neg (by rw [this]; decide)]
      rfl
    | succ i =>
      rw [List.takeWhile_cons_of_pos (h 0 a (by omega) rfl), List.length_cons]
      rw [ih (i := i) (fun j c hj hc => h (j + 1) c (by omega) hc) (by simpa using hi) (fun c hc => he c hc)]
theorem index70 {s : W} {h : AH} {K : Value → AH → Prop} (hs : s.length ≤ 2000) (k : ∀ h', Ex h h' → K (.int .i64 (if (s.takeWhile low).length < s.length then ((s.takeWhile low).length : Nat) else -1)) h') : callW Try.prog 70 [.string (bs s), .func (.func 56) #[] #[], .bool false] h K := by
  refine c70 ?_
  unfold s70
  refine w_aRange fun h1 x1 l1 g1 => ?_
  refine loopE_intro (fun m e h' => ∃ i : Nat, i ≤ s.length ∧ m = s.length - i ∧ e 1 = .func (.func 56) #[] #[] ∧ e 2 = .bool false ∧ e 10 = .pointer (some ⟨h.length, 0, none⟩) ∧ Ex h h' ∧ h'[h.length]? = some (.strIter (bs s) i) ∧ ∀ j c, j < i → s[j]? = some c → low c = true) s.length
    ⟨0, Nat.zero_le _, rfl, rfl, rfl, rfl, x1, g1, fun j c hj => by omega⟩ ?_
  rintro I m e h2 ⟨i, hi, hm, e1, e2, e10, x2, g2, hall⟩ ih
  rw [e1, e2, e10]
  refine w_aNext g2 (fun hlt => ?_) (fun hge => ?_)
  · obtain ⟨c, hc⟩ := getElem?_of_lt hlt
    obtain ⟨r1, r2, r3⟩ := rune hc
    have x3 : Ex h (h2.set h.length (.strIter (bs s) (i + (Utf8.decode (bs s) i).2))) := x2.set (Nat.le_refl _) _
    have g3 : (h2.set h.length (.strIter (bs s) (i + (Utf8.decode (bs s) i).2)))[h.length]? = some (.strIter (bs s) (i + (Utf8.decode (bs s) i).2)) := get_set _ (lt_of_get g2) _
    refine w_some (v := Value.bool true) rfl (c_t ?_)
    refine w_some (v := Value.int .i64 i) rfl ?_
    refine w_some (v := Value.int .i32 (Utf8.decode (bs s) i).1) rfl ?_
    show callW Try.prog 56 [.int .i32 ((Utf8.decode (bs s) i).1 : Nat)] _ _
    refine letter56 r1 ?_
    rw [r2]
    have eB : ∀ b : Bool, pBin Try.prog .eql 4 (.bool b) (.bool false) = some (.bool (!b)) := fun b => by cases b <;> kernel_rfl
    refine w_some (eB _) ?_
    cases hl : low c with
    | true =>
      refine c_f ?_
      rw [r3 hl] at x3 g3 ⊢
      refine ih (s.length - (i + 1)) _ _ (by omega) ⟨i + 1, by omega, rfl, e1, e2, e10, x3, g3, fun j c' hj hc' => ?_⟩
      by_cases e : j = i
      · subst e
        rw [hc] at hc'
        cases hc'
        exact hl
      · exact hall j c' (by omega) hc'
    | false =>
      have ht := tw_at hall hi (fun c' hc' => by rw [hc] at hc'; cases hc'; exact hl)
      refine c_t ?_
      have := k _ x3
      rw [ht, if_pos hlt] at this
      exact this
  · have ei : i = s.length := by omega
    have ht := tw_at hall hi (fun c' hc' => by rw [List.getElem?_eq_none (by omega)] at hc'; cases hc')
    refine w_some (v := Value.bool false) rfl ?_
    refine c_f ?_
    have := k _ x2
    rw [ht, if_neg (by omega)] at this
    exact this
theorem trim55 {s : W} {h : AH} {K : Value → AH → Prop} (hs : s.length ≤ 2000) (k : ∀ h', Ex h h' → K (.string (bs (s.drop (s.takeWhile low).length))) h') : callW Try.prog 55 [.string (bs s), .func (.func 56) #[] #[]] h K := by
  refine c55 ?_
  unfold s55
  refine index70 hs fun h1 x1 => ?_
  have hle := (List.takeWhile_sublist (p := low) (l := s)).length_le
  by_cases q : (s.takeWhile low).length < s.length
  · rw [if_pos q]
    refine w_eql (c_ff (by omega) (w_dropStr (by omega) (by omega) ?_))
    exact k h1 x1
  · rw [if_neg q]
    refine w_eql (c_tt rfl ?_)
    have e : s.drop (s.takeWhile low).length = [] := List.drop_eq_nil_of_le (by omega)
    have := k h1 x1
    rw [e] at this
    exact this
end Go.Proofs.Ytlenlhlipmkeeaa.W
end

section
/- Schema's laws: the program's reader: the next sign. Conditions: none. -/
namespace Go.Proofs.Ytlenlhlipmkeeaa.W
open Go Go.AM SchM
set_option linter.unusedVariables false
set_option maxRecDepth 100000
def prow (s w : W) (fr at_ D e pl : Int) (c : UInt8) (vn : Value) : List Value := [.string (bs s), .int .i64 fr, .int .i64 at_, .string (bs w), .int .u8 c.toNat, .int .i64 D, .int .i64 e, .int .i64 pl, vn]
abbrev At (X : Nat) : Nat → Prop := fun j => j = X
theorem blank_of {c : UInt8} : SchM.blank c = (decide ((c.toNat : Int) = 32) || decide ((c.toNat : Int) = 10)) := by
  unfold SchM.blank
  have e1 : (c == 32) = decide ((c.toNat : Int) = 32) := by
    rw [Bool.eq_iff_iff]; simp only [beq_iff_eq, decide_eq_true_eq]
    exact ⟨fun h => by subst h; rfl, fun h => UInt8.toNat_inj.1 (by show c.toNat = 32; omega)⟩
  have e2 : (c == 10) = decide ((c.toNat : Int) = 10) := by
    rw [Bool.eq_iff_iff]; simp only [beq_iff_eq, decide_eq_true_eq]
    exact ⟨fun h => by subst h; rfl, fun h => UInt8.toNat_inj.1 (by show c.toNat = 10; omega)⟩
  rw [e1, e2]
theorem setX {h : AH} {X : Nat} (o : AObj) : Chg (At X) h (At X) (h.set X o) := Chg.setf (F := At X) (f := X) rfl o
theorem tail32 {h : AH} {X p : Nat} {s w : W} {at_ D e pl : Int} {c : UInt8} {vn : Value} {K : Value → AH → Prop} (g : h[X]? = some (.row (prow s w p at_ D e pl c vn) true)) (hs : s.length ≤ 2000) (hp : p ≤ s.length)
    (k : ∀ h', Chg (At X) h (At X) h' → h'[X]? = some (.row (prow s (sgn s p).1 p ((p + tl s p : Nat) : Int) D e pl (sgn s p).2 vn) true) → K (.tuple #[]) h') :
    optW (pNilCheck (.pointer (some ⟨X, 0, none⟩))) fun v53 =>
    optW (pOff 0 v53) fun v54 =>
    optW (rdRow false 1 v54 h) fun v55 =>
    optW (pNilCheck (.pointer (some ⟨X, 0, none⟩))) fun v57 =>
    optW (pOff 1 v57) fun v58 =>
    optW (rdRow false 1 v58 h) fun v59 =>
    optW (pSliceStr v55 (some v59) none) fun v60 =>
    optW (bld [(.string (bs [])), (.int .u8 0)] [(0, 1), (1, 1)] []) fun v63 =>
    optW (pNilCheck (.pointer (some ⟨X, 0, none⟩))) fun v65 =>
    optW (pOff 1 v65) fun v66 =>
    optW (rdRow false 1 v66 h) fun v67 =>
    optW (pNilCheck (.pointer (some ⟨X, 0, none⟩))) fun v68 =>
    optW (pOff 3 v68) fun v69 =>
    optW (pStore 2 v69 v63 h) fun h_26 =>
    optW (pNilCheck (.pointer (some ⟨X, 0, none⟩))) fun v70 =>
    optW (pOff 2 v70) fun v71 =>
    optW (pStore 1 v71 v67 h_26) fun h_27 =>
    optW (lenStr v60) fun v73 =>
    callW Try.prog 55 [v60, (.func (.func 56) #[] #[])] h_27 fun v75 h_28 =>
    optW (lenStr v75) fun v76 =>
    optW (pBin Try.prog .sub 3 v73 v76) fun v77 =>
    optW (pBin Try.prog .gtr 3 v77 (.int .i64 0)) fun v79 =>
    condW v79 (
      optW (pSliceStr v60 none (some v77)) fun v84 =>
      optW (bld [(.string (bs [])), (.int .u8 0)] [(0, 1), (1, 1)] [(0, v84)]) fun v85 =>
      optW (pNilCheck (.pointer (some ⟨X, 0, none⟩))) fun v87 =>
      optW (pOff 1 v87) fun v88 =>
      optW (rdRow false 1 v88 h_28) fun v89 =>
      optW (pBin Try.prog .add 3 v89 v77) fun v91 =>
      optW (pNilCheck (.pointer (some ⟨X, 0, none⟩))) fun v92 =>
      optW (pOff 3 v92) fun v93 =>
      optW (pStore 2 v93 v85 h_28) fun h_29 =>
      optW (pNilCheck (.pointer (some ⟨X, 0, none⟩))) fun v94 =>
      optW (pOff 2 v94) fun v95 =>
      optW (pStore 1 v95 v91 h_29) fun h_30 =>
      K (.tuple #[]) h_30
    ) (
      optW (pBin Try.prog .neq 9 v60 (.string (bs []))) fun v97 =>
      condW v97 (
        optW (pIdxStr v60 (.int .i64 0)) fun v101 =>
        optW (bld [(.string (bs [])), (.int .u8 0)] [(0, 1), (1, 1)] [(1, v101)]) fun v102 =>
        optW (pNilCheck (.pointer (some ⟨X, 0, none⟩))) fun v104 =>
        optW (pOff 1 v104) fun v105 =>
        optW (rdRow false 1 v105 h_28) fun v106 =>
        optW (pBin Try.prog .add 3 v106 (.int .i64 1)) fun v107 =>
        optW (pNilCheck (.pointer (some ⟨X, 0, none⟩))) fun v108 =>
        optW (pOff 3 v108) fun v109 =>
        optW (pStore 2 v109 v102 h_28) fun h_31 =>
        optW (pNilCheck (.pointer (some ⟨X, 0, none⟩))) fun v110 =>
        optW (pOff 2 v110) fun v111 =>
        optW (pStore 1 v111 v107 h_31) fun h_32 =>
        optW (pIdxStr v60 (.int .i64 0)) fun v113 =>
        optW (pBin Try.prog .eql 5 v113 (.int .u8 0)) fun v114 =>
        condW v114 (
          optW (bld [(.string (bs [])), (.int .u8 0)] [(0, 1), (1, 1)] [(0, (.string (bs [110, 111, 110, 101, 32, 97, 116, 32, 97, 108, 108])))]) fun v116 =>
          optW (pNilCheck (.pointer (some ⟨X, 0, none⟩))) fun v117 =>
          optW (pOff 3 v117) fun v118 =>
          optW (pStore 2 v118 v116 h_32) fun h_33 =>
          K (.tuple #[]) h_33
        ) (
          K (.tuple #[]) h_32)
      ) (
        K (.tuple #[]) h_28)) := by
  have lt := lt_of_get g
  have hle := (List.takeWhile_sublist (p := low) (l := s.drop p)).length_le
  have hdl : (s.drop p).length = s.length - p := List.length_drop
  refine w_nilc (w_offP (w_rdP g (v := .string (bs s)) rfl (w_nilc (w_offP (w_rdP g (v := .int .i64 p) rfl (w_dropStr (by omega) (by omega) ?_))))))
  rw [Int.toNat_natCast]
  refine w_some (v := .agg #[.string (bs []), .int .u8 0]) rfl ?_
  refine w_nilc (w_offP (w_rdP g (v := .int .i64 p) rfl (w_nilc (w_offP (w_stPA g rfl (by show 0 + 3 + 2 ≤ 9; decide) rfl ?_)))))
  have g1 : (h.set X (.row (spliceL (prow s w p at_ D e pl c vn) (0 + 3) (cellsL (.agg #[.string (bs []), .int .u8 0]))) true))[X]? = some (.row (prow s [] p at_ D e pl 0 vn) true) := get_set _ lt _
  have c1 : Chg (At X) h (At X) (h.set X (.row (spliceL (prow s w p at_ D e pl c vn) (0 + 3) (cellsL (.agg #[.string (bs []), .int .u8 0]))) true)) := setX _
  generalize h.set X (.row (spliceL (prow s w p at_ D e pl c vn) (0 + 3) (cellsL (.agg #[.string (bs []), .int .u8 0]))) true) = h1 at g1 c1 ⊢
  refine w_nilc (w_offP (w_stP g1 (by show 0 + 2 < 9; decide) rfl rfl ?_))
  have g2 : (h1.set X (.row ((prow s [] p at_ D e pl 0 vn).set (0 + 2) (.int .i64 p)) true))[X]? = some (.row (prow s [] p p D e pl 0 vn) true) := get_set _ (lt_of_get g1) _
  have c2 := c1.trans (setX (h := h1) (.row ((prow s [] p at_ D e pl 0 vn).set (0 + 2) (.int .i64 p)) true))
  generalize h1.set X (.row ((prow s [] p at_ D e pl 0 vn).set (0 + 2) (.int .i64 p)) true) = h2 at g2 c2 ⊢
  refine w_lenStr (trim55 (by omega) fun h3 x3 => w_lenStr ?_)
  have g3 := x3.some g2
  have c3 := c2.trans (Chg.ex (F := At X) x3)
  have lt3 := lt_of_get g3
  have el : ((s.drop p).drop ((s.drop p).takeWhile low).length).length = s.length - p - ((s.drop p).takeWhile low).length := by rw [List.length_drop, hdl]
  refine w_sub (by omega) (by omega) (w_gtr ?_)
  have en : ((s.drop p).length : Int) - (((s.drop p).drop ((s.drop p).takeWhile low).length).length : Nat) = (((s.drop p).takeWhile low).length : Nat) := by omega
  rw [en]
  refine c_dec (fun q => ?_) (fun q => ?_)
  · have hw : wordAt s p ≠ [] := fun e => by unfold wordAt at e; rw [e] at q; simp at q
    refine w_takeStr (by omega) (by omega) ?_
    rw [Int.toNat_natCast]
    have et : (s.drop p).take ((s.drop p).takeWhile low).length = wordAt s p := by
      unfold wordAt
      exact (List.prefix_iff_eq_take.1 (List.takeWhile_prefix low)).symm
    rw [et]
    refine w_some (v := .agg #[.string (bs (wordAt s p)), .int .u8 0]) rfl ?_
    refine w_nilc (w_offP (w_rdP g3 (v := .int .i64 p) rfl (w_add (by omega) (by omega) (w_nilc (w_offP (w_stPA g3 rfl (by show 0 + 3 + 2 ≤ 9; decide) rfl ?_))))))
    have g4 : (h3.set X (.row (spliceL (prow s [] p p D e pl 0 vn) (0 + 3) (cellsL (.agg #[.string (bs (wordAt s p)), .int .u8 0]))) true))[X]? = some (.row (prow s (wordAt s p) p p D e pl 0 vn) true) := get_set _ lt3 _
    refine w_nilc (w_offP (w_stP g4 (by show 0 + 2 < 9; decide) rfl rfl ?_))
    refine k _ ((c3.trans (setX _)).trans (setX _)) ?_
    rw [get_set _ (lt_of_get g4)]
    have e1 : sgn s p = (wordAt s p, 0) := by unfold sgn; rw [if_pos hw]
    have e2 : tl s p = (wordAt s p).length := by unfold tl; rw [if_pos hw]
    rw [e1, e2]
    rfl
  · have hn : ((s.drop p).takeWhile low).length = 0 := by omega
    have hw : ¬ wordAt s p ≠ [] := fun h => h (List.eq_nil_of_length_eq_zero hn)
    refine w_sneq ?_
    by_cases q2 : p < s.length
    · obtain ⟨b, hb⟩ := getElem?_of_lt q2
      have hne : ¬ s.drop p = [] := fun e => by have := congrArg List.length e; rw [hdl] at this; simp at this; omega
      have hb0 : (s.drop p)[(0 : Int).toNat]? = some b := by
        show (s.drop p)[0]? = some b
        rw [List.getElem?_drop]
        exact hb
      refine c_tt hne (w_idxStr (by omega) hb0 ?_)
      refine w_some (v := .agg #[.string (bs []), .int .u8 b.toNat]) rfl ?_
      refine w_nilc (w_offP (w_rdP g3 (v := .int .i64 p) rfl (w_add (by omega) (by omega) (w_nilc (w_offP (w_stPA g3 rfl (by show 0 + 3 + 2 ≤ 9; decide) rfl ?_))))))
      have g4 : (h3.set X (.row (spliceL (prow s [] p p D e pl 0 vn) (0 + 3) (cellsL (.agg #[.string (bs []), .int .u8 b.toNat]))) true))[X]? = some (.row (prow s [] p p D e pl b vn) true) := get_set _ lt3 _
      have c4 := c3.trans (setX (h := h3) (.row (spliceL (prow s [] p p D e pl 0 vn) (0 + 3) (cellsL (.agg #[.string (bs []), .int .u8 b.toNat]))) true))
      generalize h3.set X (.row (spliceL (prow s [] p p D e pl 0 vn) (0 + 3) (cellsL (.agg #[.string (bs []), .int .u8 b.toNat]))) true) = h4 at g4 c4 ⊢
      refine w_nilc (w_offP (w_stP g4 (by show 0 + 2 < 9; decide) rfl rfl ?_))
      have g5 : (h4.set X (.row ((prow s [] p p D e pl b vn).set (0 + 2) (.int .i64 ((p : Int) + 1))) true))[X]? = some (.row (prow s [] p ((p + 1 : Nat) : Int) D e pl b vn) true) := get_set _ (lt_of_get g4) _
      have c5 := c4.trans (setX (h := h4) (.row ((prow s [] p p D e pl b vn).set (0 + 2) (.int .i64 ((p : Int) + 1))) true))
      generalize h4.set X (.row ((prow s [] p p D e pl b vn).set (0 + 2) (.int .i64 ((p : Int) + 1))) true) = h5 at g5 c5 ⊢
      have e2 : tl s p = 1 := by unfold tl; rw [if_neg hw, if_pos q2]
      refine w_idxStr (by omega) hb0 (w_eql (c_dec (fun q3 => ?_) (fun q3 => ?_)))
      · have eb : b = 0 := UInt8.toNat_inj.1 (by show b.toNat = 0; omega)
        refine w_some (v := .agg #[.string (bs noneAt), .int .u8 0]) rfl ?_
        refine w_nilc (w_offP (w_stPA g5 rfl (by show 0 + 3 + 2 ≤ 9; decide) rfl ?_))
        refine k _ (c5.trans (setX _)) ?_
        rw [get_set _ (lt_of_get g5)]
        have e1 : sgn s p = (noneAt, 0) := by unfold sgn; rw [if_neg hw, hb]; simp [eb]
        rw [e1, e2]
        rfl
      · have eb : ¬ b = 0 := fun e => q3 (by rw [e]; rfl)
        refine k _ c5 ?_
        have e1 : sgn s p = ([], b) := by unfold sgn; rw [if_neg hw, hb]; simp [eb]
        rw [e1, e2]
        exact g5
    · have hne : s.drop p = [] := List.drop_eq_nil_of_le (by omega)
      refine c_ff (fun h => h hne) ?_
      refine k _ c3 ?_
      have e2 : tl s p = 0 := by unfold tl; rw [if_neg hw, if_neg q2]
      rw [sgn_end (by omega), e2]
      exact g3
theorem next32 {h : AH} {X : Nat} {at_ : Nat} {s w : W} {fr D e pl : Int} {c : UInt8} {vn : Value} {K : Value → AH → Prop} (g : h[X]? = some (.row (prow s w fr at_ D e pl c vn) true)) (hs : s.length ≤ 2000) (hat : at_ ≤ s.length)
    (k : ∀ h', Chg (At X) h (At X) h' → h'[X]? = some (.row (prow s (sgn s (skip s at_)).1 (skip s at_ : Nat) ((skip s at_ + tl s (skip s at_) : Nat) : Int) D e pl (sgn s (skip s at_)).2 vn) true) → K (.tuple #[]) h') : callW Try.prog 32 [.pointer (some ⟨X, 0, none⟩)] h K := by
  refine c32 ?_
  unfold s32
  have lt := lt_of_get g
  refine w_nilc (w_offP (w_rdP g (v := .int .i64 at_) rfl (w_nilc (w_offP (w_stP g (by show 0 + 1 < 9; decide) rfl rfl ?_)))))
  have g1 : (h.set X (.row ((prow s w fr at_ D e pl c vn).set (0 + 1) (.int .i64 at_)) true))[X]? = some (.row (prow s w at_ at_ D e pl c vn) true) := get_set _ lt _
  have c1 : Chg (At X) h (At X) (h.set X (.row ((prow s w fr at_ D e pl c vn).set (0 + 1) (.int .i64 at_)) true)) := setX _
  generalize h.set X (.row ((prow s w fr at_ D e pl c vn).set (0 + 1) (.int .i64 at_)) true) = h1 at g1 c1 ⊢
  refine loopE_intro (fun m e' h' => ∃ i : Nat, i ≤ s.length ∧ m = s.length - i ∧ e' 0 = .pointer (some ⟨X, 0, none⟩) ∧ Chg (At X) h (At X) h' ∧ h'[X]? = some (.row (prow s w i at_ D e pl c vn) true) ∧ skip s i = skip s at_) (s.length - at_)
    ⟨at_, hat, rfl, rfl, c1, g1, rfl⟩ ?_
  rintro I m e' h2 ⟨i, hi, hm, e0, c2, g2, hsk⟩ ih
  rw [e0]
  refine w_nilc (w_offP (w_rdP g2 (v := .int .i64 i) rfl (w_nilc (w_offP (w_rdP g2 (v := .string (bs s)) rfl (w_lenStr (w_lss ?_)))))))
  by_cases q : (i : Int) < (s.length : Nat)
  · obtain ⟨b, hb⟩ := getElem?_of_lt (l := s) (i := i) (by omega)
    have hbl := blank_of (c := b)
    refine gd_tt q (gd_tt q (w_nilc (gd_tt q (w_offP (gd_tt q (hist_nil (w_rdP g2 (v := .string (bs s)) rfl (gd_tt q (gd_tt q (w_nilc (gd_tt q (w_offP (gd_tt q (hist_nil (w_rdP g2 (v := .int .i64 i) rfl (gd_tt q (w_idxStr (by omega) hb (gd_tt q (w_eql (gd_tt q ?_))))))))))))))))))))
    by_cases q2 : (b.toNat : Int) = 32
    · rw [decide_eq_true q2, Bool.true_or] at hbl
      refine gd_ft q2 (gd_ft q2 (gd_ft q2 (gd_ft q2 (gd_ft q2 (gd_ft q2 (gd_ft q2 (gd_ft q2 (gd_ft q2 (gd_ft q2 (gd_tt q (pk_tt q2 (pk_tt q (c_t ?_)))))))))))))
      refine w_nilc (w_offP (w_rdP g2 (v := .int .i64 i) rfl (w_add (by omega) (by omega) (w_nilc (w_offP (w_stP g2 (by show 0 + 1 < 9; decide) rfl rfl ?_))))))
      exact ih (s.length - (i + 1)) _ _ (by omega) ⟨i + 1, by omega, rfl, e0, c2.trans (setX _), get_set _ (lt_of_get g2) _, by rw [← skip_step hb hbl]; exact hsk⟩
    · rw [decide_eq_false q2, Bool.false_or] at hbl
      refine gd_ff q2 (gd_ff q2 (w_nilc (gd_ff q2 (w_offP (gd_ff q2 (hist_nil (w_rdP g2 (v := .string (bs s)) rfl (gd_ff q2 (gd_ff q2 (w_nilc (gd_ff q2 (w_offP (gd_ff q2 (hist_nil (w_rdP g2 (v := .int .i64 i) rfl (gd_ff q2 (w_idxStr (by omega) hb (gd_ff q2 (w_eql (gd_tt q (pk_ff q2 (pk_tt q (c_dec (fun q3 => ?_) (fun q3 => ?_))))))))))))))))))))))))
      · rw [decide_eq_true q3] at hbl
        refine w_nilc (w_offP (w_rdP g2 (v := .int .i64 i) rfl (w_add (by omega) (by omega) (w_nilc (w_offP (w_stP g2 (by show 0 + 1 < 9; decide) rfl rfl ?_))))))
        exact ih (s.length - (i + 1)) _ _ (by omega) ⟨i + 1, by omega, rfl, e0, c2.trans (setX _), get_set _ (lt_of_get g2) _, by rw [← skip_step hb hbl]; exact hsk⟩
      · rw [decide_eq_false q3] at hbl
        have es : skip s i = i := skip_of fun c' hc' => by rw [hb] at hc'; cases hc'; exact hbl
        rw [← hsk, es] at k
        exact tail32 g2 hs hi fun h' c' g' => k h' (c2.trans c') g'
  · refine gd_tf q (gd_tf q (gd_tf q (gd_tf q (gd_tf q (gd_tf q (gd_tf q (gd_tf q (gd_tf q (gd_tf q (gd_tf q ?_))))))))))
    refine gdu (gdu (gdu (gdu (gdu (gdu (gdu (gdu (gdu (gdu (gd_tf q (pk_ff q (c_f ?_))))))))))))
    have es : skip s i = i := skip_of fun c' hc' => by rw [List.getElem?_eq_none (by omega)] at hc'; cases hc'
    rw [← hsk, es] at k
    exact tail32 g2 hs hi fun h' c' g' => k h' (c2.trans c') g'
end Go.Proofs.Ytlenlhlipmkeeaa.W
end

section
/- Schema's laws: the program's reader: signs are taken. Conditions: none. -/
namespace Go.Proofs.Ytlenlhlipmkeeaa.W
open Go Go.AM SchM
set_option linter.unusedVariables false
set_option maxRecDepth 100000
def eSg (x : W × UInt8) : List Value := [.string (bs x.1), .int .u8 x.2.toNat]
theorem u8_inj {a b : UInt8} : ((a.toNat : Int) = (b.toNat : Int)) ↔ a = b :=
  ⟨fun h => UInt8.toNat_inj.1 (by omega), fun h => by rw [h]⟩
theorem sg_eq0 (a b : W × UInt8) : pBin Try.prog .eql 71 (.agg (eSg a).toArray) (.agg (eSg b).toArray) = (sameScals (eSg a) (eSg b)).map Value.bool := by kernel_rfl
theorem sg_ne0 (a b : W × UInt8) : pBin Try.prog .neq 71 (.agg (eSg a).toArray) (.agg (eSg b).toArray) = (sameScals (eSg a) (eSg b)).map fun b => Value.bool (!b) := by kernel_rfl
theorem sg_same (a b : W × UInt8) : sameScals (eSg a) (eSg b) = some (decide (a = b)) := by
  obtain ⟨a1, a2⟩ := a
  obtain ⟨b1, b2⟩ := b
  unfold eSg
  simp only [sameScals, sameScal, bytes_toList, bs_data, if_true]
  by_cases h1 : a1 = b1
  · subst h1
    by_cases h2 : a2 = b2
    · subst h2; simp
    · have : ((a2.toNat : Int) == (b2.toNat : Int)) = false := by
        rw [beq_eq_false_iff_ne]
        exact fun h => h2 (u8_inj.1 h)
      simp [this, h2]
  · have : (a1 == b1) = false := by simpa using h1
    simp [this, h1]
theorem w_sgeq {a b : W × UInt8} {K : Value → Prop} (k : K (.bool (decide (a = b)))) : optW (pBin Try.prog .eql 71 (.agg (eSg a).toArray) (.agg (eSg b).toArray)) K := by
  rw [sg_eq0, sg_same]; exact k
theorem w_sgne {a b : W × UInt8} {K : Value → Prop} (k : K (.bool (decide (¬ a = b)))) : optW (pBin Try.prog .neq 71 (.agg (eSg a).toArray) (.agg (eSg b).toArray)) K := by
  rw [sg_ne0, sg_same]
  show K (.bool (!decide (a = b)))
  rw [← decide_not]
  exact k
theorem contains71 {h : AH} {i : Nat} {ws : List W} {w : W} {b : Bool} {K : Value → AH → Prop} (g : h[i]? = some (.row (ws.map fun w => .string (bs w)) b)) (hn : ws.length ≤ 1000) (k : K (.bool (decide (w ∈ ws))) h) : callW Try.prog 71 [.slice (some ⟨i, 0, none⟩) ws.length ws.length, .string (bs w)] h K := by
  refine c71 ?_
  unfold s71
  refine c89 ?_
  unfold s89
  refine w_lenSl ?_
  refine loopE_intro (fun m e h' => ∃ j : Nat, j ≤ ws.length ∧ m = ws.length - j ∧ e 0 = .slice (some ⟨i, 0, none⟩) ws.length ws.length ∧ e 1 = .string (bs w) ∧ e 7 = .int .i64 (ws.length : Nat) ∧ e 8 = .int .i64 (j : Nat) ∧ h' = h ∧ w ∉ ws.take j) ws.length
    ⟨0, Nat.zero_le _, rfl, rfl, rfl, rfl, rfl, rfl, by simp⟩ ?_
  rintro I m e h1 ⟨j, hj, hm, e0, e1, e7, e8, rfl, hni⟩ ih
  rw [e0, e1, e7, e8]
  refine w_lss (c_dec (fun q => ?_) (fun q => ?_))
  · obtain ⟨x, hx⟩ := getElem?_of_lt (l := ws) (i := j) (by omega)
    have hg : (ws.map fun w => Value.string (bs w))[j]? = some (.string (bs x)) := by rw [List.getElem?_map, hx]; rfl
    refine w_some (v := .pointer (some ⟨i, j, none⟩)) ?_ (w_rdP g hg (w_seql (c_dec (fun q2 => ?_) (fun q2 => ?_))))
    · unfold pIdxS
      dsimp only
      rw [if_pos ⟨by omega, by omega⟩]
      have : 0 + ((j : Nat) : Int).toNat * 1 = j := by omega
      rw [this]
    · have hw : w ∈ ws := by rw [q2]; exact List.mem_of_getElem? hx
      rw [decide_eq_true hw] at k
      refine w_geq ?_
      rw [decide_eq_true (by omega)]
      exact k
    · refine w_add (by omega) (by omega) ?_
      refine ih (ws.length - (j + 1)) _ _ (by omega) ⟨j + 1, by omega, rfl, e0, e1, e7, rfl, rfl, ?_⟩
      rw [List.take_add_one, hx]
      simp only [Option.toList_some, List.mem_append, List.mem_singleton, not_or]
      exact ⟨hni, q2⟩
  · have : ws.take j = ws := List.take_of_length_le (by omega)
    rw [this] at hni
    rw [decide_eq_false hni] at k
    refine w_geq ?_
    rw [decide_eq_false (by omega)]
    exact k
theorem key57 {h : AH} {w : W} {K : Value → AH → Prop} (k : ∀ h', Ex h h' → K (.bool (decide (w ∈ keys))) h') : callW Try.prog 57 [.string (bs w)] h K := by
  refine c57 ?_
  unfold s57
  refine w_some (v := keys.map fun w => Value.string (bs w)) rfl ?_
  refine n_newv fun h1 x1 l1 g1 => ?_
  exact contains71 (ws := keys) g1 (by decide) (k h1 x1)
structure PO (h : AH) (X : Nat) (F : Nat → Prop) (s : W) (p D : Nat) (ns : List W) : Prop where
  row : ∃ vn, h[X]? = some (.row (prow s (sgn s p).1 p ((p + tl s p : Nat) : Int) D 0 0 (sgn s p).2 vn) true) ∧ OwnG 1 (fun j => F j ∧ j ≠ X) h vn ns.length (ns.map fun w => .string (bs w))
  nb : ns.length ≤ p
  p : p ≤ s.length
  X : F X
  fb : ∀ j, F j → j < h.length
structure PE (h : AH) (X : Nat) (F : Nat → Prop) (s : W) (D : Nat) (e : Int) (a : Nat) : Prop where
  row : ∃ w fr at_ c vn, h[X]? = some (.row (prow s w fr at_ D e a c vn) true) ∧ isSl vn
  e : e ≠ 0
  X : F X
section
variable {h h' : AH} {X : Nat} {F : Nat → Prop} {s : W} {p D : Nat} {ns : List W}
theorem PO.ex (r : PO h X F s p D ns) (x : Ex h h') : PO h' X F s p D ns := by
  obtain ⟨vn, g, o⟩ := r.row
  exact ⟨⟨vn, x.some g, o.mono (fun _ _ h => h) fun j hj _ => x.get j (o.on hj).2⟩, r.nb, r.p, r.X, fun j hj => x.lt (r.fb j hj)⟩
theorem PE.ex {e : Int} {a : Nat} (r : PE h X F s D e a) (x : Ex h h') : PE h' X F s D e a := by
  obtain ⟨w, fr, at_, c, vn, g, o⟩ := r.row
  exact ⟨⟨w, fr, at_, c, vn, x.some g, o⟩, r.e, r.X⟩
theorem Chg.weak {G : Nat → Prop} (c : Chg (At X) h (At X) h') (hF : F X) : Chg F h F h' :=
  ⟨c.len, fun j hj hn => c.get j hj fun e => hn (by have : j = X := e; rw [this]; exact hF), fun j hj => .inl hj⟩
theorem next {K : Value → AH → Prop} (r : PO h X F s p D ns) (hs : s.length ≤ 2000) (k : ∀ h', Chg F h F h' → PO h' X F s (adv s p) D ns → K (.tuple #[]) h') : callW Try.prog 32 [.pointer (some ⟨X, 0, none⟩)] h K := by
  obtain ⟨vn, g, o⟩ := r.row
  refine next32 g hs (tl_le s p r.p) fun h' c g' => ?_
  refine k h' (Chg.weak (G := F) c r.X) ⟨⟨vn, g', o.mono (fun _ _ h => h) fun j hj hF => c.get j (o.on hj).2 hF.2⟩, by have := r.nb; have := (skip_le s (p + tl s p) (tl_le s p r.p)).1; unfold adv; omega, adv_le s p r.p, r.X, fun j hj => Nat.lt_of_lt_of_le (r.fb j hj) c.len⟩
theorem wrongO {K : Value → AH → Prop} {e : Int} (he : e ≠ 0) (r : PO h X F s p D ns) (k : ∀ h', Chg F h F h' → PE h' X F s D e p → K (.tuple #[]) h') : callW Try.prog 37 [.pointer (some ⟨X, 0, none⟩), .int .i64 e] h K := by
  obtain ⟨vn, g, o⟩ := r.row
  refine c37 ?_
  unfold s37
  refine w_nilc (w_offP (w_rdP g (v := .int .i64 0) rfl (w_eql (c_tt rfl ?_))))
  refine w_nilc (w_offP (w_rdP g (v := .int .i64 p) rfl (w_nilc (w_offP (w_stP g (by show 0 + 6 < 9; decide) rfl rfl ?_)))))
  have g1 : (h.set X (.row ((prow s (sgn s p).1 p ((p + tl s p : Nat) : Int) D 0 0 (sgn s p).2 vn).set (0 + 6) (.int .i64 e)) true))[X]? = some (.row (prow s (sgn s p).1 p ((p + tl s p : Nat) : Int) D e 0 (sgn s p).2 vn) true) := get_set _ (lt_of_get g) _
  refine w_nilc (w_offP (w_stP g1 (by show 0 + 7 < 9; decide) rfl rfl ?_))
  exact k _ (Chg.weak (G := F) ((setX _).trans (setX _)) r.X) ⟨⟨_, _, _, _, vn, get_set _ (lt_of_get g1) _, Sl.isSl o.sl⟩, he, r.X⟩
theorem wrongE {K : Value → AH → Prop} {e e' : Int} {a : Nat} (r : PE h X F s D e a) (k : K (.tuple #[]) h) : callW Try.prog 37 [.pointer (some ⟨X, 0, none⟩), .int .i64 e'] h K := by
  obtain ⟨w, fr, at_, c, vn, g, o⟩ := r.row
  refine c37 ?_
  unfold s37
  exact w_nilc (w_offP (w_rdP g (v := .int .i64 e) rfl (w_eql (c_ff r.e k))))
theorem takesO {K : Value → AH → Prop} (r : PO h X F s p D ns) (hs : s.length ≤ 2000) {x : W × UInt8} (k1 : sgn s p = x → ∀ h', Chg F h F h' → PO h' X F s (adv s p) D ns → K (.bool true) h') (k2 : ¬ sgn s p = x → ∀ h', Ex h h' → K (.bool false) h') :
    callW Try.prog 35 [.pointer (some ⟨X, 0, none⟩), .agg (eSg x).toArray] h K := by
  refine c35 ?_
  unfold s35
  refine n_boxv rfl fun h1 x1 l1 g1 => ?_
  have r1 := r.ex x1
  obtain ⟨vn, g, o⟩ := r1.row
  have n0 : ¬ ¬ (0 : Int) = 0 := fun h => h rfl
  have g1' : h1[h.length]? = some (.row (eSg x) true) := g1
  refine w_nilc (w_offP (w_rdP g (v := .int .i64 0) rfl (w_neq ?_)))
  refine gd_ff n0 (gd_ff n0 (w_nilc (gd_ff n0 (w_offP (gd_ff n0 (hist_nil (w_rdPA (n := 2) g (by show 0 + 3 + 2 ≤ 9; decide) ?_)))))))
  refine gd_ff n0 (hist_nil (w_rdPA (n := 2) g1' (by show 0 + 2 ≤ 2; decide) ?_))
  refine gd_ff n0 ?_
  refine w_sgne (a := sgn s p) (b := x) ?_
  refine pk_ff n0 (c_dec (fun q => ?_) (fun q => ?_))
  · exact k2 q h1 x1
  · exact next r1 hs fun h2 c2 r2 => k1 (Decidable.not_not.1 q) h2 ((Chg.ex x1).trans c2) r2
theorem takesE {K : Value → AH → Prop} {e : Int} {a : Nat} {x : W × UInt8} (r : PE h X F s D e a) (k : ∀ h', Ex h h' → K (.bool false) h') :
    callW Try.prog 35 [.pointer (some ⟨X, 0, none⟩), .agg (eSg x).toArray] h K := by
  refine c35 ?_
  unfold s35
  refine n_boxv rfl fun h1 x1 l1 g1 => ?_
  obtain ⟨w, fr, at_, c, vn, g, o⟩ := (r.ex x1).row
  refine w_nilc (w_offP (w_rdP g (v := .int .i64 e) rfl (w_neq ?_)))
  refine gd_ft r.e (gd_ft r.e (gd_ft r.e (gd_ft r.e (gd_ft r.e (gd_ft r.e (pk_tt r.e (c_t (k h1 x1))))))))
theorem mustO {K : Value → AH → Prop} (r : PO h X F s p D ns) (hs : s.length ≤ 2000) {x : W × UInt8} (k1 : sgn s p = x → ∀ h', Chg F h F h' → PO h' X F s (adv s p) D ns → K (.tuple #[]) h') (k2 : ¬ sgn s p = x → ∀ h', Chg F h F h' → PE h' X F s D 1 p → K (.tuple #[]) h') :
    callW Try.prog 33 [.pointer (some ⟨X, 0, none⟩), .agg (eSg x).toArray] h K := by
  refine c33 ?_
  unfold s33
  refine n_boxv rfl fun h1 x1 l1 g1 => ?_
  have g1' : h1[h.length]? = some (.row (eSg x) true) := g1
  refine w_rdPA (n := 2) g1' (by show 0 + 2 ≤ 2; decide) ?_
  refine takesO (x := x) (r.ex x1) hs (fun q h2 c2 r2 => w_notb (c_f ?_)) (fun q h2 x2 => w_notb (c_t ?_))
  · exact k1 q h2 ((Chg.ex x1).trans c2) r2
  · exact wrongO (by decide) (r.ex (x1.trans x2)) fun h3 c3 r3 => k2 q h3 ((Chg.ex (x1.trans x2)).trans c3) r3
theorem mustE {K : Value → AH → Prop} {e : Int} {a : Nat} {x : W × UInt8} (r : PE h X F s D e a) (k : ∀ h', Ex h h' → K (.tuple #[]) h') :
    callW Try.prog 33 [.pointer (some ⟨X, 0, none⟩), .agg (eSg x).toArray] h K := by
  refine c33 ?_
  unfold s33
  refine n_boxv rfl fun h1 x1 l1 g1 => ?_
  have g1' : h1[h.length]? = some (.row (eSg x) true) := g1
  refine w_rdPA (n := 2) g1' (by show 0 + 2 ≤ 2; decide) ?_
  refine takesE (x := x) (r.ex x1) (fun h2 x2 => w_notb (c_t ?_))
  exact wrongE (r.ex (x1.trans x2)) (k h2 (x1.trans x2))
theorem nameO {K : Value → AH → Prop} (r : PO h X F s p D ns) (k1 : isName (sgn s p).1 = true → ∀ h', Ex h h' → K (.string (bs (sgn s p).1)) h') (k2 : isName (sgn s p).1 = false → ∀ h', Chg F h F h' → PE h' X F s D 1 p → K (.string (bs [])) h') :
    callW Try.prog 34 [.pointer (some ⟨X, 0, none⟩)] h K := by
  refine c34 ?_
  unfold s34
  obtain ⟨vn, g, o⟩ := r.row
  refine w_nilc (w_offP (w_offP (w_rdP g (v := .string (bs (sgn s p).1)) rfl (w_sneq ?_))))
  have bad : isName (sgn s p).1 = false → ∀ h1, Ex h h1 → callW Try.prog 37 [.pointer (some ⟨X, 0, none⟩), .int .i64 1] h1 fun v23 h_8 => K (.string (bs [])) h_8 := fun hn h1 x1 => wrongO (by decide) (r.ex x1) fun h3 c3 r3 => k2 hn h3 ((Chg.ex x1).trans c3) r3
  by_cases q : ¬ (sgn s p).1 = []
  · refine g_tt q (g_tt q (w_lenStr (g_tt q (w_leq (pk_tt q ?_)))))
    by_cases q2 : (((sgn s p).1.length : Nat) : Int) ≤ 8
    · refine g_tt q2 (g_tt q2 (key57 fun h1 x1 => g_tt q2 (w_notb (pk_tt q2 ?_))))
      by_cases q3 : (sgn s p).1 ∈ keys
      · rw [decide_eq_true q3]
        exact c_f (bad (by unfold isName; rw [decide_eq_false_iff_not]; exact fun h => h.2.2 q3) h1 x1)
      · rw [decide_eq_false q3]
        exact c_t (k1 (by unfold isName; rw [decide_eq_true_eq]; exact ⟨q, by omega, q3⟩) h1 x1)
    · refine g_tf q2 (g_tf q2 (g_tf q2 (pk_ff q2 (c_f ?_))))
      exact bad (by unfold isName; rw [decide_eq_false_iff_not]; exact fun h => q2 (by have := h.2.1; omega)) h (Ex.refl _)
  · refine g_tf q (g_tf q (g_tf q (pk_ff q ?_)))
    refine gc_tf (gc_tf (gc_tf (pk_f (c_f ?_))))
    exact bad (by unfold isName; rw [decide_eq_false_iff_not]; exact fun h => q h.1) h (Ex.refl _)
end
end Go.Proofs.Ytlenlhlipmkeeaa.W
end

section
/- Schema's laws: models as they lie. Conditions: none. -/
namespace Go.Proofs.Ytlenlhlipmkeeaa.W
open Go Go.AM SchM
set_option linter.unusedVariables false
set_option maxRecDepth 100000
theorem Sl.keepOn {s : Nat} {h h' : AH} {v : Value} {n : Nat} {cs : List Value} (hv : Sl s h v n cs) (hh : ∀ j, onId v j → h'[j]? = h[j]?) : Sl s h' v n cs := by
  obtain ⟨h0, h1⟩ := hv
  refine ⟨h0, ?_⟩
  rcases h1 with h1 | ⟨id, off, cap, e, hc, h3⟩
  · exact .inl h1
  · refine .inr ⟨id, off, cap, e, hc, ?_⟩
    rcases h3 with h3 | ⟨c, w, g, r⟩
    · exact .inl h3
    · subst e
      exact .inr ⟨c, w, (hh id rfl).trans g, r⟩
mutual
def MH (h : AH) (G : Nat → Prop) : Mdl → Value → Prop
  | .mk k n l, v => ∃ a c cs, v = .agg #[.int .i64 k, .string (bs n), .slice a l.length c] ∧ Sl 3 h (.slice a l.length c) l.length cs ∧ (∀ j, onId (.slice a l.length c) j → G j) ∧ ML h G l cs
def ML (h : AH) (G : Nat → Prop) : List Mdl → List Value → Prop
  | [], cs => cs = []
  | m :: l, cs => ∃ x y z rest, cs = x :: y :: z :: rest ∧ MH h G m (.agg #[x, y, z]) ∧ ML h G l rest
end
mutual
theorem MH.mono {h h' : AH} {G G' : Nat → Prop} (hh : ∀ j, G j → h'[j]? = h[j]? ∧ G' j) : ∀ (m : Mdl) (v : Value), MH h G m v → MH h' G' m v
  | .mk k n l, v => by
    intro x
    unfold MH at x ⊢
    obtain ⟨a, c, cs, e, s, g, r⟩ := x
    exact ⟨a, c, cs, e, Sl.keepOn s fun j hj => (hh j (g j hj)).1, fun j hj => (hh j (g j hj)).2, ML.mono hh l cs r⟩
theorem ML.mono {h h' : AH} {G G' : Nat → Prop} (hh : ∀ j, G j → h'[j]? = h[j]? ∧ G' j) : ∀ (l : List Mdl) (cs : List Value), ML h G l cs → ML h' G' l cs
  | [], cs => by
    intro x
    unfold ML at x ⊢
    exact x
  | m :: l, cs => by
    intro x
    unfold ML at x ⊢
    obtain ⟨x, y, z, rest, e, a, b⟩ := x
    exact ⟨x, y, z, rest, e, MH.mono hh m _ a, ML.mono hh l rest b⟩
end
theorem MH.leaf (h : AH) (G : Nat → Prop) (k : Int) (n : W) : MH h G (.mk k n []) (.agg #[.int .i64 k, .string (bs n), .slice none 0 0]) := by
  unfold MH
  exact ⟨none, 0, [], rfl, ⟨rfl, .inl ⟨rfl, rfl⟩⟩, fun j hj => hj.elim, by unfold ML; rfl⟩
theorem MH.shape {h : AH} {G : Nat → Prop} {m : Mdl} {v : Value} (x : MH h G m v) : ∃ k n a l c, v = .agg #[.int .i64 k, .string (bs n), .slice a l c] := by
  obtain ⟨k, n, l⟩ := m
  unfold MH at x
  obtain ⟨a, c, cs, e, _⟩ := x
  exact ⟨k, n, a, _, c, e⟩
theorem ML.snoc {h : AH} {G : Nat → Prop} {m : Mdl} {x y z : Value} (hm : MH h G m (.agg #[x, y, z])) : ∀ (l : List Mdl) (cs : List Value), ML h G l cs → ML h G (l ++ [m]) (cs ++ [x, y, z])
  | [], cs => fun hl => by
    unfold ML at hl
    subst hl
    rw [List.nil_append, List.nil_append]
    unfold ML
    exact ⟨x, y, z, [], rfl, hm, by unfold ML; rfl⟩
  | a :: l, cs => fun hl => by
    unfold ML at hl
    obtain ⟨p, q, r, rest, e, b, c⟩ := hl
    subst e
    rw [List.cons_append]
    unfold ML
    exact ⟨p, q, r, rest ++ [x, y, z], rfl, b, ML.snoc hm l rest c⟩
theorem ML.len {h : AH} {G : Nat → Prop} : ∀ (l : List Mdl) (cs : List Value), ML h G l cs → cs.length = l.length * 3
  | [], cs => fun hl => by unfold ML at hl; subst hl; rfl
  | a :: l, cs => fun hl => by
    unfold ML at hl
    obtain ⟨p, q, r, rest, e, b, c⟩ := hl
    subst e
    have := ML.len l rest c
    simp only [List.length_cons]
    omega
def Wr (h : AH) (j : Nat) : Prop := ∃ c, h[j]? = some (.row c true)
theorem Wr.keep {h h' : AH} {j : Nat} (w : Wr h j) (e : h'[j]? = h[j]?) : Wr h' j := w.elim fun c hc => ⟨c, e.trans hc⟩
theorem ownG_wr {s : Nat} {F : Nat → Prop} {h : AH} {v : Value} {n : Nat} {cs : List Value} (ho : OwnG s F h v n cs) {j : Nat} (hj : onId v j) : Wr h j := by
  obtain ⟨h0, ⟨rfl, rfl⟩ | ⟨id, c, hf, rfl, h1, h2, h3⟩⟩ := ho
  · exact hj.elim
  · have : id = j := hj
    exact ⟨c, this ▸ h1⟩
def Gd (b : Nat) (h : AH) (F : Nat → Prop) (j : Nat) : Prop := b ≤ j ∧ j < h.length ∧ ¬ F j ∧ Wr h j
theorem Gd.chg {b : Nat} {h h' : AH} {F F' : Nat → Prop} (c : Chg F h F' h') (j : Nat) (g : Gd b h F j) : h'[j]? = h[j]? ∧ Gd b h' F' j :=
  ⟨c.get j g.2.1 g.2.2.1, g.1, Nat.lt_of_lt_of_le g.2.1 c.len, fun hf => (c.dom j hf).elim g.2.2.1 fun h => by have := g.2.1; omega, g.2.2.2.keep (c.get j g.2.1 g.2.2.1)⟩
abbrev MG (b : Nat) (h : AH) (F : Nat → Prop) (m : Mdl) (v : Value) : Prop := MH h (Gd b h F) m v
theorem MG.chg {b : Nat} {h h' : AH} {F F' : Nat → Prop} {m : Mdl} {v : Value} (x : MG b h F m v) (c : Chg F h F' h') : MG b h' F' m v := MH.mono (Gd.chg c) m v x
theorem MG.ex {b : Nat} {h h' : AH} {F : Nat → Prop} {m : Mdl} {v : Value} (x : MG b h F m v) (c : Ex h h') : MG b h' F m v := x.chg (Chg.ex c)
theorem MG.low {b b' : Nat} {h : AH} {F : Nat → Prop} {m : Mdl} {v : Value} (x : MG b' h F m v) (hb : b ≤ b') : MG b h F m v := MH.mono (fun j g => ⟨rfl, Nat.le_trans hb g.1, g.2⟩) m v x
def Gs (h : AH) (G : Nat → Prop) (v : Value) (n : Nat) (cs : List Value) : Prop :=
  (∃ i, v = .slice (some ⟨i, 0, none⟩) n n ∧ n = 1 ∧ G i ∧ h[i]? = some (.row cs true) ∧ cs.length = n * 3) ∨ OwnG 3 G h v n cs
theorem Gs.mono {h h' : AH} {G G' : Nat → Prop} {v : Value} {n : Nat} {cs : List Value} (x : Gs h G v n cs) (hh : ∀ j, G j → h'[j]? = h[j]? ∧ G' j) : Gs h' G' v n cs := by
  rcases x with ⟨i, e, n1, g, r, l⟩ | o
  · exact .inl ⟨i, e, n1, (hh i g).2, (hh i g).1.trans r, l⟩
  · exact .inr (o.mono (fun j _ hj => (hh j hj).2) fun j _ hj => (hh j hj).1)
theorem Gs.sl {h : AH} {G : Nat → Prop} {v : Value} {n : Nat} {cs : List Value} (x : Gs h G v n cs) : Sl 3 h v n cs := by
  rcases x with ⟨i, e, n1, g, r, l⟩ | o
  · subst n1
    exact ⟨l, .inr ⟨i, 0, 1, e, .inl ⟨by decide, Nat.le_refl _⟩, .inr ⟨cs, true, r, by omega, by rw [List.drop_zero, ← l, List.take_length]⟩⟩⟩
  · exact o.sl
theorem Gs.on {h : AH} {G : Nat → Prop} {v : Value} {n : Nat} {cs : List Value} (x : Gs h G v n cs) {j : Nat} (hj : onId v j) : G j := by
  rcases x with ⟨i, e, n1, g, r, l⟩ | o
  · subst e
    have : i = j := hj
    subst this
    exact g
  · exact (o.on hj).1
structure LL (b : Nat) (h : AH) (F : Nat → Prop) (v : Value) (l : List Mdl) : Prop where
  ex : ∃ cs, Gs h (Gd b h F) v l.length cs ∧ ML h (fun j => Gd b h F j ∧ ¬ onId v j) l cs
theorem LL.chg {b : Nat} {h h' : AH} {F F' : Nat → Prop} {v : Value} {l : List Mdl} (x : LL b h F v l) (c : Chg F h F' h') : LL b h' F' v l := by
  obtain ⟨cs, g, r⟩ := x.ex
  exact ⟨cs, g.mono (Gd.chg c), ML.mono (fun j hj => ⟨(Gd.chg c j hj.1).1, (Gd.chg c j hj.1).2, hj.2⟩) l cs r⟩
theorem bigR3 : (1000000 : Nat) < room40 := by decide
theorem app_lit {h : AH} {i r n : Nat} {cs cells : List Value} {K : Value → AH → Prop} (g : h[i]? = some (.row cs true)) (l : cs.length = n * 3) (n0 : 0 < n) (hn : n < 1000) (gr : h[r]? = some (.row cells true)) (hl : cells.length = 3)
    (k : K (.slice (some ⟨h.length, 0, none⟩) (n + 1) (openCap + 3)) (h ++ [.row (cs ++ cells) true])) : appSl 3 (.slice (some ⟨i, 0, none⟩) n n) (.slice (some ⟨r, 0, none⟩) 1 1) h K := by
  refine appSl_of (.inl ?_)
  have hsrc := srcL_new (n := 1) (s := 3) (cap := 1) gr (by decide) hl
  have hr : (1000000 : Nat) < room40 := by decide
  have hc : (1000000 : Nat) < openCap := by decide
  have : pAppS 3 (.slice (some ⟨i, 0, none⟩) n n) (.slice (some ⟨r, 0, none⟩) 1 1) h = some (.slice (some ⟨h.length, 0, none⟩) (n + 1) (openCap + 3), h ++ [AObj.row (cs ++ cells) true]) := by
    unfold pAppS
    simp only [hsrc]
    rw [if_pos (by omega), if_pos (by omega)]
    simp only [pAppEx]
    rw [if_neg (by omega)]
    simp [firstL, g, ← l]
  rw [this]
  exact k
theorem Gs.app {b n : Nat} {h0 h : AH} {F0 F : Nat → Prop} {v w : Value} {cs z : List Value} {k' : Int} {n' : W} {a : Option Addr} {ll c : Nat} {Q : List Value → Nat → Value → AH → Prop} (g : Gs h (Gd b h F) v n cs) (hw : w = .agg #[.int .i64 k', .string (bs n'), .slice a ll c]) (hz : z.length = 3) (hn : n < 100000) (hn0 : 0 < n) (c0 : Chg F0 h0 F h) (hb : h0.length ≤ b) (hbh : b ≤ h.length) (hfb : ∀ j, F j → j < h.length)
    (k : ∀ c' j v' h', Chg F0 h0 F h' → (∀ j, j < h.length → ¬ onId v j → h'[j]? = h[j]?) → h.length ≤ h'.length → (∀ j, onId v' j → onId v j ∨ h.length ≤ j) → Gs h' (Gd b h' F) v' (n + 1) (cs ++ [.int .i64 k', .string (bs n'), .slice a ll c]) → Q c' j v' h') :
    optW (bldSl 3 z 1 [(0, w)]) fun c => newW none (.row c true) h fun j h1 => appSl 3 v (.slice (some ⟨j, 0, none⟩) 1 1) h1 fun v' h' => Q c j v' h' := by
  subst hw
  have hbl : bldSl 3 z 1 [(0, .agg #[.int .i64 k', .string (bs n'), .slice a ll c])] = some [.int .i64 k', .string (bs n'), .slice a ll c] := bldSl_one hz (by decide) rfl rfl
  refine w_some hbl ?_
  refine n_newv fun h1 x1 l1 g1 => ?_
  have hlv : ∀ j, onId v j → b ≤ j ∧ j < h.length := fun j hj => ⟨(g.on hj).1, (g.on hj).2.1⟩
  have hfn : ∀ j, h.length ≤ j → ¬ F j := fun j hj hf => by have := hfb j hf; omega
  have mk : ∀ (h' : AH) (v' : Value), h1.length ≤ h'.length → (∀ j, j < h1.length → ¬ onId v j → h'[j]? = h1[j]?) → (∀ j, onId v' j → onId v j ∨ j = h1.length) → Gs h' (Gd b h' F) v' (n + 1) (cs ++ [.int .i64 k', .string (bs n'), .slice a ll c]) → Q [.int .i64 k', .string (bs n'), .slice a ll c] h.length v' h' := fun h' v' hl' hh' hid hg => by
    refine k _ _ v' h' ⟨(by have := c0.len; omega), (fun j hj hjF => ?_), c0.dom⟩ (fun j hj hno => (hh' j (by omega) hno).trans (x1.get j hj)) (by omega) (fun j hj => (hid j hj).imp id (by omega)) hg
    rw [hh' j (by have := c0.len; omega) fun hon => by have := (hlv j hon).1; omega, x1.get j (by have := c0.len; omega)]
    exact c0.get j hj hjF
  rcases g with ⟨i, rfl, n1, gi, ri, li⟩ | o
  · refine app_lit (x1.some ri) li (by omega) (by omega) g1 rfl ?_
    refine mk _ _ (by simp) (fun j hj _ => List.getElem?_append_left hj) (fun j hj => .inr (by have : h1.length = j := hj; omega)) (.inr ⟨by rw [List.length_append, li]; show n * 3 + 3 = (n + 1) * 3; omega, .inr ⟨h1.length, _, ⟨by omega, by simp, hfn _ (by omega), ⟨_, get_new _ _⟩⟩, rfl, get_new _ _, by rw [List.length_append, li]; show (n + 1) * 3 ≤ n * 3 + 3; omega, List.take_of_length_le (by rw [List.length_append, li]; show n * 3 + 3 ≤ (n + 1) * 3; omega)⟩⟩)
  · refine appSl_of ?_
    have o1 := o.mono (F' := Gd b h F) (h' := h1) (fun _ _ h => h) fun j hj _ => x1.get j (hlv j hj).2
    refine app_g (by decide) o1 (srcL_new (n := 1) (s := 3) g1 (by decide) rfl) rfl (by have := bigR3; omega) fun v' h' a1 a2 a3 a4 => ?_
    refine mk h' v' a2 a3 a4 (.inr (a1.mono (fun j hj hF => ?_) fun _ _ _ => rfl))
    have hj' := (a1.on hj).2
    rcases hF with hF | rfl
    · exact ⟨hF.1, by omega, hF.2.2.1, ownG_wr a1 hj⟩
    · exact ⟨by omega, hj', hfn _ (by omega), ownG_wr a1 hj⟩
theorem LL.app {b : Nat} {h0 h : AH} {F0 F : Nat → Prop} {v w : Value} {l : List Mdl} {m : Mdl} {z : List Value} {Q : List Value → Nat → Value → AH → Prop} (x : LL b h F v l) (hm : MH h (fun j => Gd b h F j ∧ ¬ onId v j) m w) (hz : z.length = 3) (hn : l.length < 100000) (hl0 : 0 < l.length) (c0 : Chg F0 h0 F h) (hb : h0.length ≤ b) (hbh : b ≤ h.length) (hfb : ∀ j, F j → j < h.length)
    (k : ∀ c j v' h', Chg F0 h0 F h' → (∀ j, j < h.length → ¬ onId v j → h'[j]? = h[j]?) → h.length ≤ h'.length → LL b h' F v' (l ++ [m]) → Q c j v' h') :
    optW (bldSl 3 z 1 [(0, w)]) fun c => newW none (.row c true) h fun j h1 => appSl 3 v (.slice (some ⟨j, 0, none⟩) 1 1) h1 fun v' h' => Q c j v' h' := by
  obtain ⟨cs, g, r⟩ := x.ex
  obtain ⟨k', n', a, ll, c, rfl⟩ := hm.shape
  refine g.app rfl hz hn hl0 c0 hb hbh hfb fun c' j v' h' c1 same len ids g' => k _ _ _ _ c1 same len ⟨⟨cs ++ [.int .i64 k', .string (bs n'), .slice a ll c], ?_, ?_⟩⟩
  · have elm : (l ++ [m]).length = l.length + 1 := by simp
    rw [elm]
    exact g'
  · have up : ∀ j, Gd b h F j ∧ ¬ onId v j → h'[j]? = h[j]? ∧ Gd b h' F j ∧ ¬ onId v' j := fun j hj => ⟨same j hj.1.2.1 hj.2, ⟨hj.1.1, by have := hj.1.2.1; omega, hj.1.2.2.1, hj.1.2.2.2.keep (same j hj.1.2.1 hj.2)⟩, fun hon => (ids j hon).elim hj.2 fun e => by have := hj.1.2.1; omega⟩
    exact ML.snoc (MH.mono up m _ hm) l cs (ML.mono up l cs r)
theorem MH.one {h : AH} {G : Nat → Prop} {k : Int} {m : Mdl} {x y z : Value} {i : Nat} (hm : MH h G m (.agg #[x, y, z])) (gi : h[i]? = some (.row [x, y, z] true)) (Gi : G i) : MH h G (.mk k [] [m]) (.agg #[.int .i64 k, .string (bs []), .slice (some ⟨i, 0, none⟩) 1 1]) := by
  unfold MH
  refine ⟨some ⟨i, 0, none⟩, 1, [x, y, z], rfl, ⟨rfl, .inr ⟨i, 0, 1, rfl, .inl ⟨by decide, Nat.le_refl _⟩, .inr ⟨[x, y, z], true, gi, Nat.le_refl 3, rfl⟩⟩⟩, fun j hj => by have : i = j := hj; rw [← this]; exact Gi, ?_⟩
  unfold ML
  exact ⟨x, y, z, [], rfl, hm, by unfold ML; rfl⟩
end Go.Proofs.Ytlenlhlipmkeeaa.W
end

section
/- Schema's laws: the program's reader: an atom. Conditions: none. -/
namespace Go.Proofs.Ytlenlhlipmkeeaa.W
open Go Go.AM SchM
set_option linter.unusedVariables false
set_option maxRecDepth 100000
def isMv (v : Value) : Prop := ∃ k n a l c, v = .agg #[.int .i64 k, .string (bs n), .slice a l c]
theorem res59 (n : Nat) (e : Env) (h : AH) : resList Try.prog e h [.cell n 59] = (rdRow true 3 (e n) h).map fun v => [v] := by
  have h2 : ∀ x, pLoad Try.prog 59 x h = rdRow true 3 x h := fun x => by kernel_rfl
  show (match pLoad Try.prog 59 (e n) h with
    | some v => match resList Try.prog e h [] with
      | some vs => some (v :: vs)
      | none => none
    | none => none) = _
  rw [h2]
  cases rdRow true 3 (e n) h <;> rfl
theorem endM {E : Env} {rs : List ResultVar} {n r : Nat} {h : AH} {c : List Value} {v : Value} {K : Value → AH → Prop} (hr : rs = [.cell n 59]) (hE : E n = .pointer (some ⟨r, 0, none⟩)) (g : h[r]? = some (.row c true)) (hc : c.length = 3) (hv : isMv v) (k : ∀ o, K v (h.set r o)) :
    optW (pStore 3 (.pointer (some ⟨r, 0, none⟩)) v h) fun h' => optW (resList Try.prog E h' rs) fun vs => K (resOf vs) h' := by
  obtain ⟨k', n', a, l, cc, rfl⟩ := hv
  refine w_stPA g rfl (by omega) rfl ?_
  have g2 : (h.set r (.row (spliceL c 0 (cellsL (.agg #[.int .i64 k', .string (bs n'), .slice a l cc]))) true))[r]? = some (.row [.int .i64 k', .string (bs n'), .slice a l cc] true) := by
    rw [get_set _ (lt_of_get g)]
    match c, hc with
    | [x, y, z], _ => rfl
  rw [hr, res59, hE]
  refine w_some (v := [Value.agg #[.int .i64 k', .string (bs n'), .slice a l cc]]) ?_ (show K (.agg #[.int .i64 k', .string (bs n'), .slice a l cc]) _ from k _)
  have e := hopt (o := rdRow true 3 (.pointer (some ⟨r, 0, none⟩)) _) (w_rdPA g2 (Nat.le_refl 3) rfl)
  rw [e]
  rfl
theorem clip91 {h : AH} {v : Value} {n : Nat} {cs : List Value} {K : Value → AH → Prop} (hv : Sl 3 h v n cs) (hn : n ≤ 100000) (k : ∀ a, Sl 3 h (.slice a n n) n cs → (∀ j, onId (.slice a n n) j → onId v j) → K (.slice a n n) h) : callW Try.prog 91 [v] h K := by
  refine c91 ?_
  unfold s91
  have hc : (1000000 : Nat) < openCap := by decide
  rcases hv.2 with ⟨rfl, rfl⟩ | ⟨id, off, cap, rfl, hcap, h3⟩
  · refine w_lenSl (w_lenSl (w_some (v := .slice none 0 0) ?_ (k none hv fun j hj => hj)))
    unfold pSliceSl
    dsimp only
    rw [if_pos (by omega)]
    rfl
  · refine w_lenSl (w_lenSl (w_some (v := .slice (some ⟨id, off, none⟩) n n) ?_ (k _ ⟨hv.1, .inr ⟨id, off, n, rfl, .inl ⟨by omega, Nat.le_refl _⟩, h3⟩⟩ fun j hj => hj)))
    unfold pSliceSl
    dsimp only
    have e1 : pSliceB (some (.int .i64 (n : Nat))) n 0 = some n := by
      unfold pSliceB
      dsimp only
      rw [if_pos ⟨by omega, by omega⟩, Int.toNat_natCast]
    have e3 : pSliceEx 3 (some ⟨id, off, none⟩) n n none (some (.int .i64 (n : Nat))) = some (.slice (some ⟨id, off, none⟩) n n) := by
      unfold pSliceEx
      have e4 : pSliceB (some (.int .i64 (n : Nat))) n n = some n := by
        unfold pSliceB
        dsimp only
        rw [if_pos ⟨by omega, by omega⟩, Int.toNat_natCast]
      rw [e4]
      show some (Value.slice (if n = 0 then _ else _) (n - 0) (n - 0)) = _
      rw [Nat.sub_zero]
      by_cases n0 : n = 0
      · rw [if_pos n0]
      · rw [if_neg n0]
        simp
    rcases hcap with hcap | hcap
    · rw [if_pos hcap.1]
      have e2 : pSliceB (some (.int .i64 (n : Nat))) cap cap = some n := by
        unfold pSliceB
        dsimp only
        rw [if_pos ⟨by omega, by have := hcap.2; omega⟩, Int.toNat_natCast]
      rw [e2]
      exact e3
    · rw [if_neg (by omega), if_pos hcap, e1]
      exact e3
theorem _root_.Go.AM.Chg.setNew {F F' : Nat → Prop} {h h' : AH} {i : Nat} (c : Chg F h F' h') (hi : h.length ≤ i) (o : AObj) : Chg F h F' (h'.set i o) :=
  ⟨by rw [List.length_set]; exact c.len, fun j hj hn => (get_ne (by omega) _).trans (c.get j hj hn), c.dom⟩
theorem PO.setNew {h : AH} {X : Nat} {F : Nat → Prop} {s : W} {p D : Nat} {ns : List W} {i : Nat} (r : PO h X F s p D ns) (hi : ¬ F i) (o : AObj) : PO (h.set i o) X F s p D ns := by
  obtain ⟨vn, g, ow⟩ := r.row
  have hX : i ≠ X := fun e => hi (by rw [e]; exact r.X)
  exact ⟨⟨vn, (get_ne hX _).trans g, ow.mono (fun _ _ h => h) fun j hj hF => get_ne (fun e => hi (by rw [e]; exact hF.1)) _⟩, r.nb, r.p, r.X, fun j hj => by rw [List.length_set]; exact r.fb j hj⟩
theorem PE.setNew {h : AH} {X : Nat} {F : Nat → Prop} {s : W} {D : Nat} {e : Int} {a : Nat} {i : Nat} (r : PE h X F s D e a) (hX : i ≠ X) (o : AObj) : PE (h.set i o) X F s D e a := by
  obtain ⟨w, fr, at_, c, vn, g, ow⟩ := r.row
  exact ⟨⟨w, fr, at_, c, vn, (get_ne hX _).trans g, ow⟩, r.e, r.X⟩
theorem MG.setNew {b : Nat} {h : AH} {F : Nat → Prop} {m : Mdl} {v : Value} {i : Nat} (x : MG b h F m v) (hi : ¬ Gd b h F i) (o : AObj) : MG b (h.set i o) F m v :=
  MH.mono (fun j g => ⟨get_ne (fun e => hi (by rw [e]; exact g)) _, g.1, by rw [List.length_set]; exact g.2.1, g.2.2.1, g.2.2.2.keep (get_ne (fun e => hi (by rw [e]; exact g)) _)⟩) m v x
theorem several73 {b : Nat} {h : AH} {F : Nat → Prop} {v : Value} {l : List Mdl} {k : Int} {K : Value → AH → Prop} (L : LL b h F v l) (h0 : 0 < l.length) (hn : l.length ≤ 100000)
    (kk : ∀ v' h', Ex h h' → MG b h' F (several k l) v' → K v' h') : callW Try.prog 73 [.int .i64 k, v] h K := by
  refine c73 ?_
  unfold s73
  refine n_rowv fun h1 x1 l1 g1 => ?_
  obtain ⟨cs, g, r⟩ := L.ex
  have sl := g.sl.ex x1
  obtain ⟨a, cap, rfl⟩ := sl.shape
  have g1' : h1[h.length]? = some (.row [(.int .i64 0), (.string (bs [])), (.slice none 0 0)] true) := g1
  have up : ∀ (o : AObj) j, Gd b h F j ∧ ¬ onId (.slice a l.length cap) j → (h1.set h.length o)[j]? = h[j]? ∧ Gd b (h1.set h.length o) F j := fun o j gj => ⟨(get_ne (by have := gj.1.2.1; omega) _).trans (x1.get j gj.1.2.1), gj.1.1, by rw [List.length_set]; exact x1.lt gj.1.2.1, gj.1.2.2.1, gj.1.2.2.2.keep ((get_ne (by have := gj.1.2.1; omega) _).trans (x1.get j gj.1.2.1))⟩
  refine w_lenSl (w_eql (c_dec (fun q => ?_) (fun q => ?_)))
  · obtain ⟨m, rfl⟩ : ∃ m, l = [m] := by
      match l, h0, q with
      | [m], _, _ => exact ⟨m, rfl⟩
      | _ :: _ :: l, _, q => simp at q; omega
    unfold ML at r
    obtain ⟨x, y, z, rest, rfl, hm, hr⟩ := r
    unfold ML at hr
    subst hr
    refine w_idx sl (by omega) (by show (0 : Int) < ((1 : Nat) : Int); omega) fun p hp => ?_
    have hp' : PtrTo h1 p [x, y, z] := hp
    refine w_rdA hp' rfl ?_
    refine endM (n := 4) (by kernel_rfl) rfl g1' rfl hm.shape fun o => ?_
    exact kk _ _ (x1.set (Nat.le_refl _) o) (MH.mono (up o) m _ hm)
  · refine clip91 sl hn fun a' sl' on' => ?_
    refine w_some (v := .agg #[.int .i64 k, .string (bs []), .slice a' l.length l.length]) rfl ?_
    refine endM (n := 4) (by kernel_rfl) rfl g1' rfl ⟨_, _, _, _, _, rfl⟩ fun o => ?_
    refine kk _ _ (x1.set (Nat.le_refl _) o) ?_
    have es : several k l = .mk k [] l := by
      unfold several
      split
      · simp at q
      · rfl
    rw [es]
    show MH _ _ _ _
    unfold MH
    refine ⟨a', l.length, cs, rfl, Sl.keepOn sl' fun j hj => ?_, fun j hj => ?_, ML.mono (up o) l cs r⟩
    · have := g.on (on' j hj)
      exact get_ne (by have := this.2.1; omega) _
    · have := g.on (on' j hj)
      exact ⟨this.1, by rw [List.length_set]; exact x1.lt this.2.1, this.2.2.1, this.2.2.2.keep ((get_ne (by have := this.2.1; omega) _).trans (x1.get j this.2.1))⟩
def Spec (X : Nat) (s : W) (f : FuncId) (D lo : Nat) (Rf : Nat → R Mdl) : Prop :=
  ∀ (h : AH) (F : Nat → Prop) (p : Nat) (ns : List W) (K : Value → AH → Prop), lo ≤ p → PO h X F s p D ns →
    (∀ v h' F' m q, Rf p = .ok m q → Chg F h F' h' → PO h' X F' s q D (ns ++ nms m) → MG h.length h' F' m v → K v h') →
    (∀ v h' F' e a, Rf p = .bad e a → Chg F h F' h' → PE h' X F' s D e a → (∀ j, F' j → j < h'.length) → isMv v → K v h') → callW Try.prog f [.pointer (some ⟨X, 0, none⟩)] h K
theorem deepO {h : AH} {X : Nat} {F : Nat → Prop} {s : W} {p D : Nat} {ns : List W} {op : BinOp} {D' : Nat} {K : Value → Value → Value → Value → Value → Value → AH → Prop} (r : PO h X F s p D ns) (ho : ∀ (K : Value → Prop), K (.int .i64 (D' : Nat)) → optW (pBin Try.prog op 3 (.int .i64 (D : Nat)) (.int .i64 1)) K) (k : ∀ h', Chg F h F h' → PO h' X F s p D' ns → ∀ a1 a2 a3 a4 a5 a6, K a1 a2 a3 a4 a5 a6 h') :
    optW (pNilCheck (.pointer (some ⟨X, 0, none⟩))) fun v38 => optW (pOff 5 v38) fun v39 => optW (rdRow false 1 v39 h) fun v40 => optW (pBin Try.prog op 3 v40 (.int .i64 1)) fun v41 => optW (pNilCheck (.pointer (some ⟨X, 0, none⟩))) fun v42 => optW (pOff 5 v42) fun v43 => optW (pStore 1 v43 v41 h) fun h' => K v38 v39 v40 v41 v42 v43 h' := by
  obtain ⟨vn, g, o⟩ := r.row
  refine w_nilc (w_offP (w_rdP g (v := .int .i64 D) rfl (ho _ (w_nilc (w_offP (w_stP g (by show 0 + 5 < 9; decide) rfl rfl ?_))))))
  exact k _ (Chg.weak (G := F) (setX _) r.X) ⟨⟨vn, get_set _ (lt_of_get g) _, o.mono (fun _ _ h => h) fun j hj hF => get_ne (Ne.symm hF.2) _⟩, r.nb, r.p, r.X, fun j hj => by rw [List.length_set]; exact r.fb j hj⟩ _ _ _ _ _ _
theorem deepE {h : AH} {X : Nat} {F : Nat → Prop} {s : W} {D : Nat} {e : Int} {b : Nat} {op : BinOp} {D' : Nat} {K : Value → Value → Value → Value → Value → Value → AH → Prop} (r : PE h X F s D e b) (ho : ∀ (K : Value → Prop), K (.int .i64 (D' : Nat)) → optW (pBin Try.prog op 3 (.int .i64 (D : Nat)) (.int .i64 1)) K) (k : ∀ h', h'.length = h.length → Chg F h F h' → PE h' X F s D' e b → ∀ a1 a2 a3 a4 a5 a6, K a1 a2 a3 a4 a5 a6 h') :
    optW (pNilCheck (.pointer (some ⟨X, 0, none⟩))) fun v38 => optW (pOff 5 v38) fun v39 => optW (rdRow false 1 v39 h) fun v40 => optW (pBin Try.prog op 3 v40 (.int .i64 1)) fun v41 => optW (pNilCheck (.pointer (some ⟨X, 0, none⟩))) fun v42 => optW (pOff 5 v42) fun v43 => optW (pStore 1 v43 v41 h) fun h' => K v38 v39 v40 v41 v42 v43 h' := by
  obtain ⟨w, fr, at_, c, vn, g, o⟩ := r.row
  refine w_nilc (w_offP (w_rdP g (v := .int .i64 D) rfl (ho _ (w_nilc (w_offP (w_stP g (by show 0 + 5 < 9; decide) rfl rfl ?_))))))
  exact k _ (by simp) (Chg.weak (G := F) (setX _) r.X) ⟨⟨w, fr, at_, c, vn, get_set _ (lt_of_get g) _, o⟩, r.e, r.X⟩ _ _ _ _ _ _
end Go.Proofs.Ytlenlhlipmkeeaa.W
end

section
/- Schema's laws: the program's reader: an atom. Conditions: none. -/
namespace Go.Proofs.Ytlenlhlipmkeeaa.W
open Go Go.AM SchM
set_option linter.unusedVariables false
set_option maxRecDepth 100000
theorem nmsLeaf {k : Int} (hk : k ≠ 4) (n : W) (ns : List W) : ns ++ nms (.mk k n []) = ns := by simp [nms, nmsL, hk]
theorem add1 {D : Nat} (hD : D ≤ 1000) (K : Value → Prop) (k : K (.int .i64 ((D + 1 : Nat) : Int))) : optW (pBin Try.prog .add 3 (.int .i64 (D : Nat)) (.int .i64 1)) K := w_add (by omega) (by omega) k
theorem sub1 {D : Nat} (hD : D ≤ 1000) (K : Value → Prop) (k : K (.int .i64 (D : Nat))) : optW (pBin Try.prog .sub 3 (.int .i64 ((D + 1 : Nat) : Int)) (.int .i64 1)) K := by
  refine w_sub (by omega) (by omega) ?_
  have e : ((D + 1 : Nat) : Int) - 1 = (D : Nat) := by omega
  rw [e]
  exact k
theorem bigR1 : (1000000 : Nat) < room40 := by decide
theorem appName {h : AH} {X : Nat} {F : Nat → Prop} {s w : W} {p D : Nat} {ns : List W} {vn z : Value} {Q : List Value → Nat → Value → Value → Value → Value → AH → Prop} (hs : s.length ≤ 2000) (r : PO h X F s p D ns) (hne : sgn s p ≠ ([], 0)) (g : h[X]? = some (.row (prow s (sgn s p).1 p ((p + tl s p : Nat) : Int) D 0 0 (sgn s p).2 vn) true)) (o : OwnG 1 (fun j => F j ∧ j ≠ X) h vn ns.length (ns.map fun w => .string (bs w)))
    (k : ∀ h' F', Chg F h F' h' → PO h' X F' s (adv s p) D (ns ++ [w]) → ∀ a1 a2 a3 a4 a5 a6, Q a1 a2 a3 a4 a5 a6 h') :
    optW (bldSl 1 [z] 1 [(0, .string (bs w))]) fun c => newW none (.row c true) h fun i h_19 => appSl 1 vn (.slice (some ⟨i, 0, none⟩) 1 1) h_19 fun v71 h_20 => optW (pNilCheck (.pointer (some ⟨X, 0, none⟩))) fun v72 => optW (pOff 8 v72) fun v73 => optW (pStore 1 v73 v71 h_20) fun h_21 => callW Try.prog 32 [.pointer (some ⟨X, 0, none⟩)] h_21 fun v75 h_22 => Q c i v71 v72 v73 v75 h_22 := by
  have nb := r.nb
  have rp := r.p
  refine w_some (bldSl_one (v := .string (bs w)) rfl (by decide) rfl rfl) ?_
  refine n_newv fun h6 x6 l6 g6 => appSl_of ?_
  have o6 := o.mono (F' := fun j => F j ∧ j ≠ X) (h' := h6) (fun _ _ h => h) fun j hj _ => x6.get j (o.on hj).2
  refine app_g (by decide) o6 (srcL_new (n := 1) (s := 1) g6 (by decide) rfl) rfl (by have := bigR1; omega) fun v' h7 a1 a2 a3 a4 => ?_
  have lX := r.fb X r.X
  have g7 : h7[X]? = some (.row (prow s (sgn s p).1 p ((p + tl s p : Nat) : Int) D 0 0 (sgn s p).2 vn) true) := (a3 X (by omega) (fun hon => (o6.on hon).1.2 rfl)).trans (x6.some g)
  obtain ⟨sa, sn, sc, rfl⟩ := Sl.isSl a1.sl
  refine w_nilc (w_offP (w_stP g7 (by show 0 + 8 < 9; decide) rfl rfl ?_))
  have g8 : (h7.set X (.row ((prow s (sgn s p).1 p ((p + tl s p : Nat) : Int) D 0 0 (sgn s p).2 vn).set (0 + 8) (.slice sa sn sc)) true))[X]? = some (.row (prow s (sgn s p).1 p ((p + tl s p : Nat) : Int) D 0 0 (sgn s p).2 (.slice sa sn sc)) true) := get_set _ (lt_of_get g7) _
  have n8 : ∀ j, j ≠ X → (h7.set X (.row ((prow s (sgn s p).1 p ((p + tl s p : Nat) : Int) D 0 0 (sgn s p).2 vn).set (0 + 8) (.slice sa sn sc)) true))[j]? = h7[j]? := fun j hj => get_ne (Ne.symm hj) _
  have l8 : (h7.set X (.row ((prow s (sgn s p).1 p ((p + tl s p : Nat) : Int) D 0 0 (sgn s p).2 vn).set (0 + 8) (.slice sa sn sc)) true)).length = h7.length := by simp
  generalize h7.set X (.row ((prow s (sgn s p).1 p ((p + tl s p : Nat) : Int) D 0 0 (sgn s p).2 vn).set (0 + 8) (.slice sa sn sc)) true) = h8 at g8 n8 l8 ⊢
  refine next32 g8 hs (tl_le s p rp) fun h9 c9 g9 => ?_
  refine k h9 (fun j => (F j ∨ j = h6.length) ∧ j < h9.length) ⟨by have := c9.len; omega, fun j hj hn => ?_, fun j hj => hj.1.imp id (by omega)⟩ ⟨⟨_, g9, ?_⟩, ?_, adv_le s p rp, ⟨.inl r.X, by have := c9.len; omega⟩, fun j hj => hj.2⟩ _ _ _ _ _ _
  · have hX : j ≠ X := fun e => hn (by rw [e]; exact r.X)
    refine (c9.get j (by omega) hX).trans ((n8 j hX).trans ((a3 j (by omega) fun hon => hn (o6.on hon).1.1).trans (x6.get j hj)))
  · have e1 : (ns ++ [w]).length = ns.length + 1 := by simp
    have e2 : (ns ++ [w]).map (fun w => Value.string (bs w)) = (ns.map fun w => .string (bs w)) ++ [.string (bs w)] := by simp
    rw [e1, e2]
    refine a1.mono (fun j hj hF => ?_) fun j hj hF => ?_
    · have hj' := (a1.on hj).2
      rcases hF with hF | rfl
      · exact ⟨⟨.inl hF.1, by have := c9.len; omega⟩, hF.2⟩
      · exact ⟨⟨.inr rfl, by have := c9.len; omega⟩, by omega⟩
    · have hX : j ≠ X := by
        rcases hF with hF | rfl
        · exact hF.2
        · omega
      exact (c9.get j (by have := (a1.on hj).2; omega) hX).trans (n8 j hX)
  · have := adv_gt rp hne
    simp
    omega
set_option maxHeartbeats 1000000 in
theorem atom97 {X : Nat} {s : W} {D lo : Nat} {O : Nat → Nat → R Mdl} (hs : s.length ≤ 2000) (hD : D ≤ 20) (hO : Spec X s 58 (D + 1) (lo + 1) (O (D + 1)) ∨ 20 ≤ D) : Spec X s 97 D lo (atom s O D) := by
  intro h F p ns K hp r k1 k2
  refine c97 ?_
  unfold s97
  refine n_rowv fun h1 x1 l1 g1 => ?_
  have nF : ∀ F' : Nat → Prop, (∀ j, F' j → F j ∨ h.length + 1 ≤ j) → ¬ F' h.length := fun F' hd hf => (hd _ hf).elim (fun hf => by have := r.fb _ hf; omega) (by omega)
  have r1 := r.ex x1
  have cx := Chg.ex (F := F) x1
  have fin : ∀ (E : Env) (h' : AH) (F' : Nat → Prop) (v : Value) (m : Mdl) (q : Nat), E 2 = .pointer (some ⟨h.length, 0, none⟩) → Chg F h1 F' h' → PO h' X F' s q D (ns ++ nms m) → MG h1.length h' F' m v → atom s O D p = .ok m q →
      optW (pStore 3 (.pointer (some ⟨h.length, 0, none⟩)) v h') fun h'' => optW (resList Try.prog E h'' Try.f97.results.toList) fun vs => K (resOf vs) h'' := fun E h' F' v m q hE c' r' mv ha => by
    have g' : h'[h.length]? = some (.row [(.int .i64 0), (.string (bs [])), (.slice none 0 0)] true) := (c'.get _ (by omega) (nF F fun j hj => .inl hj)).trans g1
    refine endM (n := 2) (by kernel_rfl) hE g' rfl mv.shape fun o => ?_
    have nf' := nF F' fun j hj => (c'.dom j hj).imp id (by omega)
    refine k1 v _ F' m q ha ((cx.trans c').setNew (Nat.le_refl _) o) (r'.setNew nf' o) ?_
    exact (mv.setNew (fun hg => by have := hg.1; omega) o).low (by omega)
  have finE : ∀ (E : Env) (h' : AH) (F' : Nat → Prop) (v : Value) (e : Int) (a : Nat), E 2 = .pointer (some ⟨h.length, 0, none⟩) → Chg F h1 F' h' → PE h' X F' s D e a → (∀ j, F' j → j < h'.length) → isMv v → atom s O D p = .bad e a →
      optW (pStore 3 (.pointer (some ⟨h.length, 0, none⟩)) v h') fun h'' => optW (resList Try.prog E h'' Try.f97.results.toList) fun vs => K (resOf vs) h'' := fun E h' F' v e a hE c' r' fb mv ha => by
    have g' : h'[h.length]? = some (.row [(.int .i64 0), (.string (bs [])), (.slice none 0 0)] true) := (c'.get _ (by omega) (nF F fun j hj => .inl hj)).trans g1
    refine endM (n := 2) (by kernel_rfl) hE g' rfl mv fun o => ?_
    have nf' := nF F' fun j hj => (c'.dom j hj).imp id (by omega)
    exact k2 v _ F' e a ha ((cx.trans c').setNew (Nat.le_refl _) o) (r'.setNew (fun e => nf' (by rw [e]; exact r'.X)) o) (fun j hj => by rw [List.length_set]; exact fb j hj) mv
  refine w_some (v := .agg (eSg (wEmpty, 0)).toArray) rfl ?_
  refine takesO (x := (wEmpty, 0)) r1 hs (fun q h2 c2 r2 => c_t ?_) (fun q h2 x2 => c_f ?_)
  · refine w_some (v := .agg #[.int .i64 1, .string (bs []), .slice none 0 0]) rfl ?_
    exact fin _ _ F _ (.mk 1 [] []) (adv s p) rfl c2 (by rw [nmsLeaf (by decide)]; exact r2) (MH.leaf _ _ _ _) (by unfold atom; rw [if_pos q])
  refine w_some (v := .agg (eSg (wAny, 0)).toArray) rfl ?_
  refine takesO (x := (wAny, 0)) (r1.ex x2) hs (fun q' h3 c3 r3 => c_t ?_) (fun q' h3 x3 => c_f ?_)
  · refine w_some (v := .agg #[.int .i64 2, .string (bs []), .slice none 0 0]) rfl ?_
    exact fin _ _ F _ (.mk 2 [] []) (adv s p) rfl ((Chg.ex x2).trans c3) (by rw [nmsLeaf (by decide)]; exact r3) (MH.leaf _ _ _ _) (by unfold atom; rw [if_neg q, if_pos q'])
  refine w_some (v := .agg (eSg (wText, 0)).toArray) rfl ?_
  refine takesO (x := (wText, 0)) (r1.ex (x2.trans x3)) hs (fun q'' h4 c4 r4 => c_t ?_) (fun q'' h4 x4 => c_f ?_)
  · refine w_some (v := .agg #[.int .i64 3, .string (bs []), .slice none 0 0]) rfl ?_
    exact fin _ _ F _ (.mk 3 [] []) (adv s p) rfl ((Chg.ex (x2.trans x3)).trans c4) (by rw [nmsLeaf (by decide)]; exact r4) (MH.leaf _ _ _ _) (by unfold atom; rw [if_neg q, if_neg q', if_pos q''])
  have x14 := (x2.trans x3).trans x4
  have r4 := r1.ex x14
  have c14 := Chg.ex (F := F) x14
  have at0 : atom s O D p = if sgn s p = ([], 40) then
      if 20 ≤ D then .bad 3 p
      else match O (D + 1) (adv s p) with
        | .bad e a => .bad e a
        | .ok m q => if sgn s q = ([], 41) then .ok m (adv s q) else .bad 1 q
    else if isName (sgn s p).1 = true then .ok (.mk 4 (sgn s p).1 []) (adv s p)
    else .bad 1 p := by
    rw [atom, if_neg q, if_neg q', if_neg q'']
    rfl
  obtain ⟨vn, g4, o4⟩ := r4.row
  refine w_nilc (w_offP (w_rdPA (n := 2) g4 (by show 0 + 3 + 2 ≤ 9; decide) ?_))
  refine w_some (v := .agg (eSg ([], 40)).toArray) rfl ?_
  refine w_sgeq (a := sgn s p) (b := ([], 40)) ?_
  refine c_dec (fun q4 => ?_) (fun q4 => ?_)
  · rw [if_pos q4] at at0
    refine w_nilc (w_offP (w_rdP g4 (v := .int .i64 D) rfl (w_geq (c_dec (fun qd => ?_) (fun qd => ?_)))))
    · rw [if_pos (by omega)] at at0
      refine wrongO (by decide) r4 fun h5 c5 r5 => ?_
      refine w_some (v := .agg #[.int .i64 0, .string (bs []), .slice none 0 0]) rfl ?_
      exact finE _ _ F _ 3 p rfl (c14.trans c5) r5 (fun j hj => Nat.lt_of_lt_of_le (r4.fb j hj) c5.len) ⟨_, [], _, _, _, rfl⟩ at0
    · rw [if_neg (by omega)] at at0
      have hO' := hO.resolve_right (by omega)
      refine next r4 hs fun h5 c5 r5 => ?_
      refine deepO (D' := D + 1) r5 (fun K => add1 (by omega) K) fun h6 c6 r6 _ _ _ _ _ _ => ?_
      have c16 := (c14.trans c5).trans c6
      refine hO' h6 F (adv s p) ns _ (by have := adv_gt r.p (by rw [q4]; decide); omega) r6 (fun v h7 F7 m q5 hm c7 r7 m7 => ?_) (fun v h7 F7 e a hm c7 r7 fb7 m7 => ?_)
      · rw [hm] at at0
        dsimp only at at0
        refine n_rowv fun h8 x8 l8 g8 => ?_
        obtain ⟨k', n', a', l', cc, ev⟩ := m7.shape
        have r8 := r7.ex x8
        have c18 := (c16.trans c7).trans (Chg.ex x8)
        have nF7 : ¬ F7 h7.length := fun hf => by have := r7.fb _ hf; omega
        subst ev
        refine w_stPA g8 rfl (by decide) rfl ?_
        have g9 : (h8.set h7.length (.row (spliceL [(.int .i64 0), (.string (bs [])), (.slice none 0 0)] 0 (cellsL (.agg #[.int .i64 k', .string (bs n'), .slice a' l' cc]))) true))[h7.length]? = some (.row [.int .i64 k', .string (bs n'), .slice a' l' cc] true) := get_set _ (lt_of_get g8) _
        have r9 := r8.setNew nF7 (.row (spliceL [(.int .i64 0), (.string (bs [])), (.slice none 0 0)] 0 (cellsL (.agg #[.int .i64 k', .string (bs n'), .slice a' l' cc]))) true)
        have m9 := (m7.ex x8)
        have m9' : MG h6.length (h8.set h7.length (.row (spliceL [(.int .i64 0), (.string (bs [])), (.slice none 0 0)] 0 (cellsL (.agg #[.int .i64 k', .string (bs n'), .slice a' l' cc]))) true)) F7 m (.agg #[.int .i64 k', .string (bs n'), .slice a' l' cc]) := MH.mono (fun j gj => ⟨(get_ne (by have := gj.2.1; omega) _).trans (x8.get j gj.2.1), gj.1, by rw [List.length_set]; exact x8.lt gj.2.1, gj.2.2.1, gj.2.2.2.keep ((get_ne (by have := gj.2.1; omega) _).trans (x8.get j gj.2.1))⟩) m _ m7
        have c19 := c18.setNew (i := h7.length) (by have := (c16.trans c7).len; omega) (.row (spliceL [(.int .i64 0), (.string (bs [])), (.slice none 0 0)] 0 (cellsL (.agg #[.int .i64 k', .string (bs n'), .slice a' l' cc]))) true)
        generalize h8.set h7.length (.row (spliceL [(.int .i64 0), (.string (bs [])), (.slice none 0 0)] 0 (cellsL (.agg #[.int .i64 k', .string (bs n'), .slice a' l' cc]))) true) = h9 at g9 r9 m9' c19 ⊢
        refine deepO (D' := D) r9 (fun K => sub1 (by omega) K) fun h10 c10 r10 _ _ _ _ _ _ => ?_
        have g10 := (c10.get _ (lt_of_get g9) nF7).trans g9
        refine w_some (v := .agg (eSg ([], 41)).toArray) rfl ?_
        refine mustO (x := ([], 41)) r10 hs (fun q6 h11 c11 r11 => ?_) (fun q6 h11 c11 r11 => ?_)
        · have g11 := (c11.get _ (lt_of_get g10) nF7).trans g10
          refine w_rdPA g11 (Nat.le_refl 3) ?_
          rw [if_pos q6] at at0
          exact fin _ _ F7 _ m (adv s q5) rfl ((c19.trans c10).trans c11) r11 (((m9'.chg c10).chg c11).low (by have := c16.len; omega)) at0
        · have g11 := (c11.get _ (lt_of_get g10) nF7).trans g10
          refine w_rdPA g11 (Nat.le_refl 3) ?_
          rw [if_neg q6] at at0
          exact finE _ _ F7 _ 1 q5 rfl ((c19.trans c10).trans c11) r11 (fun j hj => Nat.lt_of_lt_of_le (r10.fb j hj) c11.len) ⟨_, n', _, _, _, rfl⟩ at0
      · rw [hm] at at0
        dsimp only at at0
        obtain ⟨k', n', a', l', cc, ev⟩ := m7
        subst ev
        refine n_rowv fun h8 x8 l8 g8 => ?_
        have r8 := r7.ex x8
        have c18 := (c16.trans c7).trans (Chg.ex x8)
        have nF7 : ¬ F7 h7.length := fun hf => by have := fb7 _ hf; omega
        refine w_stPA g8 rfl (by decide) rfl ?_
        have g9 : (h8.set h7.length (.row (spliceL [(.int .i64 0), (.string (bs [])), (.slice none 0 0)] 0 (cellsL (.agg #[.int .i64 k', .string (bs n'), .slice a' l' cc]))) true))[h7.length]? = some (.row [.int .i64 k', .string (bs n'), .slice a' l' cc] true) := get_set _ (lt_of_get g8) _
        have r9 := r8.setNew (i := h7.length) (fun e => nF7 (by rw [e]; exact r7.X)) (.row (spliceL [(.int .i64 0), (.string (bs [])), (.slice none 0 0)] 0 (cellsL (.agg #[.int .i64 k', .string (bs n'), .slice a' l' cc]))) true)
        have c19 := c18.setNew (i := h7.length) (by have := (c16.trans c7).len; omega) (.row (spliceL [(.int .i64 0), (.string (bs [])), (.slice none 0 0)] 0 (cellsL (.agg #[.int .i64 k', .string (bs n'), .slice a' l' cc]))) true)
        have l9 : (h8.set h7.length (.row (spliceL [(.int .i64 0), (.string (bs [])), (.slice none 0 0)] 0 (cellsL (.agg #[.int .i64 k', .string (bs n'), .slice a' l' cc]))) true)).length = h8.length := by simp
        generalize h8.set h7.length (.row (spliceL [(.int .i64 0), (.string (bs [])), (.slice none 0 0)] 0 (cellsL (.agg #[.int .i64 k', .string (bs n'), .slice a' l' cc]))) true) = h9 at g9 r9 c19 l9 ⊢
        refine deepE (D' := D) r9 (fun K => sub1 (by omega) K) fun h10 l10 c10 r10 _ _ _ _ _ _ => ?_
        have g10 := (c10.get _ (lt_of_get g9) nF7).trans g9
        refine w_some (v := .agg (eSg ([], 41)).toArray) rfl ?_
        refine mustE (x := ([], 41)) r10 (fun h11 x11 => ?_)
        refine w_rdPA (x11.some g10) (Nat.le_refl 3) ?_
        exact finE _ _ F7 _ e a rfl ((c19.trans c10).trans (Chg.ex x11)) (r10.ex x11) (fun j hj => by have := fb7 j hj; have := x11.len; omega) ⟨_, n', _, _, _, rfl⟩ at0
  · rw [if_neg q4] at at0
    refine nameO r4 (fun hn h5 x5 => ?_) (fun hn h5 c5 r5 => ?_)
    · rw [if_pos hn] at at0
      obtain ⟨vn5, g5, o5⟩ := (r4.ex x5).row
      refine w_nilc (w_offP (w_rdP g5 (v := .int .i64 0) rfl (w_eql (c_tt rfl ?_))))
      refine w_nilc (w_offP (w_rdP g5 (v := vn5) rfl ?_))
      have hne : sgn s p ≠ ([], 0) := fun e => by rw [e] at hn; exact absurd hn (by decide)
      refine appName (w := (sgn s p).1) hs (r4.ex x5) hne g5 o5 fun h6 F6 c6 r6 _ _ _ _ _ _ => ?_
      refine w_some (v := .agg #[.int .i64 4, .string (bs (sgn s p).1), .slice none 0 0]) rfl ?_
      have en : ns ++ nms (.mk 4 (sgn s p).1 []) = ns ++ [(sgn s p).1] := by simp [nms, nmsL]
      exact fin _ _ F6 _ (.mk 4 (sgn s p).1 []) (adv s p) rfl ((c14.trans (Chg.ex x5)).trans c6) (by rw [en]; exact r6) (MH.leaf _ _ _ _) at0
    · rw [if_neg (by rw [hn]; decide)] at at0
      obtain ⟨w5, fr5, at5, c5', vn5, g5, o5⟩ := r5.row
      refine w_nilc (w_offP (w_rdP g5 (v := .int .i64 1) rfl (w_eql (c_ff (by decide) ?_))))
      refine w_some (v := .agg #[.int .i64 4, .string (bs []), .slice none 0 0]) rfl ?_
      exact finE _ _ F _ 1 p rfl (c14.trans c5) r5 (fun j hj => Nat.lt_of_lt_of_le (r4.fb j hj) c5.len) ⟨_, [], _, _, _, rfl⟩ at0
end Go.Proofs.Ytlenlhlipmkeeaa.W
end

section
/- Schema's laws: the program's reader: models. Conditions: none. -/
namespace Go.Proofs.Ytlenlhlipmkeeaa.W
open Go Go.AM SchM
set_option linter.unusedVariables false
set_option maxRecDepth 100000
theorem several73E {h : AH} {v : Value} {n : Nat} {cs : List Value} {k : Int} {K : Value → AH → Prop} (sl : Sl 3 h v n cs) (h2 : 2 ≤ n) (hn : n ≤ 100000) (kk : ∀ v' h', Ex h h' → isMv v' → K v' h') : callW Try.prog 73 [.int .i64 k, v] h K := by
  refine c73 ?_
  unfold s73
  refine n_rowv fun h6 x6 l6 g6 => ?_
  obtain ⟨a', cap, rfl⟩ := sl.shape
  refine w_lenSl (w_eql (c_ff (by omega) ?_))
  refine clip91 (sl.ex x6) hn fun a'' sl' _ => ?_
  refine w_some (v := .agg #[.int .i64 k, .string (bs []), .slice a'' n n]) rfl ?_
  exact endM (n := 4) (by kernel_rfl) rfl g6 rfl ⟨_, [], _, _, _, rfl⟩ fun o => kk _ _ (x6.set (Nat.le_refl _) o) ⟨_, [], _, _, _, rfl⟩
theorem several73S {h : AH} {i : Nat} {x y z : Value} {w : Bool} {k : Int} {K : Value → AH → Prop} (g : h[i]? = some (.row [x, y, z] w)) (hm : isMv (.agg #[x, y, z])) (kk : ∀ v' h', Ex h h' → isMv v' → K v' h') : callW Try.prog 73 [.int .i64 k, .slice (some ⟨i, 0, none⟩) 1 1] h K := by
  refine c73 ?_
  unfold s73
  refine n_rowv fun h6 x6 l6 g6 => ?_
  refine w_lenSl (w_eql (c_tt rfl ?_))
  refine w_some (v := .pointer (some ⟨i, 0, none⟩)) rfl ?_
  refine w_rdPA (x6.some g) (Nat.le_refl 3) ?_
  exact endM (v := .agg #[x, y, z]) (n := 4) (by kernel_rfl) rfl g6 rfl hm fun o => kk _ _ (x6.set (Nat.le_refl _) o) hm
set_option maxHeartbeats 1000000 in
theorem seq72 {X : Nat} {s : W} {D lo : Nat} {Rf : Nat → R Mdl} (hs : s.length ≤ 2000) (hS : Spec X s 90 D lo Rf) (hmono : ∀ p m q, p ≤ s.length → Rf p = .ok m q → p < q) : Spec X s 72 D lo (SchM.row s 5 44 Rf) := by
  intro h F p ns K hp r k1 k2
  refine c72 ?_
  unfold s72
  refine n_rowv fun h1 x1 l1 g1 => ?_
  have nF : ∀ F' : Nat → Prop, (∀ j, F' j → F j ∨ h.length + 1 ≤ j) → ¬ F' h.length := fun F' hd hf => (hd _ hf).elim (fun hf => by have := r.fb _ hf; omega) (by omega)
  have r1 := r.ex x1
  have cx := Chg.ex (F := F) x1
  have fin : ∀ (E : Env) (h' : AH) (F' : Nat → Prop) (v : Value) (m : Mdl) (q : Nat), E 2 = .pointer (some ⟨h.length, 0, none⟩) → Chg F h1 F' h' → PO h' X F' s q D (ns ++ nms m) → MG h1.length h' F' m v → SchM.row s 5 44 Rf p = .ok m q →
      optW (pStore 3 (.pointer (some ⟨h.length, 0, none⟩)) v h') fun h'' => optW (resList Try.prog E h'' Try.f72.results.toList) fun vs => K (resOf vs) h'' := fun E h' F' v m q hE c' r' mv ha => by
    have g' : h'[h.length]? = some (.row [(.int .i64 0), (.string (bs [])), (.slice none 0 0)] true) := (c'.get _ (by omega) (nF F fun j hj => .inl hj)).trans g1
    refine endM (n := 2) (by kernel_rfl) hE g' rfl mv.shape fun o => ?_
    have nf' := nF F' fun j hj => (c'.dom j hj).imp id (by omega)
    refine k1 v _ F' m q ha ((cx.trans c').setNew (Nat.le_refl _) o) (r'.setNew nf' o) ?_
    exact (mv.setNew (fun hg => by have := hg.1; omega) o).low (by omega)
  have finE : ∀ (E : Env) (h' : AH) (F' : Nat → Prop) (v : Value) (e : Int) (a : Nat), E 2 = .pointer (some ⟨h.length, 0, none⟩) → Chg F h1 F' h' → PE h' X F' s D e a → (∀ j, F' j → j < h'.length) → isMv v → SchM.row s 5 44 Rf p = .bad e a →
      optW (pStore 3 (.pointer (some ⟨h.length, 0, none⟩)) v h') fun h'' => optW (resList Try.prog E h'' Try.f72.results.toList) fun vs => K (resOf vs) h'' := fun E h' F' v e a hE c' r' fb mv ha => by
    have g' : h'[h.length]? = some (.row [(.int .i64 0), (.string (bs [])), (.slice none 0 0)] true) := (c'.get _ (by omega) (nF F fun j hj => .inl hj)).trans g1
    refine endM (n := 2) (by kernel_rfl) hE g' rfl mv fun o => ?_
    have nf' := nF F' fun j hj => (c'.dom j hj).imp id (by omega)
    exact k2 v _ F' e a ha ((cx.trans c').setNew (Nat.le_refl _) o) (r'.setNew (fun e => nf' (by rw [e]; exact r'.X)) o) (fun j hj => by rw [List.length_set]; exact fb j hj) mv
  refine hS h1 F p ns _ hp r1 (fun v h2 F2 m q hm c2 r2 m2 => ?_) (fun v h2 F2 e a hm c2 r2 fb2 m2 => ?_)
  · obtain ⟨k', n', a', ll, cc, ev⟩ := m2.shape
    subst ev
    refine w_some (bldSl_one (v := .agg #[.int .i64 k', .string (bs n'), .slice a' ll cc]) rfl (by decide) rfl rfl) ?_
    refine n_newv fun h3 x3 l3 g3 => ?_
    have hq := hmono p m q r.p hm
    have hrow : SchM.row s 5 44 Rf p = match more s Rf 44 (s.length + 1) q [m] with
        | .bad e a => .bad e a
        | .ok l q => .ok (several 5 l) q := by unfold SchM.row; rw [hm]; rfl
    have nf2 : ¬ F2 h2.length := fun hf => by have := r2.fb _ hf; omega
    have L3 : LL h1.length h3 F2 (.slice (some ⟨h2.length, 0, none⟩) 1 1) [m] := by
      refine ⟨⟨_, .inl ⟨h2.length, rfl, rfl, ⟨c2.len, by omega, nf2, _, g3⟩, g3, rfl⟩, ?_⟩⟩
      unfold ML
      refine ⟨_, _, _, [], rfl, MH.mono (fun j gj => ⟨x3.get j gj.2.1, ⟨gj.1, x3.lt gj.2.1, gj.2.2.1, gj.2.2.2.keep (x3.get j gj.2.1)⟩, fun hon => by have : h2.length = j := hon; have := gj.2.1; omega⟩) m _ m2, by unfold ML; rfl⟩
    refine loopE_intro (fun mm e h' => ∃ F' : Nat → Prop, e 0 = .pointer (some ⟨X, 0, none⟩) ∧ e 2 = .pointer (some ⟨h.length, 0, none⟩) ∧ Chg F h1 F' h' ∧ (∀ j, F' j → j < h'.length) ∧
        ((∃ (k : Nat) (l : List Mdl) (q' : Nat), mm = k + 1 ∧ PO h' X F' s q' D (ns ++ nmsL l) ∧ LL h1.length h' F' (e 3) l ∧ more s Rf 44 (s.length + 1) q [m] = more s Rf 44 k q' l ∧ s.length < q' + k ∧ l.length ≤ q' ∧ 0 < l.length ∧ p ≤ q') ∨
         (∃ (er : Int) (a : Nat) (n : Nat) (cs : List Value), mm = 0 ∧ PE h' X F' s D er a ∧ Sl 3 h' (e 3) n cs ∧ 2 ≤ n ∧ n ≤ 100000 ∧ SchM.row s 5 44 Rf p = .bad er a))) (s.length + 2)
      ⟨F2, rfl, rfl, c2.trans (Chg.ex x3), fun j hj => x3.lt (r2.fb j hj), .inl ⟨s.length + 1, [m], q, rfl, by simpa [nmsL] using r2.ex x3, L3, rfl, by omega, by simp; omega, by simp, by omega⟩⟩ ?_
    rintro I mm e h4 ⟨F4, e0, e2, c4, fb4, hmode⟩ ih
    rw [e0, e2]
    refine w_some (v := .agg (eSg ([], 44)).toArray) rfl ?_
    rcases hmode with ⟨k, l, q', hmm, r4, L4, hmore, hk, hl, hl0, hpq⟩ | ⟨er, a, n, cs, hmm, r4, sl4, hn2, hn, hbad⟩
    · have hq' := r4.p
      refine takesO (x := ([], 44)) r4 hs (fun qs h5 c5 r5 => c_t ?_) (fun qs h5 x5 => c_f ?_)
      · obtain ⟨k0, rfl⟩ : ∃ k0, k = k0 + 1 := by
          match k, hk with
          | 0, hk => omega
          | k0 + 1, _ => exact ⟨k0, rfl⟩
        have e1 : more s Rf 44 (k0 + 1) q' l = match Rf (adv s q') with
            | .bad e a => .bad e a
            | .ok m q => more s Rf 44 k0 q (l ++ [m]) := by rw [more, if_pos qs]; rfl
        rw [e1] at hmore
        have hadv := adv_gt r4.p (by rw [qs]; decide)
        have L5 := L4.chg c5
        have c15 := c4.trans c5
        refine hS h5 F4 (adv s q') _ _ (by omega) r5 (fun v2 h6 F6 m6 q6 hm6 c6 r6 m6' => ?_) (fun v2 h6 F6 er a hm6 c6 r6 fb6 m6' => ?_)
        · rw [hm6] at hmore
          dsimp only at hmore
          have hq6 := hmono _ _ _ r5.p hm6
          have L6 := L5.chg c6
          obtain ⟨cs5, gs5, _⟩ := L5.ex
          have hm6 : MH h6 (fun j => Gd h1.length h6 F6 j ∧ ¬ onId (e 3) j) m6 v2 := MH.mono (fun j gj => ⟨rfl, ⟨by have := c15.len; have := gj.1; omega, gj.2⟩, fun hon => by have := (gs5.on hon).2.1; have := gj.1; omega⟩) m6 v2 m6'
          refine L6.app (h0 := h1) (F0 := F) hm6 rfl (by omega) hl0 (c15.trans c6) (Nat.le_refl _) ((c15.trans c6).len) r6.fb fun _ _ v7 h7 c7 same7 len7 L7 => ?_
          have r7 : PO h7 X F6 s q6 D (ns ++ nmsL l ++ nms m6) := by
            obtain ⟨vn, g, o⟩ := r6.row
            obtain ⟨cs6, gs6, _⟩ := L6.ex
            have nv : ∀ j, F6 j → ¬ onId (e 3) j := fun j hf hon => (gs6.on hon).2.2.1 hf
            exact ⟨⟨vn, (same7 X (r6.fb X r6.X) (nv X r6.X)).trans g, o.mono (fun _ _ h => h) fun j hj hF => same7 j (o.on hj).2 (nv j hF.1)⟩, r6.nb, r6.p, r6.X, fun j hj => Nat.lt_of_lt_of_le (r6.fb j hj) len7⟩
          have en : ns ++ nmsL l ++ nms m6 = ns ++ nmsL (l ++ [m6]) := by rw [nmsL_append]; simp [nmsL]
          rw [en] at r7
          exact ih (k0 + 1) _ _ (by omega) ⟨F6, e0, e2, c7, r7.fb, .inl ⟨k0, l ++ [m6], q6, rfl, r7, L7, hmore, by omega, by simp; omega, by simp, by omega⟩⟩
        · rw [hm6] at hmore
          dsimp only at hmore
          have L6 := L5.chg c6
          obtain ⟨cs6, gs6, _⟩ := L6.ex
          obtain ⟨k6, n6, a6, l6, cc6, e6⟩ := m6'
          refine gs6.app (h0 := h1) (F0 := F) e6 rfl (by omega) hl0 (c15.trans c6) (Nat.le_refl _) ((c15.trans c6).len) fb6 fun _ _ v7 h7 c7 same7 len7 ids7 gs7 => ?_
          have r7 : PE h7 X F6 s D er a := by
            obtain ⟨w, fr, at_, c, vn, g, o⟩ := r6.row
            exact ⟨⟨w, fr, at_, c, vn, (same7 X (fb6 X r6.X) fun hon => (gs6.on hon).2.2.1 r6.X).trans g, o⟩, r6.e, r6.X⟩
          refine ih 0 _ _ (by omega) ⟨F6, e0, e2, c7, fun j hj => Nat.lt_of_lt_of_le (fb6 j hj) len7, .inr ⟨er, a, l.length + 1, _, rfl, r7, gs7.sl, by omega, by omega, ?_⟩⟩
          rw [hrow, hmore]
      · have L5 := L4.chg (Chg.ex x5)
        refine several73 L5 hl0 (by omega) fun v6 h6 x6 m6 => ?_
        refine fin _ h6 F4 v6 (several 5 l) q' e2 (c4.trans (Chg.ex (x5.trans x6))) ?_ m6 ?_
        · rw [nms_several _ (by decide)]
          exact r4.ex (x5.trans x6)
        · rw [hrow, hmore]
          match k, hk with
          | 0, hk => rfl
          | k0 + 1, _ => rw [more, if_neg qs]
    · refine takesE (x := ([], 44)) r4 (fun h5 x5 => c_f ?_)
      refine several73E (sl4.ex x5) hn2 hn fun v6 h6 x6 m6 => ?_
      exact finE _ _ F4 v6 er a e2 (c4.trans (Chg.ex (x5.trans x6))) (r4.ex (x5.trans x6)) (fun j hj => (x5.trans x6).lt (fb4 j hj)) m6 hbad
  · obtain ⟨k', n', a', ll, cc, ev⟩ := m2
    subst ev
    refine w_some (bldSl_one (v := .agg #[.int .i64 k', .string (bs n'), .slice a' ll cc]) rfl (by decide) rfl rfl) ?_
    refine n_newv fun h3 x3 l3 g3 => ?_
    have hbad : SchM.row s 5 44 Rf p = .bad e a := by unfold SchM.row; rw [hm]
    refine loopE_intro (fun mm e' h' => mm = 0 ∧ e' 0 = .pointer (some ⟨X, 0, none⟩) ∧ e' 2 = .pointer (some ⟨h.length, 0, none⟩) ∧ e' 3 = .slice (some ⟨h2.length, 0, none⟩) 1 1 ∧ h' = h3) 0 ⟨rfl, rfl, rfl, rfl, rfl⟩ ?_
    rintro I mm e' h4 ⟨_, e0, e2, e3, rfl⟩ ih
    rw [e0, e2, e3]
    refine w_some (v := .agg (eSg ([], 44)).toArray) rfl ?_
    refine takesE (x := ([], 44)) (r2.ex x3) (fun h5 x5 => c_f ?_)
    refine several73S (x5.some g3) ⟨_, n', _, _, _, rfl⟩ fun v6 h6 x6 m6 => ?_
    have x56 : Ex h2 h6 := (x3.trans x5).trans x6
    exact finE _ _ F2 v6 e a e2 (c2.trans (Chg.ex x56)) (r2.ex x56) (fun j hj => x56.lt (fb2 j hj)) m6 hbad
set_option maxHeartbeats 1000000 in
theorem or58 {X : Nat} {s : W} {D lo : Nat} {Rf : Nat → R Mdl} (hs : s.length ≤ 2000) (hS : Spec X s 72 D lo Rf) (hmono : ∀ p m q, p ≤ s.length → Rf p = .ok m q → p < q) : Spec X s 58 D lo (SchM.row s 6 124 Rf) := by
  intro h F p ns K hp r k1 k2
  refine c58 ?_
  unfold s58
  refine n_rowv fun h1 x1 l1 g1 => ?_
  have nF : ∀ F' : Nat → Prop, (∀ j, F' j → F j ∨ h.length + 1 ≤ j) → ¬ F' h.length := fun F' hd hf => (hd _ hf).elim (fun hf => by have := r.fb _ hf; omega) (by omega)
  have r1 := r.ex x1
  have cx := Chg.ex (F := F) x1
  have fin : ∀ (E : Env) (h' : AH) (F' : Nat → Prop) (v : Value) (m : Mdl) (q : Nat), E 2 = .pointer (some ⟨h.length, 0, none⟩) → Chg F h1 F' h' → PO h' X F' s q D (ns ++ nms m) → MG h1.length h' F' m v → SchM.row s 6 124 Rf p = .ok m q →
      optW (pStore 3 (.pointer (some ⟨h.length, 0, none⟩)) v h') fun h'' => optW (resList Try.prog E h'' Try.f58.results.toList) fun vs => K (resOf vs) h'' := fun E h' F' v m q hE c' r' mv ha => by
    have g' : h'[h.length]? = some (.row [(.int .i64 0), (.string (bs [])), (.slice none 0 0)] true) := (c'.get _ (by omega) (nF F fun j hj => .inl hj)).trans g1
    refine endM (n := 2) (by kernel_rfl) hE g' rfl mv.shape fun o => ?_
    have nf' := nF F' fun j hj => (c'.dom j hj).imp id (by omega)
    refine k1 v _ F' m q ha ((cx.trans c').setNew (Nat.le_refl _) o) (r'.setNew nf' o) ?_
    exact (mv.setNew (fun hg => by have := hg.1; omega) o).low (by omega)
  have finE : ∀ (E : Env) (h' : AH) (F' : Nat → Prop) (v : Value) (e : Int) (a : Nat), E 2 = .pointer (some ⟨h.length, 0, none⟩) → Chg F h1 F' h' → PE h' X F' s D e a → (∀ j, F' j → j < h'.length) → isMv v → SchM.row s 6 124 Rf p = .bad e a →
      optW (pStore 3 (.pointer (some ⟨h.length, 0, none⟩)) v h') fun h'' => optW (resList Try.prog E h'' Try.f58.results.toList) fun vs => K (resOf vs) h'' := fun E h' F' v e a hE c' r' fb mv ha => by
    have g' : h'[h.length]? = some (.row [(.int .i64 0), (.string (bs [])), (.slice none 0 0)] true) := (c'.get _ (by omega) (nF F fun j hj => .inl hj)).trans g1
    refine endM (n := 2) (by kernel_rfl) hE g' rfl mv fun o => ?_
    have nf' := nF F' fun j hj => (c'.dom j hj).imp id (by omega)
    exact k2 v _ F' e a ha ((cx.trans c').setNew (Nat.le_refl _) o) (r'.setNew (fun e => nf' (by rw [e]; exact r'.X)) o) (fun j hj => by rw [List.length_set]; exact fb j hj) mv
  refine hS h1 F p ns _ hp r1 (fun v h2 F2 m q hm c2 r2 m2 => ?_) (fun v h2 F2 e a hm c2 r2 fb2 m2 => ?_)
  · obtain ⟨k', n', a', ll, cc, ev⟩ := m2.shape
    subst ev
    refine w_some (bldSl_one (v := .agg #[.int .i64 k', .string (bs n'), .slice a' ll cc]) rfl (by decide) rfl rfl) ?_
    refine n_newv fun h3 x3 l3 g3 => ?_
    have hq := hmono p m q r.p hm
    have hrow : SchM.row s 6 124 Rf p = match more s Rf 124 (s.length + 1) q [m] with
        | .bad e a => .bad e a
        | .ok l q => .ok (several 6 l) q := by unfold SchM.row; rw [hm]; rfl
    have nf2 : ¬ F2 h2.length := fun hf => by have := r2.fb _ hf; omega
    have L3 : LL h1.length h3 F2 (.slice (some ⟨h2.length, 0, none⟩) 1 1) [m] := by
      refine ⟨⟨_, .inl ⟨h2.length, rfl, rfl, ⟨c2.len, by omega, nf2, _, g3⟩, g3, rfl⟩, ?_⟩⟩
      unfold ML
      refine ⟨_, _, _, [], rfl, MH.mono (fun j gj => ⟨x3.get j gj.2.1, ⟨gj.1, x3.lt gj.2.1, gj.2.2.1, gj.2.2.2.keep (x3.get j gj.2.1)⟩, fun hon => by have : h2.length = j := hon; have := gj.2.1; omega⟩) m _ m2, by unfold ML; rfl⟩
    refine loopE_intro (fun mm e h' => ∃ F' : Nat → Prop, e 0 = .pointer (some ⟨X, 0, none⟩) ∧ e 2 = .pointer (some ⟨h.length, 0, none⟩) ∧ Chg F h1 F' h' ∧ (∀ j, F' j → j < h'.length) ∧
        ((∃ (k : Nat) (l : List Mdl) (q' : Nat), mm = k + 1 ∧ PO h' X F' s q' D (ns ++ nmsL l) ∧ LL h1.length h' F' (e 3) l ∧ more s Rf 124 (s.length + 1) q [m] = more s Rf 124 k q' l ∧ s.length < q' + k ∧ l.length ≤ q' ∧ 0 < l.length ∧ p ≤ q') ∨
         (∃ (er : Int) (a : Nat) (n : Nat) (cs : List Value), mm = 0 ∧ PE h' X F' s D er a ∧ Sl 3 h' (e 3) n cs ∧ 2 ≤ n ∧ n ≤ 100000 ∧ SchM.row s 6 124 Rf p = .bad er a))) (s.length + 2)
      ⟨F2, rfl, rfl, c2.trans (Chg.ex x3), fun j hj => x3.lt (r2.fb j hj), .inl ⟨s.length + 1, [m], q, rfl, by simpa [nmsL] using r2.ex x3, L3, rfl, by omega, by simp; omega, by simp, by omega⟩⟩ ?_
    rintro I mm e h4 ⟨F4, e0, e2, c4, fb4, hmode⟩ ih
    rw [e0, e2]
    refine w_some (v := .agg (eSg ([], 124)).toArray) rfl ?_
    rcases hmode with ⟨k, l, q', hmm, r4, L4, hmore, hk, hl, hl0, hpq⟩ | ⟨er, a, n, cs, hmm, r4, sl4, hn2, hn, hbad⟩
    · have hq' := r4.p
      refine takesO (x := ([], 124)) r4 hs (fun qs h5 c5 r5 => c_t ?_) (fun qs h5 x5 => c_f ?_)
      · obtain ⟨k0, rfl⟩ : ∃ k0, k = k0 + 1 := by
          match k, hk with
          | 0, hk => omega
          | k0 + 1, _ => exact ⟨k0, rfl⟩
        have e1 : more s Rf 124 (k0 + 1) q' l = match Rf (adv s q') with
            | .bad e a => .bad e a
            | .ok m q => more s Rf 124 k0 q (l ++ [m]) := by rw [more, if_pos qs]; rfl
        rw [e1] at hmore
        have hadv := adv_gt r4.p (by rw [qs]; decide)
        have L5 := L4.chg c5
        have c15 := c4.trans c5
        refine hS h5 F4 (adv s q') _ _ (by omega) r5 (fun v2 h6 F6 m6 q6 hm6 c6 r6 m6' => ?_) (fun v2 h6 F6 er a hm6 c6 r6 fb6 m6' => ?_)
        · rw [hm6] at hmore
          dsimp only at hmore
          have hq6 := hmono _ _ _ r5.p hm6
          have L6 := L5.chg c6
          obtain ⟨cs5, gs5, _⟩ := L5.ex
          have hm6 : MH h6 (fun j => Gd h1.length h6 F6 j ∧ ¬ onId (e 3) j) m6 v2 := MH.mono (fun j gj => ⟨rfl, ⟨by have := c15.len; have := gj.1; omega, gj.2⟩, fun hon => by have := (gs5.on hon).2.1; have := gj.1; omega⟩) m6 v2 m6'
          refine L6.app (h0 := h1) (F0 := F) hm6 rfl (by omega) hl0 (c15.trans c6) (Nat.le_refl _) ((c15.trans c6).len) r6.fb fun _ _ v7 h7 c7 same7 len7 L7 => ?_
          have r7 : PO h7 X F6 s q6 D (ns ++ nmsL l ++ nms m6) := by
            obtain ⟨vn, g, o⟩ := r6.row
            obtain ⟨cs6, gs6, _⟩ := L6.ex
            have nv : ∀ j, F6 j → ¬ onId (e 3) j := fun j hf hon => (gs6.on hon).2.2.1 hf
            exact ⟨⟨vn, (same7 X (r6.fb X r6.X) (nv X r6.X)).trans g, o.mono (fun _ _ h => h) fun j hj hF => same7 j (o.on hj).2 (nv j hF.1)⟩, r6.nb, r6.p, r6.X, fun j hj => Nat.lt_of_lt_of_le (r6.fb j hj) len7⟩
          have en : ns ++ nmsL l ++ nms m6 = ns ++ nmsL (l ++ [m6]) := by rw [nmsL_append]; simp [nmsL]
          rw [en] at r7
          exact ih (k0 + 1) _ _ (by omega) ⟨F6, e0, e2, c7, r7.fb, .inl ⟨k0, l ++ [m6], q6, rfl, r7, L7, hmore, by omega, by simp; omega, by simp, by omega⟩⟩
        · rw [hm6] at hmore
          dsimp only at hmore
          have L6 := L5.chg c6
          obtain ⟨cs6, gs6, _⟩ := L6.ex
          obtain ⟨k6, n6, a6, l6, cc6, e6⟩ := m6'
          refine gs6.app (h0 := h1) (F0 := F) e6 rfl (by omega) hl0 (c15.trans c6) (Nat.le_refl _) ((c15.trans c6).len) fb6 fun _ _ v7 h7 c7 same7 len7 ids7 gs7 => ?_
          have r7 : PE h7 X F6 s D er a := by
            obtain ⟨w, fr, at_, c, vn, g, o⟩ := r6.row
            exact ⟨⟨w, fr, at_, c, vn, (same7 X (fb6 X r6.X) fun hon => (gs6.on hon).2.2.1 r6.X).trans g, o⟩, r6.e, r6.X⟩
          refine ih 0 _ _ (by omega) ⟨F6, e0, e2, c7, fun j hj => Nat.lt_of_lt_of_le (fb6 j hj) len7, .inr ⟨er, a, l.length + 1, _, rfl, r7, gs7.sl, by omega, by omega, ?_⟩⟩
          rw [hrow, hmore]
      · have L5 := L4.chg (Chg.ex x5)
        refine several73 L5 hl0 (by omega) fun v6 h6 x6 m6 => ?_
        refine fin _ h6 F4 v6 (several 6 l) q' e2 (c4.trans (Chg.ex (x5.trans x6))) ?_ m6 ?_
        · rw [nms_several _ (by decide)]
          exact r4.ex (x5.trans x6)
        · rw [hrow, hmore]
          match k, hk with
          | 0, hk => rfl
          | k0 + 1, _ => rw [more, if_neg qs]
    · refine takesE (x := ([], 124)) r4 (fun h5 x5 => c_f ?_)
      refine several73E (sl4.ex x5) hn2 hn fun v6 h6 x6 m6 => ?_
      exact finE _ _ F4 v6 er a e2 (c4.trans (Chg.ex (x5.trans x6))) (r4.ex (x5.trans x6)) (fun j hj => (x5.trans x6).lt (fb4 j hj)) m6 hbad
  · obtain ⟨k', n', a', ll, cc, ev⟩ := m2
    subst ev
    refine w_some (bldSl_one (v := .agg #[.int .i64 k', .string (bs n'), .slice a' ll cc]) rfl (by decide) rfl rfl) ?_
    refine n_newv fun h3 x3 l3 g3 => ?_
    have hbad : SchM.row s 6 124 Rf p = .bad e a := by unfold SchM.row; rw [hm]
    refine loopE_intro (fun mm e' h' => mm = 0 ∧ e' 0 = .pointer (some ⟨X, 0, none⟩) ∧ e' 2 = .pointer (some ⟨h.length, 0, none⟩) ∧ e' 3 = .slice (some ⟨h2.length, 0, none⟩) 1 1 ∧ h' = h3) 0 ⟨rfl, rfl, rfl, rfl, rfl⟩ ?_
    rintro I mm e' h4 ⟨_, e0, e2, e3, rfl⟩ ih
    rw [e0, e2, e3]
    refine w_some (v := .agg (eSg ([], 124)).toArray) rfl ?_
    refine takesE (x := ([], 124)) (r2.ex x3) (fun h5 x5 => c_f ?_)
    refine several73S (x5.some g3) ⟨_, n', _, _, _, rfl⟩ fun v6 h6 x6 m6 => ?_
    have x56 : Ex h2 h6 := (x3.trans x5).trans x6
    exact finE _ _ F2 v6 e a e2 (c2.trans (Chg.ex x56)) (r2.ex x56) (fun j hj => x56.lt (fb2 j hj)) m6 hbad
end Go.Proofs.Ytlenlhlipmkeeaa.W
end

section
/- Schema's laws: the program's reader: models, all of them. Conditions: none. -/
namespace Go.Proofs.Ytlenlhlipmkeeaa.W
open Go Go.AM SchM
set_option linter.unusedVariables false
set_option maxRecDepth 100000
set_option maxHeartbeats 1000000 in
theorem rep90 {X : Nat} {s : W} {D lo : Nat} {Rf : Nat → R Mdl} (hs : s.length ≤ 2000) (hS : Spec X s 97 D lo Rf) : Spec X s 90 D lo (rep s Rf) := by
  intro h F p ns K hp r k1 k2
  refine c90 ?_
  unfold s90
  refine n_rowv fun h1 x1 l1 g1 => ?_
  have nF : ∀ F' : Nat → Prop, (∀ j, F' j → F j ∨ h.length + 1 ≤ j) → ¬ F' h.length := fun F' hd hf => (hd _ hf).elim (fun hf => by have := r.fb _ hf; omega) (by omega)
  have r1 := r.ex x1
  have cx := Chg.ex (F := F) x1
  have fin : ∀ (E : Env) (h' : AH) (F' : Nat → Prop) (v : Value) (m : Mdl) (q : Nat), E 2 = .pointer (some ⟨h.length, 0, none⟩) → Chg F h1 F' h' → PO h' X F' s q D (ns ++ nms m) → MG h1.length h' F' m v → rep s Rf p = .ok m q →
      optW (pStore 3 (.pointer (some ⟨h.length, 0, none⟩)) v h') fun h'' => optW (resList Try.prog E h'' Try.f90.results.toList) fun vs => K (resOf vs) h'' := fun E h' F' v m q hE c' r' mv ha => by
    have g' : h'[h.length]? = some (.row [(.int .i64 0), (.string (bs [])), (.slice none 0 0)] true) := (c'.get _ (by omega) (nF F fun j hj => .inl hj)).trans g1
    refine endM (n := 2) (by kernel_rfl) hE g' rfl mv.shape fun o => ?_
    have nf' := nF F' fun j hj => (c'.dom j hj).imp id (by omega)
    refine k1 v _ F' m q ha ((cx.trans c').setNew (Nat.le_refl _) o) (r'.setNew nf' o) ?_
    exact (mv.setNew (fun hg => by have := hg.1; omega) o).low (by omega)
  have finE : ∀ (E : Env) (h' : AH) (F' : Nat → Prop) (v : Value) (e : Int) (a : Nat), E 2 = .pointer (some ⟨h.length, 0, none⟩) → Chg F h1 F' h' → PE h' X F' s D e a → (∀ j, F' j → j < h'.length) → isMv v → rep s Rf p = .bad e a →
      optW (pStore 3 (.pointer (some ⟨h.length, 0, none⟩)) v h') fun h'' => optW (resList Try.prog E h'' Try.f90.results.toList) fun vs => K (resOf vs) h'' := fun E h' F' v e a hE c' r' fb mv ha => by
    have g' : h'[h.length]? = some (.row [(.int .i64 0), (.string (bs [])), (.slice none 0 0)] true) := (c'.get _ (by omega) (nF F fun j hj => .inl hj)).trans g1
    refine endM (n := 2) (by kernel_rfl) hE g' rfl mv fun o => ?_
    have nf' := nF F' fun j hj => (c'.dom j hj).imp id (by omega)
    exact k2 v _ F' e a ha ((cx.trans c').setNew (Nat.le_refl _) o) (r'.setNew (fun e => nf' (by rw [e]; exact r'.X)) o) (fun j hj => by rw [List.length_set]; exact fb j hj) mv
  refine hS h1 F p ns _ hp r1 (fun v h2 F2 m q hm c2 r2 m2 => ?_) (fun v h2 F2 e a hm c2 r2 fb2 m2 => ?_)
  · obtain ⟨k', n', a', ll, cc, ev⟩ := m2.shape
    subst ev
    have hrep : rep s Rf p = if sgn s q = ([], 42) then .ok (.mk 7 [] [m]) (adv s q)
      else if sgn s q = ([], 43) then .ok (.mk 8 [] [m]) (adv s q)
      else if sgn s q = ([], 63) then .ok (.mk 9 [] [m]) (adv s q)
      else .ok m q := by unfold rep; rw [hm]
    have nf2 : ¬ F2 h2.length := fun hf => by have := r2.fb _ hf; omega
    refine n_rowv fun h3 x3 l3 g3 => ?_
    refine w_stPA g3 rfl (by decide) rfl ?_
    have g4 : (h3.set h2.length (.row (spliceL [(.int .i64 0), (.string (bs [])), (.slice none 0 0)] 0 (cellsL (.agg #[.int .i64 k', .string (bs n'), .slice a' ll cc]))) true))[h2.length]? = some (.row [.int .i64 k', .string (bs n'), .slice a' ll cc] true) := get_set _ (lt_of_get g3) _
    have x4 : Ex h2 (h3.set h2.length (.row (spliceL [(.int .i64 0), (.string (bs [])), (.slice none 0 0)] 0 (cellsL (.agg #[.int .i64 k', .string (bs n'), .slice a' ll cc]))) true)) := x3.set (Nat.le_refl _) _
    generalize h3.set h2.length (.row (spliceL [(.int .i64 0), (.string (bs [])), (.slice none 0 0)] 0 (cellsL (.agg #[.int .i64 k', .string (bs n'), .slice a' ll cc]))) true) = h4 at g4 x4 ⊢
    have r4 := r2.ex x4
    have m4 := m2.ex x4
    have c14 := c2.trans (Chg.ex x4)
    have one : ∀ (E : Value → List Value → Nat → Value → Env) (kd : Int) (h' : AH) (z : List Value), z = [(.int .i64 0), (.string (bs [])), (.slice none 0 0)] → (∀ a b c d, E a b c d 2 = .pointer (some ⟨h.length, 0, none⟩)) → kd ≠ 4 → Chg F h1 F2 h' → PO h' X F2 s (adv s q) D (ns ++ nms m) → MG h1.length h' F2 m (.agg #[.int .i64 k', .string (bs n'), .slice a' ll cc]) → h'[h2.length]? = some (.row [.int .i64 k', .string (bs n'), .slice a' ll cc] true) → rep s Rf p = .ok (.mk kd [] [m]) (adv s q) →
        optW (rdRow true 3 (.pointer (some ⟨h2.length, 0, none⟩)) h') fun v10 => optW (bldSl 3 z 1 [(0, v10)]) fun c => newW none (.row c true) h' fun i h_6 => optW (bld [(.int .i64 0), (.string (bs [])), (.slice none 0 0)] [(0, 1), (1, 1), (2, 1)] [(0, (.int .i64 kd)), (2, (.slice (some ⟨i, 0, none⟩) 1 1))]) fun v12 => optW (pStore 3 (.pointer (some ⟨h.length, 0, none⟩)) v12 h_6) fun h_7 => optW (resList Try.prog (E v10 c i v12) h_7 Try.f90.results.toList) fun vs => K (resOf vs) h_7 := by
      intro E kd h' z hz hE hkd c' r' m' g' ha
      subst hz
      refine w_rdPA g' (Nat.le_refl 3) ?_
      refine w_some (bldSl_one (v := .agg #[.int .i64 k', .string (bs n'), .slice a' ll cc]) rfl (by decide) rfl rfl) ?_
      refine n_newv fun h6 x6 l6 g6 => ?_
      refine w_some (v := .agg #[.int .i64 kd, .string (bs []), .slice (some ⟨h'.length, 0, none⟩) 1 1]) rfl ?_
      have nf' : ¬ F2 h'.length := fun hf => by have := r'.fb _ hf; omega
      refine fin _ h6 F2 _ (.mk kd [] [m]) (adv s q) (hE _ _ _ _) (c'.trans (Chg.ex x6)) ?_ (MH.one (m'.ex x6) g6 ⟨c'.len, by omega, nf', _, g6⟩) ha
      have en : ns ++ nms (.mk kd [] [m]) = ns ++ nms m := by simp [nms, nmsL, hkd]
      rw [en]
      exact r'.ex x6
    refine w_some (v := .agg (eSg ([], 42)).toArray) rfl ?_
    refine takesO (x := ([], 42)) r4 hs (fun q1 h5 c5 r5 => c_t ?_) (fun q1 h5 x5 => c_f ?_)
    · rw [if_pos q1] at hrep
      exact one _ 7 h5 _ rfl (fun _ _ _ _ => rfl) (by decide) (c14.trans c5) r5 (m4.chg c5) ((c5.get _ (lt_of_get g4) nf2).trans g4) hrep
    rw [if_neg q1] at hrep
    refine w_some (v := .agg (eSg ([], 43)).toArray) rfl ?_
    refine takesO (x := ([], 43)) (r4.ex x5) hs (fun q2 h6 c6 r6 => c_t ?_) (fun q2 h6 x6 => c_f ?_)
    · rw [if_pos q2] at hrep
      exact one _ 8 h6 _ rfl (fun _ _ _ _ => rfl) (by decide) ((c14.trans (Chg.ex x5)).trans c6) r6 ((m4.ex x5).chg c6) ((c6.get _ (x5.lt (lt_of_get g4)) nf2).trans (x5.some g4)) hrep
    rw [if_neg q2] at hrep
    refine w_some (v := .agg (eSg ([], 63)).toArray) rfl ?_
    refine takesO (x := ([], 63)) (r4.ex (x5.trans x6)) hs (fun q3 h7 c7 r7 => c_t ?_) (fun q3 h7 x7 => c_f ?_)
    · rw [if_pos q3] at hrep
      exact one _ 9 h7 _ rfl (fun _ _ _ _ => rfl) (by decide) ((c14.trans (Chg.ex (x5.trans x6))).trans c7) r7 ((m4.ex (x5.trans x6)).chg c7) ((c7.get _ ((x5.trans x6).lt (lt_of_get g4)) nf2).trans ((x5.trans x6).some g4)) hrep
    rw [if_neg q3] at hrep
    have x47 := (x5.trans x6).trans x7
    refine w_rdPA (x47.some g4) (Nat.le_refl 3) ?_
    exact fin _ h7 F2 (.agg #[.int .i64 k', .string (bs n'), .slice a' ll cc]) m q rfl (c14.trans (Chg.ex x47)) (r4.ex x47) (m4.ex x47) hrep
  · obtain ⟨k', n', a', ll, cc, ev⟩ := m2
    subst ev
    have hrep : rep s Rf p = .bad e a := by unfold rep; rw [hm]
    refine n_rowv fun h3 x3 l3 g3 => ?_
    refine w_stPA g3 rfl (by decide) rfl ?_
    have g4 : (h3.set h2.length (.row (spliceL [(.int .i64 0), (.string (bs [])), (.slice none 0 0)] 0 (cellsL (.agg #[.int .i64 k', .string (bs n'), .slice a' ll cc]))) true))[h2.length]? = some (.row [.int .i64 k', .string (bs n'), .slice a' ll cc] true) := get_set _ (lt_of_get g3) _
    have x4 : Ex h2 (h3.set h2.length (.row (spliceL [(.int .i64 0), (.string (bs [])), (.slice none 0 0)] 0 (cellsL (.agg #[.int .i64 k', .string (bs n'), .slice a' ll cc]))) true)) := x3.set (Nat.le_refl _) _
    generalize h3.set h2.length (.row (spliceL [(.int .i64 0), (.string (bs [])), (.slice none 0 0)] 0 (cellsL (.agg #[.int .i64 k', .string (bs n'), .slice a' ll cc]))) true) = h4 at g4 x4 ⊢
    have r4 := r2.ex x4
    refine w_some (v := .agg (eSg ([], 42)).toArray) rfl ?_
    refine takesE (x := ([], 42)) r4 fun h5 x5 => c_f ?_
    refine w_some (v := .agg (eSg ([], 43)).toArray) rfl ?_
    refine takesE (x := ([], 43)) (r4.ex x5) fun h6 x6 => c_f ?_
    refine w_some (v := .agg (eSg ([], 63)).toArray) rfl ?_
    refine takesE (x := ([], 63)) (r4.ex (x5.trans x6)) fun h7 x7 => c_f ?_
    have x47 := (x5.trans x6).trans x7
    refine w_rdPA (x47.some g4) (Nat.le_refl 3) ?_
    exact finE _ h7 F2 (.agg #[.int .i64 k', .string (bs n'), .slice a' ll cc]) e a rfl (c2.trans (Chg.ex (x4.trans x47))) (r4.ex x47) (fun j hj => (x4.trans x47).lt (fb2 j hj)) ⟨_, n', _, _, _, rfl⟩ hrep
theorem orSpec {X : Nat} {s : W} (hs : s.length ≤ 2000) : ∀ f D lo, D ≤ 20 → s.length < lo + f → Spec X s 58 D lo (orr s f D)
  | 0, D, lo, hD, hl => fun h F p ns K hp r _ _ => by have := r.p; omega
  | f + 1, D, lo, hD, hl => by
    have hA : Spec X s 97 D lo (atom s (orr s f) D) := by
      refine atom97 hs hD ?_
      by_cases h : 20 ≤ D
      · exact .inr h
      · exact .inl (orSpec hs f (D + 1) (lo + 1) (by omega) (by omega))
    have ua := atom_up (orr_up s f (D + 1))
    have ur := rep_up ua
    have us := row_up (k := 5) (c := 44) (by decide) ur
    exact or58 hs (seq72 hs (rep90 hs hA) fun p m q h1 h2 => (ur p m q h1 h2).1) fun p m q h1 h2 => (us p m q h1 h2).1
end Go.Proofs.Ytlenlhlipmkeeaa.W
end

section
/- Schema's laws: the program's reader: elements. Conditions: none. -/
namespace Go.Proofs.Ytlenlhlipmkeeaa.W
open Go Go.AM SchM
set_option linter.unusedVariables false
set_option maxRecDepth 100000
def EL (h : AH) (G : Nat → Prop) : List (W × Mdl) → List Value → Prop
  | [], cs => cs = []
  | e :: l, cs => ∃ k n a ll c rest, cs = .string (bs e.1) :: .int .i64 k :: .string (bs n) :: .slice a ll c :: rest ∧ MH h G e.2 (.agg #[.int .i64 k, .string (bs n), .slice a ll c]) ∧ EL h G l rest
theorem EL.mono {h h' : AH} {G G' : Nat → Prop} (hh : ∀ j, G j → h'[j]? = h[j]? ∧ G' j) : ∀ (l : List (W × Mdl)) (cs : List Value), EL h G l cs → EL h' G' l cs
  | [], cs, x => x
  | e :: l, cs, ⟨k, n, a, ll, c, rest, e1, m, r⟩ => ⟨k, n, a, ll, c, rest, e1, MH.mono hh _ _ m, EL.mono hh l rest r⟩
theorem EL.snoc {h : AH} {G : Nat → Prop} {e : W × Mdl} {k : Int} {n : W} {a : Option Addr} {ll c : Nat} (hm : MH h G e.2 (.agg #[.int .i64 k, .string (bs n), .slice a ll c])) : ∀ (l : List (W × Mdl)) (cs : List Value), EL h G l cs → EL h G (l ++ [e]) (cs ++ [.string (bs e.1), .int .i64 k, .string (bs n), .slice a ll c])
  | [], cs, x => by
    have : cs = [] := x
    subst this
    exact ⟨k, n, a, ll, c, [], rfl, hm, rfl⟩
  | f :: l, cs, ⟨k', n', a', ll', c', rest, e1, m, r⟩ => by
    subst e1
    exact ⟨k', n', a', ll', c', _, rfl, m, EL.snoc hm l rest r⟩
theorem EL.get {h : AH} {G : Nat → Prop} : ∀ (l : List (W × Mdl)) (cs : List Value), EL h G l cs → ∀ i e, l[i]? = some e → ∃ k n a ll c, (cs.drop (i * 4)).take 4 = [.string (bs e.1), .int .i64 k, .string (bs n), .slice a ll c] ∧ MH h G e.2 (.agg #[.int .i64 k, .string (bs n), .slice a ll c])
  | [], cs, _ => fun i e hi => by simp at hi
  | f :: l, cs, ⟨k', n', a', ll', c', rest, e1, m, r⟩ => fun i e hi => by
    subst e1
    cases i with
    | zero =>
      cases hi
      exact ⟨k', n', a', ll', c', rfl, m⟩
    | succ i =>
      obtain ⟨k, n, a, ll, c, h1, h2⟩ := EL.get l rest r i e hi
      refine ⟨k, n, a, ll, c, ?_, h2⟩
      have e2 : (i + 1) * 4 = i * 4 + 4 := by omega
      rw [e2]
      exact h1
structure Nm (h : AH) (v : Value) (names : List W) : Prop where
  ex : ∃ cs, Sl 4 h v names.length cs ∧ ∀ i w, names[i]? = some w → ∃ k nn a ll c, (cs.drop (i * 4)).take 4 = [.string (bs w), .int .i64 k, .string (bs nn), .slice a ll c]
theorem Nm.ext {h h' : AH} {v : Value} {names : List W} (x : Nm h v names) (e : Ex h h') : Nm h' v names := by
  obtain ⟨cs, s, r⟩ := x.ex
  exact ⟨⟨cs, s.ex e, r⟩⟩
theorem Nm.keep {h h' : AH} {v : Value} {names : List W} (x : Nm h v names) (e : ∀ j, onId v j → h'[j]? = h[j]?) : Nm h' v names := by
  obtain ⟨cs, s, r⟩ := x.ex
  exact ⟨⟨cs, Sl.keepOn s e, r⟩⟩
theorem has38 {h : AH} {v : Value} {names : List W} {nm : W} {K : Value → AH → Prop} (x : Nm h v names) (hn : names.length ≤ 100000) (k : ∀ h', Ex h h' → K (.bool (decide (nm ∈ names))) h') : callW Try.prog 38 [v, .string (bs nm)] h K := by
  refine c38 ?_
  unfold s38
  refine n_boxv rfl fun h1 x1 l1 g1 => ?_
  have g1' : h1[h.length]? = some (.row [.string (bs nm)] true) := g1
  refine c59 ?_
  unfold s59
  refine c74 ?_
  unfold s74
  obtain ⟨cs, sl, hc⟩ := (x.ext x1).ex
  obtain ⟨a, cap, rfl⟩ := sl.shape
  refine w_lenSl ?_
  refine loopE_intro (fun m e h' => ∃ j : Nat, j ≤ names.length ∧ m = names.length - j ∧ e 0 = .slice a names.length cap ∧ e 1 = .func (.func 60) #[] #[.pointer (some ⟨h.length, 0, none⟩)] ∧ e 7 = .int .i64 (names.length : Nat) ∧ e 8 = .int .i64 (j : Nat) ∧ Ex h1 h' ∧ nm ∉ names.take j) names.length
    ⟨0, Nat.zero_le _, rfl, rfl, rfl, rfl, rfl, Ex.refl _, by simp⟩ ?_
  rintro I m e h2 ⟨j, hj, hm, e0, e1, e7, e8, x2, hni⟩ ih
  rw [e0, e1, e7, e8]
  refine w_lss (c_dec (fun q => ?_) (fun q => ?_))
  · obtain ⟨w, hw⟩ := getElem?_of_lt (l := names) (i := j) (by omega)
    obtain ⟨k', nn, a', ll, c, ec⟩ := hc j w hw
    refine w_idx (sl.ex x2) (by omega) (by omega) fun p hp => ?_
    rw [Int.toNat_natCast, ec] at hp
    refine w_rdA hp rfl ?_
    show callW Try.prog 60 [.agg #[.string (bs w), .int .i64 k', .string (bs nn), .slice a' ll c], .pointer (some ⟨h.length, 0, none⟩)] h2 _
    refine c60 ?_
    unfold s60
    refine n_boxv rfl fun h3 x3 l3 g3 => ?_
    have g3' : h3[h2.length]? = some (.row [.string (bs w), .int .i64 k', .string (bs nn), .slice a' ll c] true) := g3
    refine w_offP (w_rdP g3' (v := .string (bs w)) rfl (w_rdP ((x2.trans x3).some g1') (v := .string (bs nm)) rfl (w_seql (c_dec (fun q2 => ?_) (fun q2 => ?_)))))
    · have hmem : nm ∈ names := by rw [← q2]; exact List.mem_of_getElem? hw
      have := k h3 (x1.trans (x2.trans x3))
      rw [decide_eq_true hmem] at this
      refine w_geq ?_
      rw [decide_eq_true (by omega)]
      exact this
    · refine w_add (by omega) (by omega) ?_
      refine ih (names.length - (j + 1)) _ _ (by omega) ⟨j + 1, by omega, rfl, e0, e1, e7, rfl, x2.trans x3, ?_⟩
      rw [List.take_add_one, hw]
      simp only [Option.toList_some, List.mem_append, List.mem_singleton, not_or]
      exact ⟨hni, fun e => q2 e.symm⟩
  · have : names.take j = names := List.take_of_length_le (by omega)
    rw [this] at hni
    have := k h2 (x1.trans x2)
    rw [decide_eq_false hni] at this
    refine w_geq ?_
    rw [decide_eq_false (by omega)]
    exact this
def isEv (v : Value) : Prop := ∃ w k n a l c, v = .agg #[.string (bs w), .int .i64 k, .string (bs n), .slice a l c]
theorem res61 (n : Nat) (e : Env) (h : AH) : resList Try.prog e h [.cell n 61] = (rdRow true 4 (e n) h).map fun v => [v] := by
  have h2 : ∀ x, pLoad Try.prog 61 x h = rdRow true 4 x h := fun x => by kernel_rfl
  show (match pLoad Try.prog 61 (e n) h with
    | some v => match resList Try.prog e h [] with
      | some vs => some (v :: vs)
      | none => none
    | none => none) = _
  rw [h2]
  cases rdRow true 4 (e n) h <;> rfl
theorem endEl {E : Env} {rs : List ResultVar} {n r : Nat} {h : AH} {c : List Value} {v : Value} {K : Value → AH → Prop} (hr : rs = [.cell n 61]) (hE : E n = .pointer (some ⟨r, 0, none⟩)) (g : h[r]? = some (.row c true)) (hc : c.length = 4) (hv : isEv v) (k : ∀ o, K v (h.set r o)) :
    optW (pStore 4 (.pointer (some ⟨r, 0, none⟩)) v h) fun h' => optW (resList Try.prog E h' rs) fun vs => K (resOf vs) h' := by
  obtain ⟨w', k', n', a, l, cc, rfl⟩ := hv
  refine w_stPA g rfl (by omega) rfl ?_
  have g2 : (h.set r (.row (spliceL c 0 (cellsL (.agg #[.string (bs w'), .int .i64 k', .string (bs n'), .slice a l cc]))) true))[r]? = some (.row [.string (bs w'), .int .i64 k', .string (bs n'), .slice a l cc] true) := by
    rw [get_set _ (lt_of_get g)]
    match c, hc with
    | [x, y, z, u], _ => rfl
  rw [hr, res61, hE]
  refine w_some (v := [Value.agg #[.string (bs w'), .int .i64 k', .string (bs n'), .slice a l cc]]) ?_ (show K (.agg #[.string (bs w'), .int .i64 k', .string (bs n'), .slice a l cc]) _ from k _)
  have e := hopt (o := rdRow true 4 (.pointer (some ⟨r, 0, none⟩)) _) (w_rdPA g2 (Nat.le_refl 4) rfl)
  rw [e]
  rfl
set_option maxHeartbeats 2000000 in
theorem elem36 {h : AH} {X : Nat} {F : Nat → Prop} {s : W} {p : Nat} {ns : List W} {v : Value} {names : List W} {K : Value → AH → Prop} (hs : s.length ≤ 2000) (r : PO h X F s p 0 ns) (hv : Nm h v names) (hvF : ∀ j, onId v j → ¬ F j ∧ j < h.length) (hn : names.length ≤ 1000)
    (k1 : ∀ k n a l c h' F' w m q, elem s names p = .ok (w, m) q → Chg F h F' h' → PO h' X F' s q 0 (ns ++ nms m) → MG h.length h' F' m (.agg #[.int .i64 k, .string (bs n), .slice a l c]) → K (.agg #[.string (bs w), .int .i64 k, .string (bs n), .slice a l c]) h')
    (k2 : ∀ v h' F' e a, elem s names p = .bad e a → Chg F h F' h' → PE h' X F' s 0 e a → (∀ j, F' j → j < h'.length) → isEv v → K v h') : callW Try.prog 36 [.pointer (some ⟨X, 0, none⟩), v] h K := by
  refine c36 ?_
  unfold s36
  refine n_rowv fun h1 x1 l1 g1 => ?_
  have nF : ∀ F' : Nat → Prop, (∀ j, F' j → F j ∨ h.length + 1 ≤ j) → ¬ F' h.length := fun F' hd hf => (hd _ hf).elim (fun hf => by have := r.fb _ hf; omega) (by omega)
  have r1 := r.ex x1
  have cx := Chg.ex (F := F) x1
  have finE : ∀ (E : Env) (h' : AH) (F' : Nat → Prop) (v : Value) (e : Int) (a : Nat), E 4 = .pointer (some ⟨h.length, 0, none⟩) → Chg F h1 F' h' → PE h' X F' s 0 e a → (∀ j, F' j → j < h'.length) → isEv v → elem s names p = .bad e a →
      optW (pStore 4 (.pointer (some ⟨h.length, 0, none⟩)) v h') fun h'' => optW (resList Try.prog E h'' Try.f36.results.toList) fun vs => K (resOf vs) h'' := fun E h' F' v e a hE c' r' fb mv ha => by
    have g' : h'[h.length]? = some (.row [(.string (bs [])), (.int .i64 0), (.string (bs [])), (.slice none 0 0)] true) := (c'.get _ (by omega) (nF F fun j hj => .inl hj)).trans g1
    refine endEl (n := 4) (by kernel_rfl) hE g' rfl mv fun o => ?_
    have nf' := nF F' fun j hj => (c'.dom j hj).imp id (by omega)
    exact k2 v _ F' e a ha ((cx.trans c').setNew (Nat.le_refl _) o) (r'.setNew (fun e => nf' (by rw [e]; exact r'.X)) o) (fun j hj => by rw [List.length_set]; exact fb j hj) mv
  have nvX : ¬ onId v X := fun hon => (hvF X hon).1 r.X
  refine nameO r1 (fun hnm h2 x2 => ?_) (fun hnm h2 c2 r2 => ?_)
  · -- a name
    have r2 := r1.ex x2
    have hel : elem s names p = if (sgn s p).1 ∈ names then .bad 5 p
        else if 8 ≤ names.length then .bad 2 p
        else if sgn s (adv s p) = ([], 61) then
          match orr s (s.length + 1) 0 (adv s (adv s p)) with
          | .bad e a => .bad e a
          | .ok m q => if sgn s q = ([], 59) then .ok ((sgn s p).1, m) (adv s q) else .bad 1 q
        else .bad 1 (adv s p) := by rw [elem, if_pos hnm]; try rfl
    refine w_some (v := .agg #[.string (bs (sgn s p).1), .int .i64 0, .string (bs []), .slice none 0 0]) rfl ?_
    refine n_rowv fun h3 x3 l3 g3 => ?_
    refine w_stPA g3 rfl (by decide) rfl ?_
    have g4 : (h3.set h2.length (.row (spliceL [(.string (bs [])), (.int .i64 0), (.string (bs [])), (.slice none 0 0)] 0 (cellsL (.agg #[.string (bs (sgn s p).1), .int .i64 0, .string (bs []), .slice none 0 0]))) true))[h2.length]? = some (.row [.string (bs (sgn s p).1), .int .i64 0, .string (bs []), .slice none 0 0] true) := get_set _ (lt_of_get g3) _
    have x4 : Ex h2 (h3.set h2.length (.row (spliceL [(.string (bs [])), (.int .i64 0), (.string (bs [])), (.slice none 0 0)] 0 (cellsL (.agg #[.string (bs (sgn s p).1), .int .i64 0, .string (bs []), .slice none 0 0]))) true)) := x3.set (Nat.le_refl _) _
    generalize h3.set h2.length (.row (spliceL [(.string (bs [])), (.int .i64 0), (.string (bs [])), (.slice none 0 0)] 0 (cellsL (.agg #[.string (bs (sgn s p).1), .int .i64 0, .string (bs []), .slice none 0 0]))) true) = h4 at g4 x4 ⊢
    have x14 := x2.trans x4
    have r4 := r1.ex x14
    have c14 := Chg.ex (F := F) x14
    have n5 : ∀ F' : Nat → Prop, (∀ j, F' j → F j ∨ h4.length ≤ j) → ¬ F' h2.length := fun F' hd hf => by
      have l2 := x2.len
      have l4 := lt_of_get g4
      exact (hd _ hf).elim (fun hf => by have := r.fb _ hf; omega) (by omega)
    refine w_offP (w_rdP g4 (v := .string (bs (sgn s p).1)) rfl ?_)
    refine has38 (hv.ext (x1.trans x14)) (by omega) fun h5 x5 => ?_
    have r5 := r4.ex x5
    have c15 := c14.trans (Chg.ex x5)
    have g5 := x5.some g4
    have n5F := n5 F fun j hj => .inl hj
    refine c_dec (fun qm => ?_) (fun qm => ?_)
    · rw [if_pos qm] at hel
      refine wrongO (e := 5) (by decide) r5 fun h6 c6 r6 => ?_
      have g6 := (c6.get _ (lt_of_get g5) n5F).trans g5
      have fb6 : ∀ j, F j → j < h6.length := fun j hj => Nat.lt_of_lt_of_le (r5.fb j hj) c6.len
      obtain ⟨wE, frE, atE, cE, vnE, gE, oE⟩ := (r6).row
      refine w_nilc (w_offP (w_rdP gE (v := .int .i64 (5)) rfl (w_eql (c_ff (r6).e ?_))))
      refine w_some (v := .agg (eSg ([], 61)).toArray) rfl ?_
      refine mustE (x := ([], 61)) (r6) fun hA xA => ?_
      obtain ⟨wE', frE', atE', cE', vnE', gE', oE'⟩ := ((r6).ex xA).row
      refine w_nilc (w_offP (w_rdP gE' (v := .int .i64 (5)) rfl (w_eql (c_ff (r6).e ?_))))
      refine w_some (v := .agg (eSg ([], 59)).toArray) rfl ?_
      refine mustE (x := ([], 59)) ((r6).ex xA) fun hB xB => ?_
      refine w_rdPA ((xA.trans xB).some (g6)) (Nat.le_refl 4) ?_
      exact finE _ hB F (.agg #[.string (bs (sgn s p).1), .int .i64 0, .string (bs []), .slice none 0 0]) (5) p rfl ((c15.trans c6).trans (Chg.ex (xA.trans xB))) ((r6).ex (xA.trans xB)) (fun j hj => (xA.trans xB).lt (fb6 j hj)) ⟨_, _, [], _, _, _, rfl⟩ hel
    rw [if_neg qm] at hel
    obtain ⟨cs0, sl0, hc0⟩ := hv.ex
    obtain ⟨va, vc, rfl⟩ := sl0.shape
    refine w_lenSl (w_geq (c_dec (fun ql => ?_) (fun ql => ?_)))
    · rw [if_pos (by omega)] at hel
      refine wrongO (e := 2) (by decide) r5 fun h6 c6 r6 => ?_
      have g6 := (c6.get _ (lt_of_get g5) n5F).trans g5
      have fb6 : ∀ j, F j → j < h6.length := fun j hj => Nat.lt_of_lt_of_le (r5.fb j hj) c6.len
      obtain ⟨wE, frE, atE, cE, vnE, gE, oE⟩ := (r6).row
      refine w_nilc (w_offP (w_rdP gE (v := .int .i64 (2)) rfl (w_eql (c_ff (r6).e ?_))))
      refine w_some (v := .agg (eSg ([], 61)).toArray) rfl ?_
      refine mustE (x := ([], 61)) (r6) fun hA xA => ?_
      obtain ⟨wE', frE', atE', cE', vnE', gE', oE'⟩ := ((r6).ex xA).row
      refine w_nilc (w_offP (w_rdP gE' (v := .int .i64 (2)) rfl (w_eql (c_ff (r6).e ?_))))
      refine w_some (v := .agg (eSg ([], 59)).toArray) rfl ?_
      refine mustE (x := ([], 59)) ((r6).ex xA) fun hB xB => ?_
      refine w_rdPA ((xA.trans xB).some (g6)) (Nat.le_refl 4) ?_
      exact finE _ hB F (.agg #[.string (bs (sgn s p).1), .int .i64 0, .string (bs []), .slice none 0 0]) (2) p rfl ((c15.trans c6).trans (Chg.ex (xA.trans xB))) ((r6).ex (xA.trans xB)) (fun j hj => (xA.trans xB).lt (fb6 j hj)) ⟨_, _, [], _, _, _, rfl⟩ hel
    rw [if_neg (by omega)] at hel
    obtain ⟨vn5, gr5, _⟩ := r5.row
    refine w_nilc (w_offP (w_rdP gr5 (v := .int .i64 0) rfl (w_eql (c_tt rfl ?_))))
    refine next r5 hs fun h7 c7 r7 => ?_
    have g7 := (c7.get _ (lt_of_get g5) n5F).trans g5
    refine w_some (v := .agg (eSg ([], 61)).toArray) rfl ?_
    refine mustO (x := ([], 61)) r7 hs (fun q8 h8 c8 r8 => ?_) (fun q8 h8 c8 r8 => ?_)
    · rw [if_pos q8] at hel
      have g8 := (c8.get _ (lt_of_get g7) n5F).trans g7
      have c18 := (c15.trans c7).trans c8
      obtain ⟨vn8, gr8, _⟩ := r8.row
      refine w_nilc (w_offP (w_rdP gr8 (v := .int .i64 0) rfl (w_eql (c_tt rfl ?_))))
      refine orSpec (X := X) hs (s.length + 1) 0 0 (by omega) (by omega) h8 F (adv s (adv s p)) ns _ (Nat.zero_le _) r8 (fun vm h9 F9 m q hm c9 r9 m9 => ?_) (fun vm h9 F9 e a hm c9 r9 fb9 m9 => ?_)
      · rw [hm] at hel
        dsimp only at hel
        obtain ⟨k', n', a', l', cc, ev⟩ := m9.shape
        subst ev
        have n9 : ¬ F9 h2.length := fun hf => (c9.dom _ hf).elim n5F fun h => by have := lt_of_get g8; omega
        have g9 := (c9.get _ (lt_of_get g8) n5F).trans g8
        refine w_offP (w_stPA g9 rfl (by show 0 + 1 + 3 ≤ 4; decide) rfl ?_)
        have g10 : (h9.set h2.length (.row (spliceL [.string (bs (sgn s p).1), .int .i64 0, .string (bs []), .slice none 0 0] (0 + 1) (cellsL (.agg #[.int .i64 k', .string (bs n'), .slice a' l' cc]))) true))[h2.length]? = some (.row [.string (bs (sgn s p).1), .int .i64 k', .string (bs n'), .slice a' l' cc] true) := get_set _ (lt_of_get g9) _
        have r10 := r9.setNew n9 (.row (spliceL [.string (bs (sgn s p).1), .int .i64 0, .string (bs []), .slice none 0 0] (0 + 1) (cellsL (.agg #[.int .i64 k', .string (bs n'), .slice a' l' cc]))) true)
        have m10 := m9.setNew (i := h2.length) (fun hg => by have := hg.1; have := lt_of_get g8; omega) (.row (spliceL [.string (bs (sgn s p).1), .int .i64 0, .string (bs []), .slice none 0 0] (0 + 1) (cellsL (.agg #[.int .i64 k', .string (bs n'), .slice a' l' cc]))) true)
        have c110 := (c18.trans c9).setNew (i := h2.length) x2.len (.row (spliceL [.string (bs (sgn s p).1), .int .i64 0, .string (bs []), .slice none 0 0] (0 + 1) (cellsL (.agg #[.int .i64 k', .string (bs n'), .slice a' l' cc]))) true)
        generalize h9.set h2.length (.row (spliceL [.string (bs (sgn s p).1), .int .i64 0, .string (bs []), .slice none 0 0] (0 + 1) (cellsL (.agg #[.int .i64 k', .string (bs n'), .slice a' l' cc]))) true) = h10 at g10 r10 m10 c110 ⊢
        refine w_some (v := .agg (eSg ([], 59)).toArray) rfl ?_
        refine mustO (x := ([], 59)) r10 hs (fun q11 h11 c11 r11 => ?_) (fun q11 h11 c11 r11 => ?_)
        · rw [if_pos q11] at hel
          have g11 := (c11.get _ (lt_of_get g10) n9).trans g10
          refine w_rdPA g11 (Nat.le_refl 4) ?_
          have c111 := c110.trans c11
          have g' : h11[h.length]? = some (.row [(.string (bs [])), (.int .i64 0), (.string (bs [])), (.slice none 0 0)] true) := (c111.get _ (by omega) (nF F fun j hj => .inl hj)).trans g1
          refine endEl (v := .agg #[.string (bs (sgn s p).1), .int .i64 k', .string (bs n'), .slice a' l' cc]) (n := 4) (by kernel_rfl) rfl g' rfl ⟨_, _, n', _, _, _, rfl⟩ fun o => ?_
          have nf' := nF F9 fun j hj => (c111.dom j hj).imp id (by omega)
          have m11 : MG h8.length h11 F9 m (.agg #[.int .i64 k', .string (bs n'), .slice a' l' cc]) := m10.chg c11
          exact k1 k' n' a' l' cc _ F9 (sgn s p).1 m (adv s q) hel ((cx.trans c111).setNew (Nat.le_refl _) o) (r11.setNew nf' o) ((m11.setNew (fun hg => by have := hg.1; have := c18.len; omega) o).low (by have := c18.len; omega))
        · rw [if_neg q11] at hel
          have g11 := (c11.get _ (lt_of_get g10) n9).trans g10
          refine w_rdPA g11 (Nat.le_refl 4) ?_
          exact finE _ h11 F9 (.agg #[.string (bs (sgn s p).1), .int .i64 k', .string (bs n'), .slice a' l' cc]) 1 q rfl (c110.trans c11) r11 (fun j hj => Nat.lt_of_lt_of_le (r10.fb j hj) c11.len) ⟨_, _, n', _, _, _, rfl⟩ hel
      · rw [hm] at hel
        dsimp only at hel
        obtain ⟨k', n', a', l', cc, ev⟩ := m9
        subst ev
        have n9 : ¬ F9 h2.length := fun hf => (c9.dom _ hf).elim n5F fun h => by have := lt_of_get g8; omega
        have g9 := (c9.get _ (lt_of_get g8) n5F).trans g8
        refine w_offP (w_stPA g9 rfl (by show 0 + 1 + 3 ≤ 4; decide) rfl ?_)
        have g10 : (h9.set h2.length (.row (spliceL [.string (bs (sgn s p).1), .int .i64 0, .string (bs []), .slice none 0 0] (0 + 1) (cellsL (.agg #[.int .i64 k', .string (bs n'), .slice a' l' cc]))) true))[h2.length]? = some (.row [.string (bs (sgn s p).1), .int .i64 k', .string (bs n'), .slice a' l' cc] true) := get_set _ (lt_of_get g9) _
        have r10 := r9.setNew (i := h2.length) (fun e => n9 (by rw [e]; exact r9.X)) (.row (spliceL [.string (bs (sgn s p).1), .int .i64 0, .string (bs []), .slice none 0 0] (0 + 1) (cellsL (.agg #[.int .i64 k', .string (bs n'), .slice a' l' cc]))) true)
        have c110 := (c18.trans c9).setNew (i := h2.length) x2.len (.row (spliceL [.string (bs (sgn s p).1), .int .i64 0, .string (bs []), .slice none 0 0] (0 + 1) (cellsL (.agg #[.int .i64 k', .string (bs n'), .slice a' l' cc]))) true)
        have l10 : (h9.set h2.length (.row (spliceL [.string (bs (sgn s p).1), .int .i64 0, .string (bs []), .slice none 0 0] (0 + 1) (cellsL (.agg #[.int .i64 k', .string (bs n'), .slice a' l' cc]))) true)).length = h9.length := List.length_set
        generalize h9.set h2.length (.row (spliceL [.string (bs (sgn s p).1), .int .i64 0, .string (bs []), .slice none 0 0] (0 + 1) (cellsL (.agg #[.int .i64 k', .string (bs n'), .slice a' l' cc]))) true) = h10 at g10 r10 c110 l10 ⊢
        refine w_some (v := .agg (eSg ([], 59)).toArray) rfl ?_
        refine mustE (x := ([], 59)) r10 fun h11 x11 => ?_
        refine w_rdPA (x11.some g10) (Nat.le_refl 4) ?_
        exact finE _ h11 F9 (.agg #[.string (bs (sgn s p).1), .int .i64 k', .string (bs n'), .slice a' l' cc]) e a rfl (c110.trans (Chg.ex x11)) (r10.ex x11) (fun j hj => by have := fb9 j hj; have := x11.len; omega) ⟨_, _, n', _, _, _, rfl⟩ hel
    · rw [if_neg q8] at hel
      have g8 := (c8.get _ (lt_of_get g7) n5F).trans g7
      obtain ⟨wE, frE, atE, cE, vnE, gE, oE⟩ := r8.row
      refine w_nilc (w_offP (w_rdP gE (v := .int .i64 1) rfl (w_eql (c_ff (by decide) ?_))))
      refine w_some (v := .agg (eSg ([], 59)).toArray) rfl ?_
      refine mustE (x := ([], 59)) r8 fun hB xB => ?_
      refine w_rdPA (xB.some g8) (Nat.le_refl 4) ?_
      exact finE _ hB F (.agg #[.string (bs (sgn s p).1), .int .i64 0, .string (bs []), .slice none 0 0]) 1 (adv s p) rfl (((c15.trans c7).trans c8).trans (Chg.ex xB)) (r8.ex xB) (fun j hj => xB.lt (Nat.lt_of_lt_of_le (r7.fb j hj) c8.len)) ⟨_, _, [], _, _, _, rfl⟩ hel
  · -- none
    have hel : elem s names p = .bad 1 p := by rw [elem, if_neg (by rw [hnm]; decide)]
    have l2 := c2.len
    refine w_some (v := .agg #[.string (bs []), .int .i64 0, .string (bs []), .slice none 0 0]) rfl ?_
    refine n_rowv fun h3 x3 l3 g3 => ?_
    refine w_stPA g3 rfl (by decide) rfl ?_
    have g4 : (h3.set h2.length (.row (spliceL [(.string (bs [])), (.int .i64 0), (.string (bs [])), (.slice none 0 0)] 0 (cellsL (.agg #[.string (bs []), .int .i64 0, .string (bs []), .slice none 0 0]))) true))[h2.length]? = some (.row [.string (bs []), .int .i64 0, .string (bs []), .slice none 0 0] true) := get_set _ (lt_of_get g3) _
    have x4 : Ex h2 (h3.set h2.length (.row (spliceL [(.string (bs [])), (.int .i64 0), (.string (bs [])), (.slice none 0 0)] 0 (cellsL (.agg #[.string (bs []), .int .i64 0, .string (bs []), .slice none 0 0]))) true)) := x3.set (Nat.le_refl _) _
    generalize h3.set h2.length (.row (spliceL [(.string (bs [])), (.int .i64 0), (.string (bs [])), (.slice none 0 0)] 0 (cellsL (.agg #[.string (bs []), .int .i64 0, .string (bs []), .slice none 0 0]))) true) = h4 at g4 x4 ⊢
    refine w_offP (w_rdP g4 (v := .string (bs [])) rfl ?_)
    have hv2 : Nm h2 v names := (hv.ext x1).keep fun j hj => c2.get j (x1.lt (hvF j hj).2) (hvF j hj).1
    refine has38 (hv2.ext x4) (by omega) fun h5 x5 => ?_
    have x25 := x4.trans x5
    have r5 := r2.ex x25
    have c15 := c2.trans (Chg.ex x25)
    have g5 := x5.some g4
    have fb5 : ∀ j, F j → j < h5.length := fun j hj => x25.lt (Nat.lt_of_lt_of_le (r1.fb j hj) l2)
    refine c_dec (fun qm => ?_) (fun qm => ?_)
    · refine wrongE r5 ?_
      obtain ⟨wE, frE, atE, cE, vnE, gE, oE⟩ := (r5).row
      refine w_nilc (w_offP (w_rdP gE (v := .int .i64 (1)) rfl (w_eql (c_ff (r5).e ?_))))
      refine w_some (v := .agg (eSg ([], 61)).toArray) rfl ?_
      refine mustE (x := ([], 61)) (r5) fun hA xA => ?_
      obtain ⟨wE', frE', atE', cE', vnE', gE', oE'⟩ := ((r5).ex xA).row
      refine w_nilc (w_offP (w_rdP gE' (v := .int .i64 (1)) rfl (w_eql (c_ff (r5).e ?_))))
      refine w_some (v := .agg (eSg ([], 59)).toArray) rfl ?_
      refine mustE (x := ([], 59)) ((r5).ex xA) fun hB xB => ?_
      refine w_rdPA ((xA.trans xB).some (g5)) (Nat.le_refl 4) ?_
      exact finE _ hB F (.agg #[.string (bs []), .int .i64 0, .string (bs []), .slice none 0 0]) (1) p rfl ((c15).trans (Chg.ex (xA.trans xB))) ((r5).ex (xA.trans xB)) (fun j hj => (xA.trans xB).lt (fb5 j hj)) ⟨_, _, [], _, _, _, rfl⟩ hel
    obtain ⟨cs0, sl0, hc0⟩ := hv.ex
    obtain ⟨va, vc, rfl⟩ := sl0.shape
    refine w_lenSl (w_geq (c_dec (fun ql => ?_) (fun ql => ?_)))
    · refine wrongE r5 ?_
      obtain ⟨wE, frE, atE, cE, vnE, gE, oE⟩ := (r5).row
      refine w_nilc (w_offP (w_rdP gE (v := .int .i64 (1)) rfl (w_eql (c_ff (r5).e ?_))))
      refine w_some (v := .agg (eSg ([], 61)).toArray) rfl ?_
      refine mustE (x := ([], 61)) (r5) fun hA xA => ?_
      obtain ⟨wE', frE', atE', cE', vnE', gE', oE'⟩ := ((r5).ex xA).row
      refine w_nilc (w_offP (w_rdP gE' (v := .int .i64 (1)) rfl (w_eql (c_ff (r5).e ?_))))
      refine w_some (v := .agg (eSg ([], 59)).toArray) rfl ?_
      refine mustE (x := ([], 59)) ((r5).ex xA) fun hB xB => ?_
      refine w_rdPA ((xA.trans xB).some (g5)) (Nat.le_refl 4) ?_
      exact finE _ hB F (.agg #[.string (bs []), .int .i64 0, .string (bs []), .slice none 0 0]) (1) p rfl ((c15).trans (Chg.ex (xA.trans xB))) ((r5).ex (xA.trans xB)) (fun j hj => (xA.trans xB).lt (fb5 j hj)) ⟨_, _, [], _, _, _, rfl⟩ hel
    · skip
      obtain ⟨wE, frE, atE, cE, vnE, gE, oE⟩ := (r5).row
      refine w_nilc (w_offP (w_rdP gE (v := .int .i64 (1)) rfl (w_eql (c_ff (r5).e ?_))))
      refine w_some (v := .agg (eSg ([], 61)).toArray) rfl ?_
      refine mustE (x := ([], 61)) (r5) fun hA xA => ?_
      obtain ⟨wE', frE', atE', cE', vnE', gE', oE'⟩ := ((r5).ex xA).row
      refine w_nilc (w_offP (w_rdP gE' (v := .int .i64 (1)) rfl (w_eql (c_ff (r5).e ?_))))
      refine w_some (v := .agg (eSg ([], 59)).toArray) rfl ?_
      refine mustE (x := ([], 59)) ((r5).ex xA) fun hB xB => ?_
      refine w_rdPA ((xA.trans xB).some (g5)) (Nat.le_refl 4) ?_
      exact finE _ hB F (.agg #[.string (bs []), .int .i64 0, .string (bs []), .slice none 0 0]) (1) p rfl ((c15).trans (Chg.ex (xA.trans xB))) ((r5).ex (xA.trans xB)) (fun j hj => (xA.trans xB).lt (fb5 j hj)) ⟨_, _, [], _, _, _, rfl⟩ hel
end Go.Proofs.Ytlenlhlipmkeeaa.W
end

section
/- Schema's laws: the program's Parse. Conditions: none. -/
namespace Go.Proofs.Ytlenlhlipmkeeaa.W
open Go Go.AM SchM
set_option linter.unusedVariables false
set_option maxRecDepth 100000
theorem clip39 {h : AH} {v : Value} {n : Nat} {cs : List Value} {K : Value → AH → Prop} (hv : Sl 4 h v n cs) (hn : n ≤ 100000) (k : ∀ a, Sl 4 h (.slice a n n) n cs → (∀ j, onId (.slice a n n) j → onId v j) → K (.slice a n n) h) : callW Try.prog 39 [v] h K := by
  refine c39 ?_
  unfold s39
  have hc : (1000000 : Nat) < openCap := by decide
  rcases hv.2 with ⟨rfl, rfl⟩ | ⟨id, off, cap, rfl, hcap, h3⟩
  · refine w_lenSl (w_lenSl (w_some (v := .slice none 0 0) ?_ (k none hv fun j hj => hj)))
    unfold pSliceSl
    dsimp only
    rw [if_pos (by omega)]
    rfl
  · refine w_lenSl (w_lenSl (w_some (v := .slice (some ⟨id, off, none⟩) n n) ?_ (k _ ⟨hv.1, .inr ⟨id, off, n, rfl, .inl ⟨by omega, Nat.le_refl _⟩, h3⟩⟩ fun j hj => hj)))
    unfold pSliceSl
    dsimp only
    have e1 : pSliceB (some (.int .i64 (n : Nat))) n 0 = some n := by
      unfold pSliceB
      dsimp only
      rw [if_pos ⟨by omega, by omega⟩, Int.toNat_natCast]
    have e3 : pSliceEx 4 (some ⟨id, off, none⟩) n n none (some (.int .i64 (n : Nat))) = some (.slice (some ⟨id, off, none⟩) n n) := by
      unfold pSliceEx
      have e4 : pSliceB (some (.int .i64 (n : Nat))) n n = some n := by
        unfold pSliceB
        dsimp only
        rw [if_pos ⟨by omega, by omega⟩, Int.toNat_natCast]
      rw [e4]
      show some (Value.slice (if n = 0 then _ else _) (n - 0) (n - 0)) = _
      rw [Nat.sub_zero]
      by_cases n0 : n = 0
      · rw [if_pos n0]
      · rw [if_neg n0]
        simp
    rcases hcap with hcap | hcap
    · rw [if_pos hcap.1]
      have e2 : pSliceB (some (.int .i64 (n : Nat))) cap cap = some n := by
        unfold pSliceB
        dsimp only
        rw [if_pos ⟨by omega, by have := hcap.2; omega⟩, Int.toNat_natCast]
      rw [e2]
      exact e3
    · rw [if_neg (by omega), if_pos hcap, e1]
      exact e3
theorem joinE_intro {B : (Env → AH → Prop) → Prop} {J : Env → AH → Prop} (Inv : Env → AH → Prop) (hJ : ∀ e h, Inv e h → J e h) (hB : ∀ J', (∀ e h, Inv e h → J' e h) → B J') : joinE B J := hB J hJ
theorem ptr_id {n id off : Nat} {h h' : AH} (e : h'[id]? = h[id]?) : ∀ x ∈ ceOf n (.pointer (some ⟨id, off, none⟩)), vw x h = vw x h' := by
  intro x hx
  rw [ce_id hx]
  exact vw_eq e.symm
theorem idxS1 {h : AH} {v : Value} {n : Nat} {cs : List Value} {i : Nat} {x : Value} {K : Value → Prop} (hv : Sl 1 h v n cs) (hx : cs[i]? = some x) (k : ∀ p, PtrTo h p [x] → K p) : optW (pIdxS 1 v (.int .i64 (i : Nat))) K := by
  have hl : cs.length = n := by have := hv.1; omega
  have hi := (List.getElem?_eq_some_iff.1 hx).1
  refine w_idx hv (by omega) (by omega) fun p hp => k p ?_
  have e : (cs.drop (((i : Nat) : Int).toNat * 1)).take 1 = [x] := by
    rw [Int.toNat_natCast, Nat.mul_one, List.take_one, List.head?_drop, hx]
    rfl
  rw [e] at hp
  exact hp
theorem res27 (e : Env) (h : AH) : resList Try.prog e h Try.f17.results.toList = (rdRow true 2 (e 2) h).map fun v => [v, e 3, e 4] := by
  have h1 : Try.f17.results.toList = [.cell 2 27, .tmp 3, .tmp 4] := by kernel_rfl
  have h2 : ∀ x, pLoad Try.prog 27 x h = rdRow true 2 x h := fun x => by kernel_rfl
  rw [h1]
  show (match pLoad Try.prog 27 (e 2) h with
    | some v => match resList Try.prog e h [.tmp 3, .tmp 4] with
      | some vs => some (v :: vs)
      | none => none
    | none => none) = _
  rw [h2]
  cases rdRow true 2 (e 2) h <;> rfl
def zS : List Value := [(.string (bs [])), (.slice none 0 0)]
theorem endP {E : Env} {r : Nat} {h h0 : AH} {w : W} {a : Option Addr} {l c : Nat} {x y : Value} {K : Value → AH → Prop} (hE : E 2 = .pointer (some ⟨r, 0, none⟩)) (h3 : E 3 = x) (h4 : E 4 = y) (e : h = h0.set r (.row [.string (bs w), .slice a l c] true)) (hr : r < h0.length) (k : K (.tuple #[.agg #[.string (bs w), .slice a l c], x, y]) h) :
    optW (resList Try.prog E h Try.f17.results.toList) fun vs => K (resOf vs) h := by
  have g2 : h[r]? = some (.row [.string (bs w), .slice a l c] true) := by rw [e]; exact get_set _ hr _
  rw [res27, hE, h3, h4]
  refine w_some (v := [Value.agg #[.string (bs w), .slice a l c], x, y]) ?_ (show K (.tuple #[.agg #[.string (bs w), .slice a l c], x, y]) _ from k)
  have e := hopt (o := rdRow true 2 (.pointer (some ⟨r, 0, none⟩)) _) (w_rdPA g2 (Nat.le_refl 2) rfl)
  rw [e]
  rfl
structure BS (h4 : AH) (T X O : Nat) (h : AH) (F : Nat → Prop) (w : W) (vl : Value) : Prop where
  c : Chg (fun j => j = X ∨ j = O) h4 (fun j => F j ∨ j = O) h
  nO : ¬ F O
  o : h[O]? = some (.row [.string (bs w), vl] true)
structure B4 (h0 h4 : AH) (T X O : Nat) : Prop where
  x : Ex h0 h4
  t : h4[T]? = some (.row zS true)
  tX : T ≠ X
  tO : T ≠ O
  xO : X ≠ O
  bX : h0.length ≤ X
  bO : h0.length ≤ O
  bT : h0.length ≤ T
  lX : X < h4.length
  lO : O < h4.length
section
variable {h0 h4 h h' : AH} {T X O : Nat} {F F' : Nat → Prop} {w : W} {vl : Value}
theorem BS.chg (b : BS h4 T X O h F w vl) (c : Chg F h F' h') : BS h4 T X O h' F' w vl := by
  have lO := lt_of_get b.o
  refine ⟨b.c.trans ⟨c.len, fun j hj hn => c.get j hj fun hf => hn (.inl hf), fun j hj => ?_⟩, fun hf => (c.dom O hf).elim b.nO (by omega), (c.get O lO b.nO).trans b.o⟩
  rcases hj with hj | hj
  · exact (c.dom j hj).imp .inl id
  · exact .inl (.inr hj)
theorem BS.ex (b : BS h4 T X O h F w vl) (x : Ex h h') : BS h4 T X O h' F w vl := b.chg (Chg.ex x)
theorem BS.setO (b : BS h4 T X O h F w vl) (w' : W) (vl' : Value) : BS h4 T X O (h.set O (.row [.string (bs w'), vl'] true)) F w' vl' :=
  ⟨b.c.trans (Chg.setf (F := fun j => F j ∨ j = O) (.inr rfl) _), b.nO, get_set _ (lt_of_get b.o) _⟩
theorem BS.t (b4 : B4 h0 h4 T X O) (b : BS h4 T X O h F w vl) : h[T]? = some (.row zS true) :=
  (b.c.get T (lt_of_get b4.t) fun hf => hf.elim b4.tX b4.tO).trans b4.t
theorem BS.toEx (b4 : B4 h0 h4 T X O) (b : BS h4 T X O h F w vl) : Ex h0 h := b.c.toEx b4.x fun j hj => hj.elim (fun e => by rw [e]; exact b4.bX) fun e => by rw [e]; exact b4.bO
theorem BS.tl (b4 : B4 h0 h4 T X O) (b : BS h4 T X O h F w vl) : T < h.length := lt_of_get (b.t b4)
end
theorem PO.setO {h : AH} {X O : Nat} {F : Nat → Prop} {s : W} {p D : Nat} {ns : List W} (r : PO h X F s p D ns) (hO : ¬ F O) (o : AObj) : PO (h.set O o) X F s p D ns := r.setNew hO o
structure LE (b : Nat) (h : AH) (F : Nat → Prop) (v : Value) (l : List (W × Mdl)) : Prop where
  ex : ∃ cs, OwnG 4 (Gd b h F) h v l.length cs ∧ EL h (fun j => Gd b h F j ∧ ¬ onId v j) l cs
theorem LE.chg {b : Nat} {h h' : AH} {F F' : Nat → Prop} {v : Value} {l : List (W × Mdl)} (x : LE b h F v l) (c : Chg F h F' h') : LE b h' F' v l := by
  obtain ⟨cs, g, r⟩ := x.ex
  exact ⟨cs, g.mono (fun j _ hj => (Gd.chg c j hj).2) fun j _ hj => (Gd.chg c j hj).1, EL.mono (fun j hj => ⟨(Gd.chg c j hj.1).1, (Gd.chg c j hj.1).2, hj.2⟩) l cs r⟩
theorem LE.on {b : Nat} {h : AH} {F : Nat → Prop} {v : Value} {l : List (W × Mdl)} (x : LE b h F v l) {j : Nat} (hj : onId v j) : Gd b h F j := by
  obtain ⟨cs, g, r⟩ := x.ex
  exact (g.on hj).1
theorem LE.nm {b : Nat} {h : AH} {F : Nat → Prop} {v : Value} {l : List (W × Mdl)} (x : LE b h F v l) : Nm h v (l.map (·.1)) := by
  obtain ⟨cs, g, r⟩ := x.ex
  refine ⟨⟨cs, by rw [List.length_map]; exact g.sl, fun i w hw => ?_⟩⟩
  rw [List.getElem?_map] at hw
  cases hl : l[i]? with
  | none => rw [hl] at hw; cases hw
  | some e =>
    rw [hl] at hw
    cases hw
    obtain ⟨k, n, a, ll, c, h1, _⟩ := EL.get l cs r i e hl
    exact ⟨k, n, a, ll, c, h1⟩
end Go.Proofs.Ytlenlhlipmkeeaa.W
end

section
/- The law's within. Conditions: none. -/
namespace Go.Proofs.Ytlenlhlipmkeeaa.W
open Go Go.AM
set_option maxRecDepth 100000
theorem within15 (a n : Int) (h : AH) (K : Value → AH → Prop) (h1 : 0 < n) (h2 : n ≤ 1152921504606846976)
   (k : K (.int .i64 (a % n)) h) : callW Try.prog 15 [.int .i64 a, .int .i64 n] h K := by
  obtain ⟨_, q1, q2, q3, q4⟩ := tmod_emod a n h1
  refine c15 ?_
  unfold s15
  refine w_tmod (by omega) ?_
  generalize hm : a.tmod n = m at *
  (repeat' (with_reducible first | refine w_lss ?_ | refine w_leq ?_ | refine w_gtr ?_ | refine w_geq ?_ | refine w_eql ?_ | refine w_neq ?_ | refine w_lenSl ?_ | refine w_lenStr ?_ | refine w_not ?_ | refine w_add (by omega) (by omega) ?_ | refine w_sub (by omega) (by omega) ?_ | refine w_rem (by omega) (by omega) ?_ | refine w_quo (by omega) (by omega) (by omega) ?_ | refine w_seql ?_ | refine w_sneq ?_ | refine c_t ?_ | refine c_f ?_ | refine c_tt (by first | assumption | omega) ?_ | refine c_ff (by first | assumption | omega) ?_ | refine c_dec (fun hc => ?_) (fun hc => ?_) | refine c_b (fun hc => ?_) (fun hc => ?_) | refine gc_tt ?_ | refine gc_ft ?_ | refine gc_tf ?_ | refine gc_ff ?_ | refine g_tt (by first | assumption | omega) ?_ | refine g_tf (by first | assumption | omega) ?_ | refine g_ft (by first | assumption | omega) ?_ | refine g_ff (by first | assumption | omega) ?_ | refine g_dec (fun hc => ?_) (fun hc => ?_) | refine g_decf (fun hc => ?_) (fun hc => ?_) | refine pk_t ?_ | refine pk_f ?_ | refine pk_tt (by first | assumption | omega) ?_ | refine pk_ff (by first | assumption | omega) ?_))
  · rw [q1 (by assumption)]; exact k
  · rw [q2 (by assumption)]; exact k
end Go.Proofs.Ytlenlhlipmkeeaa.W
end
