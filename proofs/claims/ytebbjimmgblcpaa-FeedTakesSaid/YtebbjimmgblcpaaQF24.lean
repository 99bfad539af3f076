/- FeedDeep, and the machine that takes all: plain mathematics. Conditions: none. -/
import Derived.Test.YtebbjimmgblcpaaQF23
namespace Go.Proofs.Ytebbjimmgblcpaa.W
open Go Go.AM FeedM
set_option linter.unusedVariables false
set_option maxRecDepth 100000

theorem signOf_len {l : List Sy} (ok : okSy l) {k : Nat} {x : Sy} (hx : l[k]? = some x) : 1 ≤ (signOf x).length ∧ (signOf x).length ≤ 4 := by
  obtain ⟨_, ⟨c, hc, _⟩, _⟩ := ok _ _ hx
  unfold signOf
  rw [hc]
  split
  · exact ⟨by simp, by simp⟩
  split
  · exact ⟨by simp, by simp⟩
  · exact ⟨by simp, by simp⟩

theorem deep_err {l : List Sy} {m : Mach} {d : Int} {w : List Int} {r : Int} {st : FS} {k : Nat} {x : Sy} (g : Good l m d w r st) (ok : okSy l) (hx : l[k]? = some x) (h1 : x.2 = 1) (hd : (opn l w : Int) = d) :
    (FeedM.write st (signOf x ++ [32])).e = 13 ∧ (FeedM.write st (signOf x ++ [32])).place = r ∧ (FeedM.write st (signOf x ++ [32])).under.length = opn l w := by
  obtain ⟨hi, ⟨c, h2, hc⟩, _⟩ := ok _ _ hx
  have hs : signOf x = [60, c, 62] := by unfold signOf; rw [if_pos h1, h2]; rfl
  rw [hs, write_app, lex_open g.s g.e hc]
  have hidx : idxOf ([c], 1) st.l = k := by
    have : x = ([c], 1) := by rw [← h1, ← h2]
    rw [g.hl, ← this, hi]
  have hsym : FeedM.sym { st with s := [60, c], at_ := st.read, read := st.read + 2 } [c] 1 = FeedM.wrong { st with s := [], at_ := st.read, read := st.read + 2 } 13 st.read := by
    unfold FeedM.sym
    dsimp only
    rw [hidx, if_neg (by omega), if_pos ⟨rfl, by rw [g.deep, g.under]; omega⟩]
  have hw : FeedM.wrong { st with s := [], at_ := st.read, read := st.read + 2 } 13 st.read = { st with s := [], at_ := st.read, read := st.read + 2, e := 13, place := st.read } := by
    unfold FeedM.wrong
    rw [if_pos g.e]
  rw [hsym, hw, write_err (by simp [rd1])]
  exact ⟨rfl, g.read, g.under⟩

theorem deep_ok {l : List Sy} {m : Mach} {d : Int} {w : List Int} {r : Int} {st : FS} {k : Int} {x : Sy} (g : Good l m d w r st) (ok : okSy l) (hk : 0 ≤ k) (hx : l[k.toNat]? = some x) (hd : x.2 = 1 → (opn l w : Int) < d) :
    Good l m d (w ++ [k]) (r + ((signOf x).length + 1 : Nat)) (FeedM.write st (signOf x ++ [32])) := by
  have p := sign_good g hx hk ok hd
  rw [write_app, write_cons p.e, write_nil]
  have := blank_pre p (c := 32) (.inl rfl)
  have e : r + ((signOf x).length + 1 : Nat) = r + ((signOf x).length : Nat) + 1 := by omega
  rw [e]
  exact this

/-- the machine that takes all is always where it began. -/
theorem each_final {l : List Sy} (lc : l ∈ symChoices) : (0 : Int) ∈ (eachM l).final := by
  have : ∀ l ∈ symChoices, (0 : Int) ∈ (eachM l).final := by decide
  exact this l lc

def atZ (R : Row) : Prop := ∀ q, R q ↔ q = (0, 0)
/-- each level was opened by a symbol that opens. -/
def ZInv (l : List Sy) (p : Lv × List Lv) : Prop := atZ p.1.row ∧ (∀ v ∈ p.2, atZ v.row) ∧ (∀ i v, (p.2 ++ [p.1])[i + 1]? = some v → kindAt l v.bys.toNat = 1 ∧ 0 ≤ v.bys ∧ v.bys.toNat < l.length)

theorem each_r1 : ∀ l ∈ symChoices, ∀ k, k < l.length → (kindAt l k == 1) = true → (eachM l).opens.contains (0, (k : Int), 0, 1) = true := by decide
theorem each_r2 : ∀ l ∈ symChoices, ∀ k, k < l.length → (kindAt l k == 2) = true → (eachM l).closes.contains (0, (k : Int), 0, 0) = true ∧ (eachM l).closes.contains (0, (k : Int), 1, 0) = true := by decide
theorem each_r3 : ∀ l ∈ symChoices, ∀ k, k < l.length → (kindAt l k == 1 || kindAt l k == 2) = false → (eachM l).inners.contains (0, (k : Int), 0) = true := by decide
theorem each_rules (l : List Sy) (lc : l ∈ symChoices) (k : Nat) (hk : k < l.length) : (kindAt l k = 1 → (0, (k : Int), 0, 1) ∈ (eachM l).opens) ∧ (kindAt l k = 2 → (0, (k : Int), 0, 0) ∈ (eachM l).closes ∧ (0, (k : Int), 1, 0) ∈ (eachM l).closes) ∧ (kindAt l k ≠ 1 → kindAt l k ≠ 2 → (0, (k : Int), 0) ∈ (eachM l).inners) := by
  refine ⟨fun h => ?_, fun h => ?_, fun h1 h2 => ?_⟩
  · exact List.contains_iff_mem.1 (each_r1 l lc k hk (by rw [h]; rfl))
  · have := each_r2 l lc k hk (by rw [h]; rfl)
    exact ⟨List.contains_iff_mem.1 this.1, List.contains_iff_mem.1 this.2⟩
  · exact List.contains_iff_mem.1 (each_r3 l lc k hk (by simp [h1, h2]))
theorem each_zero : ∀ l ∈ symChoices, (∀ o ∈ (eachM l).opens, o.2.2.1 = 0 ∧ o.2.2.2 = 1) ∧ (∀ o ∈ (eachM l).closes, o.2.2.2 = 0) ∧ (∀ o ∈ (eachM l).inners, o.2.2 = 0) ∧ (eachM l).init = [0] := by decide

theorem zinv_step {l : List Sy} (lc : l ∈ symChoices) {p : Lv × List Lv} (z : ZInv l p) {k : Int} (hk : 0 ≤ k) (hkl : k < (l.length : Nat)) : ZInv l (mstep (eachM l) l p k) := by
  obtain ⟨z1, z2, z3⟩ := z
  obtain ⟨q1, q2, q3⟩ := each_rules l lc k.toNat (by omega)
  obtain ⟨o1, o2, o3, _⟩ := each_zero l lc
  have ek : ((k.toNat : Nat) : Int) = k := by omega
  rw [ek] at q1 q2 q3
  unfold mstep
  by_cases h1 : kindAt l k.toNat = 1
  · rw [if_pos h1]
    refine ⟨fun q => ⟨?_, ?_⟩, ?_, ?_⟩
    · rintro ⟨a, p', hp', o, ho, b1, b2, b3⟩
      have := (o1 o ho).1
      refine Prod.ext ?_ ?_
      · show q.1 = 0; omega
      · show q.2 = 0; omega
    · rintro rfl
      exact ⟨rfl, (0, 0), (z1 _).2 rfl, (0, k, 0, 1), q1 h1, rfl, rfl, rfl⟩
    · intro v hv
      rcases List.mem_append.1 hv with hv | hv
      · exact z2 v hv
      · rw [List.mem_singleton.1 hv]; exact z1
    · intro i v hv
      dsimp only at hv
      by_cases hi : i + 1 < (p.2 ++ [p.1]).length
      · rw [List.getElem?_append_left hi] at hv
        exact z3 i v hv
      · rw [List.getElem?_append_right (by omega)] at hv
        have : i + 1 - (p.2 ++ [p.1]).length = 0 := by
          have := (List.getElem?_eq_some_iff.1 hv).1
          simp at this ⊢
          omega
        rw [this] at hv
        obtain rfl := Option.some.inj hv
        exact ⟨h1, hk, by dsimp only; omega⟩
  rw [if_neg h1]
  by_cases h2 : kindAt l k.toNat = 2
  · rw [if_pos h2]
    cases hg : p.2.getLast? with
    | none =>
      dsimp only
      have hnil := List.getLast?_eq_none_iff.1 hg
      refine ⟨fun q => ⟨?_, ?_⟩, z2, ?_⟩
      · rintro ⟨b, hb, c, hc, b1, b2, b3, b4⟩
        have := (z1 _).1 hb
        have := o2 c hc
        refine Prod.ext ?_ ?_
        · show q.1 = 0
          exact congrArg Prod.fst ((z1 _).1 hb)
        · show q.2 = 0; omega
      · rintro rfl
        exact ⟨0, (z1 _).2 rfl, (0, k, 0, 0), (q2 h2).1, rfl, rfl, rfl, rfl⟩
      · intro i v hv
        dsimp only at hv
        rw [hnil] at hv
        simp at hv
    | some u =>
      dsimp only
      have hne : p.2 ≠ [] := by intro h; rw [h] at hg; cases hg
      have hu : p.2 = p.2.dropLast ++ [u] := by
        have h1 : p.2.getLast hne = u := by rw [List.getLast?_eq_some_getLast hne] at hg; exact Option.some.inj hg
        rw [← h1, List.dropLast_concat_getLast]
      have hum : u ∈ p.2 := by rw [hu]; simp
      have hpos : 0 < p.2.length := List.length_pos_iff.2 hne
      obtain ⟨y1, y2, y3⟩ := z3 (p.2.length - 1) p.1 (by
        have : p.2.length - 1 + 1 = p.2.length := by omega
        rw [this]; simp)
      have eb : ((p.1.bys.toNat : Nat) : Int) = p.1.bys := by omega
      have ob := (each_rules l lc p.1.bys.toNat y3).1 y1
      rw [eb] at ob
      refine ⟨fun q => ⟨?_, ?_⟩, ?_, ?_⟩
      · rintro ⟨b, hb, o, ho, b1, b2, c, hc, b3, b4, b5, b6⟩
        have hq := (z2 u hum _).1 hb
        have := o2 c hc
        refine Prod.ext ?_ ?_
        · show q.1 = 0
          exact congrArg Prod.fst hq
        · show q.2 = 0; omega
      · rintro rfl
        exact ⟨0, (z2 u hum _).2 rfl, (0, p.1.bys, 0, 1), ob, rfl, rfl, (0, k, 1, 0), (q2 h2).2, rfl, rfl, (z1 _).2 rfl, rfl⟩
      · intro v hv
        exact z2 v (List.dropLast_subset _ hv)
      · intro i v hv
        dsimp only at hv
        refine ⟨?_, ?_⟩
        all_goals
          by_cases hi : i + 1 < p.2.dropLast.length
          · rw [List.getElem?_append_left hi] at hv
            have := z3 i v (by
              rw [List.getElem?_append_left (by rw [List.length_dropLast] at hi; omega), hu, List.getElem?_append_left hi]
              exact hv)
            first | exact this.1 | exact this.2
          · have hl := (List.getElem?_eq_some_iff.1 hv).1
            simp only [List.length_append, List.length_singleton] at hl
            have e1 : i + 1 = p.2.dropLast.length := by omega
            rw [List.getElem?_append_right (by omega), e1] at hv
            simp at hv
            subst hv
            have := z3 i u (by
              rw [List.length_dropLast] at e1
              rw [List.getElem?_append_left (by omega), hu, List.getElem?_append_right (by rw [List.length_dropLast]; omega)]
              have : i + 1 - p.2.dropLast.length = 0 := by rw [List.length_dropLast]; omega
              rw [this]
              rfl)
            first | exact this.1 | exact this.2
  · rw [if_neg h2]
    refine ⟨fun q => ⟨?_, ?_⟩, z2, ?_⟩
    · rintro ⟨b, hb, o, ho, b1, b2, b3⟩
      have := o3 o ho
      have hq := (z1 _).1 hb
      refine Prod.ext ?_ ?_
      · show q.1 = 0
        exact congrArg Prod.fst hq
      · show q.2 = 0; omega
    · rintro rfl
      exact ⟨0, (z1 _).2 rfl, (0, k, 0), q3 h1 h2, rfl, rfl, rfl⟩
    · intro i v hv
      dsimp only at hv
      by_cases hi : i + 1 < p.2.length
      · rw [List.getElem?_append_left hi] at hv
        exact z3 i v (by rw [List.getElem?_append_left hi]; exact hv)
      · have hl := (List.getElem?_eq_some_iff.1 hv).1
        simp only [List.length_append, List.length_singleton] at hl
        have e1 : i + 1 = p.2.length := by omega
        rw [e1] at hv
        simp at hv
        subst hv
        exact z3 i p.1 (by rw [e1]; simp)

theorem zinv_run {l : List Sy} (lc : l ∈ symChoices) : ∀ (w : List Int), (∀ k ∈ w, 0 ≤ k ∧ k < (l.length : Nat)) → ZInv l (mrun (eachM l) l w) := by
  refine snoc_ind ?_ ?_
  · intro _
    refine ⟨fun q => ⟨?_, ?_⟩, ?_, ?_⟩
    · rintro ⟨h1, h2⟩
      rw [(each_zero l lc).2.2.2] at h2
      have := List.mem_singleton.1 h2
      exact Prod.ext this (by show q.2 = 0; rw [← h1]; exact this)
    · rintro rfl
      exact ⟨rfl, by rw [(each_zero l lc).2.2.2]; simp⟩
    · intro v hv; cases hv
    · intro i v hv
      simp [mrun] at hv
  · intro w k ih hw
    rw [mrun_snoc]
    have := hw k (by simp)
    exact zinv_step lc (ih fun j hj => hw j (by simp [hj])) this.1 this.2

theorem each_isFinal {l : List Sy} (lc : l ∈ symChoices) {w : List Int} (hw : ∀ k ∈ w, 0 ≤ k ∧ k < (l.length : Nat)) {st : FS} (hm : st.m = eachM l) (hn : st.now = (mrun (eachM l) l w).1) : isFinal st := by
  have z := zinv_run lc w hw
  exact ⟨0, 0, by rw [hn]; exact (z.1 _).2 rfl, by rw [hm]; exact each_final lc⟩
end Go.Proofs.Ytebbjimmgblcpaa.W
