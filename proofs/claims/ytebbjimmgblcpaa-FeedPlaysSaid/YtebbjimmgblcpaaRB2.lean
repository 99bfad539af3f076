/- Parts of a proof, joined by a program. Conditions: none. -/
import Derived.Test.YtebbjimmgblcpaaRB1
import Derived.Test.YtebbjimmgblcpaaRS0
import Derived.Test.YtebbjimmgblcpaaRS1

section
/- FeedDeep, and the machine that takes all: plain mathematics. Conditions: none. -/
namespace Go.Proofs.Ytebbjimmgblcpaa.W
open Go Go.AM FeedM
set_option linter.unusedVariables false
set_option maxRecDepth 100000

theorem signOf_len {l : List Sy} (ok : okSy l) {k : Nat} {x : Sy} (hx : l[k]? = some x) : 1 ≤ (signOf x).length ∧ (signOf x).length ≤ 4 := by
  obtain ⟨_, ⟨c, hc, _⟩, _⟩ := ok _ _ hx
  unfold signOf
  rw [hc]
  split
  · exact ⟨by simp, by simp⟩
  split
  · exact ⟨by simp, by simp⟩
  · exact ⟨by simp, by simp⟩

theorem deep_err {l : List Sy} {m : Mach} {d : Int} {w : List Int} {r : Int} {st : FS} {k : Nat} {x : Sy} (g : Good l m d w r st) (ok : okSy l) (hx : l[k]? = some x) (h1 : x.2 = 1) (hd : (opn l w : Int) = d) :
    (FeedM.write st (signOf x ++ [32])).e = 13 ∧ (FeedM.write st (signOf x ++ [32])).place = r ∧ (FeedM.write st (signOf x ++ [32])).under.length = opn l w := by
  obtain ⟨hi, ⟨c, h2, hc⟩, _⟩ := ok _ _ hx
  have hs : signOf x = [60, c, 62] := by unfold signOf; rw [if_pos h1, h2]; rfl
  rw [hs, write_app, lex_open g.s g.e hc]
  have hidx : idxOf ([c], 1) st.l = k := by
    have : x = ([c], 1) := by rw [← h1, ← h2]
    rw [g.hl, ← this, hi]
  have hsym : FeedM.sym { st with s := [60, c], at_ := st.read, read := st.read + 2 } [c] 1 = FeedM.wrong { st with s := [], at_ := st.read, read := st.read + 2 } 13 st.read := by
    unfold FeedM.sym
    dsimp only
    rw [hidx, if_neg (by omega), if_pos ⟨rfl, by rw [g.deep, g.under]; omega⟩]
  have hw : FeedM.wrong { st with s := [], at_ := st.read, read := st.read + 2 } 13 st.read = { st with s := [], at_ := st.read, read := st.read + 2, e := 13, place := st.read } := by
    unfold FeedM.wrong
    rw [if_pos g.e]
  rw [hsym, hw, write_err (by simp [rd1])]
  exact ⟨rfl, g.read, g.under⟩

theorem deep_ok {l : List Sy} {m : Mach} {d : Int} {w : List Int} {r : Int} {st : FS} {k : Int} {x : Sy} (g : Good l m d w r st) (ok : okSy l) (hk : 0 ≤ k) (hx : l[k.toNat]? = some x) (hd : x.2 = 1 → (opn l w : Int) < d) :
    Good l m d (w ++ [k]) (r + ((signOf x).length + 1 : Nat)) (FeedM.write st (signOf x ++ [32])) := by
  have p := sign_good g hx hk ok hd
  rw [write_app, write_cons p.e, write_nil]
  have := blank_pre p (c := 32) (.inl rfl)
  have e : r + ((signOf x).length + 1 : Nat) = r + ((signOf x).length : Nat) + 1 := by omega
  rw [e]
  exact this

/-- the machine that takes all is always where it began. -/
theorem each_final {l : List Sy} (lc : l ∈ symChoices) : (0 : Int) ∈ (eachM l).final := by
  have : ∀ l ∈ symChoices, (0 : Int) ∈ (eachM l).final := by decide
  exact this l lc

def atZ (R : Row) : Prop := ∀ q, R q ↔ q = (0, 0)
/-- each level was opened by a symbol that opens. -/
def ZInv (l : List Sy) (p : Lv × List Lv) : Prop := atZ p.1.row ∧ (∀ v ∈ p.2, atZ v.row) ∧ (∀ i v, (p.2 ++ [p.1])[i + 1]? = some v → kindAt l v.bys.toNat = 1 ∧ 0 ≤ v.bys ∧ v.bys.toNat < l.length)

theorem each_r1 : ∀ l ∈ symChoices, ∀ k, k < l.length → (kindAt l k == 1) = true → (eachM l).opens.contains (0, (k : Int), 0, 1) = true := by decide
theorem each_r2 : ∀ l ∈ symChoices, ∀ k, k < l.length → (kindAt l k == 2) = true → (eachM l).closes.contains (0, (k : Int), 0, 0) = true ∧ (eachM l).closes.contains (0, (k : Int), 1, 0) = true := by decide
theorem each_r3 : ∀ l ∈ symChoices, ∀ k, k < l.length → (kindAt l k == 1 || kindAt l k == 2) = false → (eachM l).inners.contains (0, (k : Int), 0) = true := by decide
theorem each_rules (l : List Sy) (lc : l ∈ symChoices) (k : Nat) (hk : k < l.length) : (kindAt l k = 1 → (0, (k : Int), 0, 1) ∈ (eachM l).opens) ∧ (kindAt l k = 2 → (0, (k : Int), 0, 0) ∈ (eachM l).closes ∧ (0, (k : Int), 1, 0) ∈ (eachM l).closes) ∧ (kindAt l k ≠ 1 → kindAt l k ≠ 2 → (0, (k : Int), 0) ∈ (eachM l).inners) := by
  refine ⟨fun h => ?_, fun h => ?_, fun h1 h2 => ?_⟩
  · exact List.contains_iff_mem.1 (each_r1 l lc k hk (by rw [h]; rfl))
  · have := each_r2 l lc k hk (by rw [h]; rfl)
    exact ⟨List.contains_iff_mem.1 this.1, List.contains_iff_mem.1 this.2⟩
  · exact List.contains_iff_mem.1 (each_r3 l lc k hk (by simp [h1, h2]))
theorem each_zero : ∀ l ∈ symChoices, (∀ o ∈ (eachM l).opens, o.2.2.1 = 0 ∧ o.2.2.2 = 1) ∧ (∀ o ∈ (eachM l).closes, o.2.2.2 = 0) ∧ (∀ o ∈ (eachM l).inners, o.2.2 = 0) ∧ (eachM l).init = [0] := by decide

theorem zinv_step {l : List Sy} (lc : l ∈ symChoices) {p : Lv × List Lv} (z : ZInv l p) {k : Int} (hk : 0 ≤ k) (hkl : k < (l.length : Nat)) : ZInv l (mstep (eachM l) l p k) := by
  obtain ⟨z1, z2, z3⟩ := z
  obtain ⟨q1, q2, q3⟩ := each_rules l lc k.toNat (by omega)
  obtain ⟨o1, o2, o3, _⟩ := each_zero l lc
  have ek : ((k.toNat : Nat) : Int) = k := by omega
  rw [ek] at q1 q2 q3
  unfold mstep
  by_cases h1 : kindAt l k.toNat = 1
  · rw [if_pos h1]
    refine ⟨fun q => ⟨?_, ?_⟩, ?_, ?_⟩
    · rintro ⟨a, p', hp', o, ho, b1, b2, b3⟩
      have := (o1 o ho).1
      refine Prod.ext ?_ ?_
      · show q.1 = 0; omega
      · show q.2 = 0; omega
    · rintro rfl
      exact ⟨rfl, (0, 0), (z1 _).2 rfl, (0, k, 0, 1), q1 h1, rfl, rfl, rfl⟩
    · intro v hv
      rcases List.mem_append.1 hv with hv | hv
      · exact z2 v hv
      · rw [List.mem_singleton.1 hv]; exact z1
    · intro i v hv
      dsimp only at hv
      by_cases hi : i + 1 < (p.2 ++ [p.1]).length
      · rw [List.getElem?_append_left hi] at hv
        exact z3 i v hv
      · rw [List.getElem?_append_right (by omega)] at hv
        have : i + 1 - (p.2 ++ [p.1]).length = 0 := by
          have := (List.getElem?_eq_some_iff.1 hv).1
          simp at this ⊢
          omega
        rw [this] at hv
        obtain rfl := Option.some.inj hv
        exact ⟨h1, hk, by dsimp only; omega⟩
  rw [if_neg h1]
  by_cases h2 : kindAt l k.toNat = 2
  · rw [if_pos h2]
    cases hg : p.2.getLast? with
    | none =>
      dsimp only
      have hnil := List.getLast?_eq_none_iff.1 hg
      refine ⟨fun q => ⟨?_, ?_⟩, z2, ?_⟩
      · rintro ⟨b, hb, c, hc, b1, b2, b3, b4⟩
        have := (z1 _).1 hb
        have := o2 c hc
        refine Prod.ext ?_ ?_
        · show q.1 = 0
          exact congrArg Prod.fst ((z1 _).1 hb)
        · show q.2 = 0; omega
      · rintro rfl
        exact ⟨0, (z1 _).2 rfl, (0, k, 0, 0), (q2 h2).1, rfl, rfl, rfl, rfl⟩
      · intro i v hv
        dsimp only at hv
        rw [hnil] at hv
        simp at hv
    | some u =>
      dsimp only
      have hne : p.2 ≠ [] := by intro h; rw [h] at hg; cases hg
      have hu : p.2 = p.2.dropLast ++ [u] := by
        have h1 : p.2.getLast hne = u := by rw [List.getLast?_eq_some_getLast hne] at hg; exact Option.some.inj hg
        rw [← h1, List.dropLast_concat_getLast]
      have hum : u ∈ p.2 := by rw [hu]; simp
      have hpos : 0 < p.2.length := List.length_pos_iff.2 hne
      obtain ⟨y1, y2, y3⟩ := z3 (p.2.length - 1) p.1 (by
        have : p.2.length - 1 + 1 = p.2.length := by omega
        rw [this]; simp)
      have eb : ((p.1.bys.toNat : Nat) : Int) = p.1.bys := by omega
      have ob := (each_rules l lc p.1.bys.toNat y3).1 y1
      rw [eb] at ob
      refine ⟨fun q => ⟨?_, ?_⟩, ?_, ?_⟩
      · rintro ⟨b, hb, o, ho, b1, b2, c, hc, b3, b4, b5, b6⟩
        have hq := (z2 u hum _).1 hb
        have := o2 c hc
        refine Prod.ext ?_ ?_
        · show q.1 = 0
          exact congrArg Prod.fst hq
        · show q.2 = 0; omega
      · rintro rfl
        exact ⟨0, (z2 u hum _).2 rfl, (0, p.1.bys, 0, 1), ob, rfl, rfl, (0, k, 1, 0), (q2 h2).2, rfl, rfl, (z1 _).2 rfl, rfl⟩
      · intro v hv
        exact z2 v (List.dropLast_subset _ hv)
      · intro i v hv
        dsimp only at hv
        refine ⟨?_, ?_⟩
        all_goals
          by_cases hi : i + 1 < p.2.dropLast.length
          · rw [List.getElem?_append_left hi] at hv
            have := z3 i v (by
              rw [List.getElem?_append_left (by rw [List.length_dropLast] at hi; omega), hu, List.getElem?_append_left hi]
              exact hv)
            first | exact this.1 | exact this.2
          · have hl := (List.getElem?_eq_some_iff.1 hv).1
            simp only [List.length_append, List.length_singleton] at hl
            have e1 : i + 1 = p.2.dropLast.length := by omega
            rw [List.getElem?_append_right (by omega), e1] at hv
            simp at hv
            subst hv
            have := z3 i u (by
              rw [List.length_dropLast] at e1
              rw [List.getElem?_append_left (by omega), hu, List.getElem?_append_right (by rw [List.length_dropLast]; omega)]
              have : i + 1 - p.2.dropLast.length = 0 := by rw [List.length_dropLast]; omega
              rw [this]
              rfl)
            first | exact this.1 | exact this.2
  · rw [if_neg h2]
    refine ⟨fun q => ⟨?_, ?_⟩, z2, ?_⟩
    · rintro ⟨b, hb, o, ho, b1, b2, b3⟩
      have := o3 o ho
      have hq := (z1 _).1 hb
      refine Prod.ext ?_ ?_
      · show q.1 = 0
        exact congrArg Prod.fst hq
      · show q.2 = 0; omega
    · rintro rfl
      exact ⟨0, (z1 _).2 rfl, (0, k, 0), q3 h1 h2, rfl, rfl, rfl⟩
    · intro i v hv
      dsimp only at hv
      by_cases hi : i + 1 < p.2.length
      · rw [List.getElem?_append_left hi] at hv
        exact z3 i v (by rw [List.getElem?_append_left hi]; exact hv)
      · have hl := (List.getElem?_eq_some_iff.1 hv).1
        simp only [List.length_append, List.length_singleton] at hl
        have e1 : i + 1 = p.2.length := by omega
        rw [e1] at hv
        simp at hv
        subst hv
        exact z3 i p.1 (by rw [e1]; simp)

theorem zinv_run {l : List Sy} (lc : l ∈ symChoices) : ∀ (w : List Int), (∀ k ∈ w, 0 ≤ k ∧ k < (l.length : Nat)) → ZInv l (mrun (eachM l) l w) := by
  refine snoc_ind ?_ ?_
  · intro _
    refine ⟨fun q => ⟨?_, ?_⟩, ?_, ?_⟩
    · rintro ⟨h1, h2⟩
      rw [(each_zero l lc).2.2.2] at h2
      have := List.mem_singleton.1 h2
      exact Prod.ext this (by show q.2 = 0; rw [← h1]; exact this)
    · rintro rfl
      exact ⟨rfl, by rw [(each_zero l lc).2.2.2]; simp⟩
    · intro v hv; cases hv
    · intro i v hv
      simp [mrun] at hv
  · intro w k ih hw
    rw [mrun_snoc]
    have := hw k (by simp)
    exact zinv_step lc (ih fun j hj => hw j (by simp [hj])) this.1 this.2

theorem each_isFinal {l : List Sy} (lc : l ∈ symChoices) {w : List Int} (hw : ∀ k ∈ w, 0 ≤ k ∧ k < (l.length : Nat)) {st : FS} (hm : st.m = eachM l) (hn : st.now = (mrun (eachM l) l w).1) : isFinal st := by
  have z := zinv_run lc w hw
  exact ⟨0, 0, by rw [hn]; exact (z.1 _).2 rfl, by rw [hm]; exact each_final lc⟩
end Go.Proofs.Ytebbjimmgblcpaa.W
end

section
/- FeedApart: the walk. Conditions: none. -/
namespace Go.Proofs.Ytebbjimmgblcpaa.W
open Go Go.AM FeedM
set_option linter.unusedVariables false
set_option maxRecDepth 100000

theorem FR.still {h h' : AH} {f : Nat} {st : FS} {F : Nat → Prop} (r : FR h f st F) (hl : h.length ≤ h'.length) (hk : ∀ j, F j → h'[j]? = h[j]?) : FR h' f st F := by
  obtain ⟨V, h1, b⟩ := r
  refine ⟨V, (hk f b.ff).trans h1, b.same hl (fun j hj => hk j (b.rF j hj)) fun j hj => hk j ?_⟩
  rcases hj with h | h | h
  · exact (b.s.on h).1
  · exact (b.word.on h).1
  · exact (b.under.on h).1
/-- what one feed's footprint changes leaves another as it is. -/
theorem FR.other {h h' : AH} {g : Nat} {st : FS} {F F' G : Nat → Prop} (r : FR h g st G) (c : Chg F h F' h') (hd : ∀ j, F j → ¬ G j) : FR h' g st G ∧ ∀ j, F' j → ¬ G j := by
  have lt := r.lt
  refine ⟨r.still c.len fun j hj => c.get j (lt j hj) fun hF => hd j hF hj, fun j hj hG => (c.dom j hj).elim (fun hF => hd j hF hG) fun h => by have := lt j hG; omega⟩

theorem take_more {t : List UInt8} {i : Nat} (h : ¬ i < t.length) : t.take (i + 1) = t.take i := by
  rw [List.take_of_length_le (by omega), List.take_of_length_le (by omega)]

theorem shut_q (l : List Sy) (m : Mach) (d : Int) : (FeedM.shut (FeedM.write (FeedM.new l m d) [63])).e = 12 ∧ (FeedM.shut (FeedM.write (FeedM.new l m d) [63])).place = 0 := ⟨by kernel_rfl, by kernel_rfl⟩

theorem conv45 {i : Nat} {h : AH} {c : List Value} {K : Value → AH → Prop} (hi : h[i]? = some (.row c true)) (k : K (.slice (some ⟨i, 0, none⟩) 1 1) h) : convW Try.prog 45 45 (.slice (some ⟨i, 0, none⟩) 1 1) none h K := by
  show (match h[i]? with
      | some (.row _ true) => K (.slice (some ⟨i, 0, none⟩) 1 1) h
      | _ => False)
  rw [hi]
  exact k

end Go.Proofs.Ytebbjimmgblcpaa.W
end

section
/- FeedOwn: the walk; two slices of numbers are the same: the walk. Conditions: none. -/
namespace Go.Proofs.Ytebbjimmgblcpaa.W
open Go Go.AM FeedM
set_option linter.unusedVariables false
set_option maxRecDepth 100000

theorem ints30 {h : AH} {v0 v1 : Value} {a b : List Int} {K : Value → AH → Prop} (ha : Ints h v0 a) (hb : Ints h v1 b) (ln : a.length < room40) (k : K (.bool (decide (a = b))) h) : callW Try.prog 30 [v0, v1] h K := by
  unfold room40 at ln
  refine c30 ?_
  unfold s30
  refine w_len ha (w_len hb (w_neq ?_))
  refine c_dec (fun q => ?_) (fun q => ?_)
  · rw [decide_eq_false (fun e => q (by rw [e]))] at k
    exact k
  have hlen : a.length = b.length := by omega
  refine loopE_intro (fun m e h' => ∃ i : Nat, i ≤ a.length ∧ m = a.length - i ∧ e 0 = v0 ∧ e 1 = v1 ∧ e 5 = .int .i64 i ∧ h' = h ∧ a.take i = b.take i) a.length ⟨0, Nat.zero_le _, rfl, rfl, rfl, rfl, rfl, rfl⟩ ?_
  rintro I m e h' ⟨i, hi, hm, e0, e1, e5, rfl, ht⟩ hI
  rw [e0, e1, e5]
  refine w_len ha (w_lss ?_)
  refine c_dec (fun q1 => ?_) (fun q1 => ?_)
  · obtain ⟨x, hx⟩ := getElem?_of_lt (l := a) (i := i) (by omega)
    obtain ⟨y, hy⟩ := getElem?_of_lt (l := b) (i := i) (by omega)
    refine w_idxN eI_len ha hx fun p hp => w_rd1 hp rfl ?_
    refine w_idxN eI_len hb hy fun p hp => w_rd1 hp rfl (w_neq ?_)
    refine c_dec (fun q2 => ?_) (fun q2 => ?_)
    · rw [decide_eq_false (fun e => q2 (by rw [e, hy] at hx; exact (Option.some.inj hx).symm))] at k
      exact k
    · have e2 : x = y := Classical.byContradiction fun h => q2 h
      refine w_add (by omega) (by omega) ?_
      exact hI (m - 1) _ _ (by omega) ⟨i + 1, by omega, by omega, e0, e1, rfl, rfl, by rw [take_succ_get hx, take_succ_get hy, ht, e2]⟩
  · have h1 : i = a.length := by omega
    have h2 : i = b.length := by omega
    rw [h1] at ht
    rw [List.take_length, hlen, List.take_length] at ht
    rw [decide_eq_true ht] at k
    exact k

theorem gd_ff {p : Prop} [Decidable p] {f : (Value → AH → HT → ST → Prop) → Prop} {h : AH} {H : HT} {S : ST} {K : Value → AH → HT → ST → Prop} (hp : ¬ p) (k : f K) : gopD (gB (.bool (decide p)) false) f h H S K := by
  rw [decide_eq_false hp]; exact k

theorem tok_ok {l : List Sy} (ok : okSy l) {w : List Int} {s : List UInt8} (tx : TextOf l w s) (hw : w.length ≤ 1000) : (tokSt l s).e = 0 ∧ (tokSt l s).word = w := by
  obtain ⟨p1, p2, p3, p4, p5, p6⟩ := (text_pre (m := m0) (d := 9223372036854775807) ok tx (Low.of_len (by omega))).shut
  exact ⟨p1, p3⟩

theorem u8of {n : Int} (h : U8 n) : ∃ b : UInt8, n = b.toNat := ⟨UInt8.ofNat n.toNat, by
  have := h.1; have := h.2
  simp
  omega⟩

end Go.Proofs.Ytebbjimmgblcpaa.W
end

section
/- Machines of numbers: the walks of pick, Make, one. Conditions: none. -/
namespace Go.Proofs.Ytebbjimmgblcpaa.W
open Go Go.AM FeedM
set_option linter.unusedVariables false
set_option maxRecDepth 100000

def SymOK (l : List Sy) (s kind : Int) : Prop := 0 ≤ s ∧ s < (l.length : Nat) ∧ kindAt l s.toNat = kind

theorem pick55 {h : AH} {v0 : Value} {l : List Sy} {kind n : Int} {K : Value → AH → Prop} (hl : Syms h v0 l) (bl : l.length ≤ 1000) (hn : 0 ≤ n)
    (k : ∀ h' r, Ex h h' → (r = -1 ∨ SymOK l r kind) → K (.int .i64 r) h') : callW Try.prog 55 [v0, .int .i64 kind, .int .i64 n] h K := by
  refine c55 ?_
  unfold s55
  have r40 : (10000000 : Nat) < room40 := big40
  refine loopE_intro (fun m e h' => ∃ (i : Nat) (w : List Int), i ≤ l.length ∧ m = l.length - i ∧ e 0 = v0 ∧ e 1 = .int .i64 kind ∧ e 2 = .int .i64 n ∧ e 8 = .int .i64 i ∧ Ex h h' ∧ w.length ≤ i ∧ (∀ x ∈ w, SymOK l x kind) ∧
    OwnSl 1 h.length h' (e 7) w.length (flat eI w)) l.length ⟨0, [], Nat.zero_le _, rfl, rfl, rfl, rfl, rfl, Ex.refl h, Nat.le_refl _, (fun x hx => by cases hx), OwnSl.nil _ _ _⟩ ?_
  rintro I m e h' ⟨i, w, hi, hm, e0, e1, e2, e8, hx, hw, hin, ho⟩ hI
  rw [e0, e1, e2, e8]
  refine w_len hl (w_lss ?_)
  refine c_dec (fun q => ?_) (fun q => ?_)
  · obtain ⟨x, hxx⟩ := getElem?_of_lt (l := l) (i := i) (by omega)
    refine w_idxN (enc := eSy) eSy_len (hl.ex hx) hxx fun p hp => w_off hp (by simp [eSy_len]) fun p hp => w_rd1 hp rfl (w_eql ?_)
    refine c_dec (fun q1 => ?_) (fun q1 => ?_)
    · refine w_some (bldSl_one rfl (by decide) rfl rfl) ?_
      refine n_new ?_
      refine app_one (enc := eI) (x := (i : Int)) (by decide) eI_len ho (by omega) hx.len fun v' h'' o1 o2 o3 o4 => ?_
      refine w_add (by omega) (by omega) ?_
      refine hI (m - 1) _ _ (by omega) ⟨i + 1, w ++ [(i : Int)], by omega, by omega, e0, e1, e2, rfl, ⟨Nat.le_trans hx.len (by omega), fun j hj => ?_⟩, by simp; omega, fun y hy => ?_, o1⟩
      · rw [o3 j (by have := hx.len; omega) (ho.not_old hj), List.getElem?_append_left (Nat.lt_of_lt_of_le hj hx.len)]
        exact hx.get j hj
      · rcases List.mem_append.1 hy with hy | hy
        · exact hin y hy
        · rw [List.mem_singleton.1 hy]
          refine ⟨by omega, by omega, ?_⟩
          unfold kindAt
          rw [Int.toNat_natCast, hxx]
          exact q1
    · refine w_add (by omega) (by omega) ?_
      exact hI (m - 1) _ _ (by omega) ⟨i + 1, w, by omega, by omega, e0, e1, e2, rfl, hx, by omega, hin, ho⟩
  · refine w_len ho.sl (w_eql ?_)
    refine c_dec (fun q1 => ?_) (fun q1 => ?_)
    · exact k h' (-1) hx (.inl rfl)
    · refine w_len ho.sl (w_rem (by omega) hn ?_)
      have h1 : 0 ≤ n % ((w.length : Nat) : Int) := Int.emod_nonneg _ (by omega)
      have h2 : n % ((w.length : Nat) : Int) < (w.length : Nat) := Int.emod_lt_of_pos _ (by omega)
      obtain ⟨y, hy⟩ := getElem?_of_lt (l := w) (i := (n % ((w.length : Nat) : Int)).toNat) (by omega)
      refine w_idxT (enc := eI) eI_len ho.sl h1 hy fun p hp => w_rd1 hp rfl ?_
      exact k h' y hx (.inr (hin y (List.mem_of_getElem? hy)))

theorem w_quo' {P : Program} {t : TypeId} {a b : Int} {K : Value → Prop} (h : b ≠ 0) (k : ∀ c, K (.int .i64 c)) : optW (pBin P .quo t (.int .i64 a) (.int .i64 b)) K := by
  refine w_some (v := .int .i64 (IntKind.i64.wrap (a.tdiv b))) ?_ (k _)
  show (if IntKind.i64 = IntKind.i64 then pBinI .quo .i64 a b else none) = _
  rw [if_pos rfl, pBinI, if_neg h]

def szs : Nat → Nat
  | 0 => 1
  | 1 => 1
  | 2 => 4
  | 3 => 4
  | _ => 3
def cellsOf (m : Mach) : Nat → List Value
  | 0 => flat eI m.init
  | 1 => flat eI m.final
  | 2 => flat e4 m.opens
  | 3 => flat e4 m.closes
  | _ => flat e3 m.inners
def numOf (m : Mach) : Nat → Nat
  | 0 => m.init.length
  | 1 => m.final.length
  | 2 => m.opens.length
  | 3 => m.closes.length
  | _ => m.inners.length
theorem szs_pos : ∀ i, 0 < szs i
  | 0 => by decide
  | 1 => by decide
  | 2 => by decide
  | 3 => by decide
  | _ + 4 => by show 0 < 3; decide
def updV (v : Nat → Value) (i : Nat) (x : Value) : Nat → Value := fun j => if j = i then x else v j

/-- a machine under way, at a place of its own: five slices that grow. -/
structure MkR (h : AH) (p : Nat) (m : Mach) (v : Nat → Value) (F : Nat → Prop) : Prop where
  row : h[p]? = some (.row (mcells m.n m.g (v 0) (v 1) (v 2) (v 3) (v 4)) true)
  own : ∀ i, i < 5 → OwnG (szs i) F h (v i) (numOf m i) (cellsOf m i)
  hF : ∀ j, F j → p < j
  ap : ∀ i j, i < 5 → j < 5 → i ≠ j → ∀ x, onId (v i) x → ¬ onId (v j) x

theorem MkR.ex {h h' : AH} {p : Nat} {m : Mach} {v : Nat → Value} {F : Nat → Prop} (r : MkR h p m v F) (x : Ex h h') : MkR h' p m v F :=
  ⟨x.some r.row, fun i hi => (r.own i hi).mono (fun _ _ h => h) fun j hj _ => x.get j ((r.own i hi).on hj).2, r.hF, r.ap⟩

theorem MkR.app {h : AH} {p : Nat} {m m' : Mach} {v : Nat → Value} {F : Nat → Prop} {news : List Value} {K : Nat → Value → Value → AH → Prop} (r : MkR h p m v F) (i : Nat) (hi : i < 5) (hn : m'.n = m.n) (hg : m'.g = m.g)
    (hc : cellsOf m' i = cellsOf m i ++ news) (hN : numOf m' i = numOf m i + 1) (hc' : ∀ j, j ≠ i → j < 5 → cellsOf m' j = cellsOf m j ∧ numOf m' j = numOf m j) (hl : news.length = szs i) (hb : numOf m i + 1 < room40)
    (k : ∀ v2 h' F', MkR h' p m' v2 F' → h.length < h'.length → (∀ j, j < h.length → j ≠ p → ¬ F j → h'[j]? = h[j]?) → (∀ j, F' j → F j ∨ h.length ≤ j) → ∀ a b c, K a b c h') :
    newW none (.row news true) h fun i1 h1 => appSl (szs i) (v i) (.slice (some ⟨i1, 0, none⟩) 1 1) h1 fun v' h2 => optW (pOff (2 + i) (.pointer (some ⟨p, 0, none⟩))) fun q => optW (pStore 1 q v' h2) (K i1 v' q) := by
  have hpl := lt_of_get r.row
  refine app_field (m := 1) (szs_pos i) r.row (off := 2 + i) (by show 2 + i < 7; omega) (r.own i hi) rfl (by decide) (by rw [hl]; omega) hb r.hF fun v' h9 o1 s1 l9 g9 keep ids a b => ?_
  refine k (updV v i v') h9 (fun j => F j ∨ j = h.length + 1) ⟨?_, fun j hj => ?_, fun j hj => ?_, fun a b ha hb hab x hx hy => ?_⟩ l9 (fun j hj hjp hF => keep j hj hjp fun hh => hF ((r.own i hi).on hh).1) (fun j hj => hj.imp id fun e => by omega) _ _ _
  · rw [g9, hn, hg]
    match i, hi with
    | 0, _ => rfl
    | 1, _ => rfl
    | 2, _ => rfl
    | 3, _ => rfl
    | 4, _ => rfl
  · by_cases e : j = i
    · subst e
      unfold updV
      rw [if_pos rfl, hc, hN]
      exact o1
    · obtain ⟨q1, q2⟩ := hc' j e hj
      unfold updV
      rw [if_neg e, q1, q2]
      exact (r.own j hj).mono (fun x _ h => .inl h) fun x hx _ => keep x ((r.own j hj).on hx).2 (fun e' => by have := r.hF x ((r.own j hj).on hx).1; omega) fun hh => r.ap i j hi hj (fun e' => e e'.symm) x hh hx
  · rcases hj with h | h
    · exact r.hF j h
    · omega
  · unfold updV at hx hy
    by_cases e : a = i
    · rw [if_pos e] at hx
      rw [if_neg (fun e' => hab (e.trans e'.symm))] at hy
      rcases ids x hx with h | h
      · exact r.ap i b hi hb (fun e' => hab (e.trans e')) x h hy
      · have := ((r.own b hb).on hy).2; omega
    · rw [if_neg e] at hx
      by_cases e2 : b = i
      · rw [if_pos e2] at hy
        rcases ids x hy with h | h
        · exact r.ap a i ha hi e x hx h
        · have := ((r.own a ha).on hx).2; omega
      · rw [if_neg e2] at hy
        exact r.ap a b ha hb hab x hx hy

theorem n_res {o : AObj} {h : AH} {K : Nat → AH → Prop} (k : newW none o h K) : newW (some h.length) o (reserve 1 h) K := by
  refine n_slot ?_
  rw [reserve_set]
  exact k

/-- a machine that may be. -/
structure MkOK (l : List Sy) (m : Mach) (b : Nat) : Prop where
  n : 1 ≤ m.n ∧ m.n ≤ 3
  g : 1 ≤ m.g ∧ m.g ≤ 2
  init : ∀ p ∈ m.init, 0 ≤ p ∧ p < m.n
  final : ∀ p ∈ m.final, 0 ≤ p ∧ p < m.n
  opens : ∀ o ∈ m.opens, (0 ≤ o.1 ∧ o.1 < m.n) ∧ SymOK l o.2.1 1 ∧ (0 ≤ o.2.2.1 ∧ o.2.2.1 < m.n) ∧ 1 ≤ o.2.2.2 ∧ o.2.2.2 ≤ m.g
  closes : ∀ o ∈ m.closes, (0 ≤ o.1 ∧ o.1 < m.n) ∧ SymOK l o.2.1 2 ∧ (0 ≤ o.2.2.2 ∧ o.2.2.2 < m.n) ∧ 0 ≤ o.2.2.1 ∧ o.2.2.1 ≤ m.g
  inners : ∀ o ∈ m.inners, (0 ≤ o.1 ∧ o.1 < m.n) ∧ SymOK l o.2.1 3 ∧ (0 ≤ o.2.2 ∧ o.2.2 < m.n)
  cnt : m.init.length + m.final.length + m.opens.length + m.closes.length + m.inners.length ≤ b

theorem mem_snoc {α : Type} {P : α → Prop} {l : List α} {x : α} (h : ∀ y ∈ l, P y) (hx : P x) : ∀ y ∈ l ++ [x], P y := by
  intro y hy
  rcases List.mem_append.1 hy with hy | hy
  · exact h y hy
  · rw [List.mem_singleton.1 hy]; exact hx

theorem MkOK.mono {l : List Sy} {m : Mach} {b c : Nat} (k : MkOK l m b) (h : b ≤ c) : MkOK l m c := { k with cnt := by have := k.cnt; omega }
theorem MkOK.addInit {l : List Sy} {m : Mach} {b : Nat} {p : Int} (k : MkOK l m b) (h : 0 ≤ p ∧ p < m.n) : MkOK l { m with init := m.init ++ [p] } (b + 1) :=
  ⟨k.n, k.g, mem_snoc k.init h, k.final, k.opens, k.closes, k.inners, by have := k.cnt; simp; omega⟩
theorem MkOK.addFinal {l : List Sy} {m : Mach} {b : Nat} {p : Int} (k : MkOK l m b) (h : 0 ≤ p ∧ p < m.n) : MkOK l { m with final := m.final ++ [p] } (b + 1) :=
  ⟨k.n, k.g, k.init, mem_snoc k.final h, k.opens, k.closes, k.inners, by have := k.cnt; simp; omega⟩
theorem MkOK.addOpen {l : List Sy} {m : Mach} {b : Nat} {o : Int × Int × Int × Int} (k : MkOK l m b) (h : (0 ≤ o.1 ∧ o.1 < m.n) ∧ SymOK l o.2.1 1 ∧ (0 ≤ o.2.2.1 ∧ o.2.2.1 < m.n) ∧ 1 ≤ o.2.2.2 ∧ o.2.2.2 ≤ m.g) : MkOK l { m with opens := m.opens ++ [o] } (b + 1) :=
  ⟨k.n, k.g, k.init, k.final, mem_snoc k.opens h, k.closes, k.inners, by have := k.cnt; simp; omega⟩
theorem MkOK.addClose {l : List Sy} {m : Mach} {b : Nat} {o : Int × Int × Int × Int} (k : MkOK l m b) (h : (0 ≤ o.1 ∧ o.1 < m.n) ∧ SymOK l o.2.1 2 ∧ (0 ≤ o.2.2.2 ∧ o.2.2.2 < m.n) ∧ 0 ≤ o.2.2.1 ∧ o.2.2.1 ≤ m.g) : MkOK l { m with closes := m.closes ++ [o] } (b + 1) :=
  ⟨k.n, k.g, k.init, k.final, k.opens, mem_snoc k.closes h, k.inners, by have := k.cnt; simp; omega⟩
theorem MkOK.addInner {l : List Sy} {m : Mach} {b : Nat} {o : Int × Int × Int} (k : MkOK l m b) (h : (0 ≤ o.1 ∧ o.1 < m.n) ∧ SymOK l o.2.1 3 ∧ (0 ≤ o.2.2 ∧ o.2.2 < m.n)) : MkOK l { m with inners := m.inners ++ [o] } (b + 1) :=
  ⟨k.n, k.g, k.init, k.final, k.opens, k.closes, mem_snoc k.inners h, by have := k.cnt; simp; omega⟩

theorem flat_snoc {α : Type} (enc : α → List Value) (l : List α) (x : α) : flat enc (l ++ [x]) = flat enc l ++ enc x := by rw [flat_append]; simp [flat]
end Go.Proofs.Ytebbjimmgblcpaa.W
end

section
/- Machines of numbers: the walk of Make. Conditions: none. -/
namespace Go.Proofs.Ytebbjimmgblcpaa.W
open Go Go.AM FeedM
set_option linter.unusedVariables false
set_option maxRecDepth 100000

theorem res35 (e : Env) (h : AH) : resList Try.prog e h Try.f35.results.toList = (rdRow true 7 (e 8) h).map fun v => [v] := by
  have h1 : Try.f35.results.toList = [.cell 8 30] := by kernel_rfl
  have h2 : ∀ x, pLoad Try.prog 30 x h = rdRow true 7 x h := fun x => by kernel_rfl
  rw [h1]
  show (match pLoad Try.prog 30 (e 8) h with
    | some v => match resList Try.prog e h [] with
      | some vs => some (v :: vs)
      | none => none
    | none => none) = _
  rw [h2]
  cases rdRow true 7 (e 8) h <;> rfl

def mk0 (a g : Int) : Mach := ⟨a, g, [], [], [], [], []⟩

theorem cellsOf_lt5 {m m' : Mach} {i : Nat} (h0 : i ≠ 0 → m'.init = m.init) (h1 : i ≠ 1 → m'.final = m.final) (h2 : i ≠ 2 → m'.opens = m.opens) (h3 : i ≠ 3 → m'.closes = m.closes) (h4 : i ≠ 4 → m'.inners = m.inners) :
    ∀ j, j ≠ i → j < 5 → cellsOf m' j = cellsOf m j ∧ numOf m' j = numOf m j := by
  intro j hj hj5
  match j, hj5 with
  | 0, _ => exact ⟨by show flat eI _ = flat eI _; rw [h0 (Ne.symm hj)], by show List.length _ = List.length _; rw [h0 (Ne.symm hj)]⟩
  | 1, _ => exact ⟨by show flat eI _ = flat eI _; rw [h1 (Ne.symm hj)], by show List.length _ = List.length _; rw [h1 (Ne.symm hj)]⟩
  | 2, _ => exact ⟨by show flat e4 _ = flat e4 _; rw [h2 (Ne.symm hj)], by show List.length _ = List.length _; rw [h2 (Ne.symm hj)]⟩
  | 3, _ => exact ⟨by show flat e4 _ = flat e4 _; rw [h3 (Ne.symm hj)], by show List.length _ = List.length _; rw [h3 (Ne.symm hj)]⟩
  | 4, _ => exact ⟨by show flat e3 _ = flat e3 _; rw [h4 (Ne.symm hj)], by show List.length _ = List.length _; rw [h4 (Ne.symm hj)]⟩

/-- what a step of the making keeps. -/
def MkI (l : List Sy) (h h' : AH) (p : Nat) (b : Nat) : Prop := ∃ (m : Mach) (v : Nat → Value) (F : Nat → Prop), MkR h' p m v F ∧ MkOK l m b ∧ h.length < p ∧ Ex h h' ∧ h'[h.length]? = some (.row z7 true)

/-- one more, laid behind a slice of the machine. -/
theorem MkI.app {l : List Sy} {h h1 : AH} {p b : Nat} {m m' : Mach} {v : Nat → Value} {F : Nat → Prop} {news : List Value} {K : Nat → Value → Value → AH → Prop} (r : MkR h1 p m v F) (hp : h.length < p) (hx : Ex h h1) (hz : h1[h.length]? = some (.row z7 true)) (i : Nat) (hi : i < 5) (hn : m'.n = m.n) (hg : m'.g = m.g)
    (hc : cellsOf m' i = cellsOf m i ++ news) (hN : numOf m' i = numOf m i + 1) (h0 : i ≠ 0 → m'.init = m.init) (h1' : i ≠ 1 → m'.final = m.final) (h2 : i ≠ 2 → m'.opens = m.opens) (h3 : i ≠ 3 → m'.closes = m.closes) (h4 : i ≠ 4 → m'.inners = m.inners) (hl : news.length = szs i) (hb : numOf m i + 1 < room40)
    (ok : MkOK l m' b) (k : ∀ h', MkI l h h' p b → ∀ a b c, K a b c h') :
    newW none (.row news true) h1 fun i1 h1 => appSl (szs i) (v i) (.slice (some ⟨i1, 0, none⟩) 1 1) h1 fun v' h2 => optW (pOff (2 + i) (.pointer (some ⟨p, 0, none⟩))) fun q => optW (pStore 1 q v' h2) (K i1 v' q) := by
  have hpl := lt_of_get r.row
  refine r.app i hi hn hg hc hN (cellsOf_lt5 h0 h1' h2 h3 h4) hl hb fun v2 h' F' r' l' keep dom => ?_
  refine k h' ⟨m', v2, F', r', ok, hp, ⟨by have := hx.len; omega, fun j hj => ?_⟩, ?_⟩
  · exact (keep j (by have := hx.len; omega) (by omega) fun hF => by have := r.hF j hF; omega).trans (hx.get j hj)
  · exact (keep _ (by omega) (by omega) fun hF => by have := r.hF _ hF; omega).trans hz

theorem numOf_le {l : List Sy} {m : Mach} {b : Nat} (k : MkOK l m b) : ∀ i, numOf m i ≤ b := by
  have := k.cnt
  intro i
  match i with
  | 0 => show m.init.length ≤ b; omega
  | 1 => show m.final.length ≤ b; omega
  | 2 => show m.opens.length ≤ b; omega
  | 3 => show m.closes.length ≤ b; omega
  | _ + 4 => show m.inners.length ≤ b; omega

/-- a machine's value, its slices above a place -/
def MVb (h : AH) (v : Value) (m : Mach) (b : Nat) : Prop := ∃ vi vf vo vc vn, v = .agg (mcells m.n m.g vi vf vo vc vn).toArray ∧ Ints h vi m.init ∧ Ints h vf m.final ∧ SlT 4 e4 h vo m.opens ∧ SlT 4 e4 h vc m.closes ∧ SlT 3 e3 h vn m.inners ∧
  ∀ j, (onId vi j ∨ onId vf j ∨ onId vo j ∨ onId vc j ∨ onId vn j) → b < j
theorem MVb.mv {h : AH} {v : Value} {m : Mach} {b : Nat} (k : MVb h v m b) : MV h v m := by
  obtain ⟨vi, vf, vo, vc, vn, e, p1, p2, p3, p4, p5, _⟩ := k
  exact ⟨vi, vf, vo, vc, vn, e, p1, p2, p3, p4, p5⟩

theorem makeEnd {E : Value → Env} {h h' : AH} {p8 p9 : Nat} {m : Mach} {vi vf vo vc vn : Value} {K : Value → AH → Prop} (hE : ∀ v, E v 8 = .pointer (some ⟨p8, 0, none⟩)) (g9 : h'[p9]? = some (.row (mcells m.n m.g vi vf vo vc vn) true)) (g8 : h'[p8]? = some (.row z7 true)) (hp : h.length ≤ p8) (hx : Ex h h')
    (hi : Ints h' vi m.init) (hf : Ints h' vf m.final) (ho : SlT 4 e4 h' vo m.opens) (hc : SlT 4 e4 h' vc m.closes) (hn : SlT 3 e3 h' vn m.inners)
    (ne : ∀ j, (onId vi j ∨ onId vf j ∨ onId vo j ∨ onId vc j ∨ onId vn j) → p8 < j) (k : ∀ h6 vm, Ex h h6 → MVb h6 vm m p8 → K vm h6) :
    optW (rdRow true 7 (.pointer (some ⟨p9, 0, none⟩)) h') fun v141 => optW (pStore 7 (.pointer (some ⟨p8, 0, none⟩)) v141 h') fun h_40 => optW (resList Try.prog (E v141) h_40 Try.f35.results.toList) fun vs => K (resOf vs) h_40 := by
  obtain ⟨a1, n1, c1, rfl⟩ := Sl.isSl hi
  obtain ⟨a2, n2, c2, rfl⟩ := Sl.isSl hf
  obtain ⟨a3, n3, c3, rfl⟩ := Sl.isSl ho
  obtain ⟨a4, n4, c4, rfl⟩ := Sl.isSl hc
  obtain ⟨a5, n5, c5, rfl⟩ := Sl.isSl hn
  refine w_rdPA g9 (Nat.le_refl 7) ?_
  refine w_stPA g8 rfl (Nat.le_refl 7) rfl ?_
  rw [res35]
  have hb := lt_of_get g8
  have hopt : ∀ {α : Type} {o : Option α} {x : α}, (optW o fun y => y = x) → o = some x := by
    intro α o x ho
    cases o with
    | none => exact ho.elim
    | some y => have : y = x := ho; rw [this]
  refine w_some (v := [.agg (mcells m.n m.g (.slice a1 n1 c1) (.slice a2 n2 c2) (.slice a3 n3 c3) (.slice a4 n4 c4) (.slice a5 n5 c5)).toArray]) ?_ ?_
  · rw [hE]
    have g := hopt (o := rdRow true 7 (.pointer (some ⟨p8, 0, none⟩)) _) (w_rdPA (get_set h' hb (.row (spliceL z7 0 (cellsL (.agg (((mcells m.n m.g (.slice a1 n1 c1) (.slice a2 n2 c2) (.slice a3 n3 c3) (.slice a4 n4 c4) (.slice a5 n5 c5)).drop 0).take 7).toArray))) true)) (Nat.le_refl 7) rfl)
    rw [g]
    rfl
  · exact k _ _ (hx.set hp _) ⟨_, _, _, _, _, rfl, Sl.same hi fun j hj => get_ne (Nat.ne_of_lt (ne j (.inl hj))) _, Sl.same hf fun j hj => get_ne (Nat.ne_of_lt (ne j (.inr (.inl hj)))) _, Sl.same ho fun j hj => get_ne (Nat.ne_of_lt (ne j (.inr (.inr (.inl hj))))) _,
      Sl.same hc fun j hj => get_ne (Nat.ne_of_lt (ne j (.inr (.inr (.inr (.inl hj)))))) _, Sl.same hn fun j hj => get_ne (Nat.ne_of_lt (ne j (.inr (.inr (.inr (.inr hj)))))) _, ne⟩

theorem makeFin {E1 : Nat → Value → Value → Env} {E2 : Value → Env} {l : List Sy} {h h' : AH} {p9 : Nat} {m : Mach} {v : Nat → Value} {F : Nat → Prop} {K : Value → AH → Prop} (hE1 : ∀ a b c, E1 a b c 8 = .pointer (some ⟨h.length, 0, none⟩)) (hE2 : ∀ c, E2 c 8 = .pointer (some ⟨h.length, 0, none⟩))
    (r : MkR h' p9 m v F) (ok : MkOK l m 24) (hp : h.length < p9) (hx : Ex h h') (hz : h'[h.length]? = some (.row z7 true))
    (k : ∀ h' vm m, Ex h h' → MVb h' vm m h.length → MkOK l m 25 → m.init ≠ [] → K vm h') :
    condW (.bool (decide (((numOf m 0 : Nat) : Int) = 0))) (
        optW (bldSl 1 [(.int .i64 0)] 1 [(0, (.int .i64 0))]) fun c_7 =>
        newW none (.row c_7 true) h' fun i_7 h_38 =>
        optW (pOff 2 (.pointer (some ⟨p9, 0, none⟩))) fun v140 =>
        optW (pStore 1 v140 (.slice (some ⟨i_7, 0, none⟩) 1 1) h_38) fun h_39 =>
        optW (rdRow true 7 (.pointer (some ⟨p9, 0, none⟩)) h_39) fun v141 =>
        optW (pStore 7 (.pointer (some ⟨h.length, 0, none⟩)) v141 h_39) fun h_40 =>
        optW (resList Try.prog (E1 i_7 v140 v141) h_40 Try.f35.results.toList) fun vs => K (resOf vs) h_40
      ) (
        optW (rdRow true 7 (.pointer (some ⟨p9, 0, none⟩)) h') fun v141_1 =>
        optW (pStore 7 (.pointer (some ⟨h.length, 0, none⟩)) v141_1 h') fun h_41 =>
        optW (resList Try.prog (E2 v141_1) h_41 Try.f35.results.toList) fun vs => K (resOf vs) h_41) := by
  have hF := r.hF
  have sl0 := (r.own 0 (by decide)).sl
  have sl1 := (r.own 1 (by decide)).sl
  have sl2 := (r.own 2 (by decide)).sl
  have sl3 := (r.own 3 (by decide)).sl
  have sl4 := (r.own 4 (by decide)).sl
  have on : ∀ i, i < 5 → ∀ j, onId (v i) j → p9 < j ∧ j < h'.length := fun i hi j hj => ⟨hF j ((r.own i hi).on hj).1, ((r.own i hi).on hj).2⟩
  refine c_dec (fun q => ?_) (fun q => ?_)
  · have he : m.init = [] := List.length_eq_zero_iff.1 (by have h1 : ((numOf m 0 : Nat) : Int) = 0 := q; have h2 : numOf m 0 = m.init.length := rfl; omega)
    refine w_some (bldSl_one rfl (by decide) rfl rfl) ?_
    refine n_newv fun h3 x3 l3 g3 => ?_
    have hr3 := x3.some r.row
    have hlt3 := lt_of_get hr3
    have hpl := lt_of_get r.row
    refine w_offP (w_stP hr3 (show 2 < 7 by omega) rfl rfl ?_)
    have key : ∀ o : AObj, ∀ j, p9 < j ∨ j < p9 → (h3.set p9 o)[j]? = h3[j]? := fun o j hj => get_ne (by omega) _
    refine makeEnd (m := { m with init := [0] }) (h := h) (vi := .slice (some ⟨h'.length, 0, none⟩) 1 1) (vf := v 1) (vo := v 2) (vc := v 3) (vn := v 4) (hE1 _ _) (get_set _ hlt3 _) ((key _ _ (.inr hp)).trans (x3.some hz)) (Nat.le_refl _) ((hx.trans x3).set (by omega) _) ?_ ?_ ?_ ?_ ?_ ?_ fun h6 vm x6 mv6 => k h6 vm _ x6 mv6 ⟨ok.n, ok.g, ?_, ok.final, ok.opens, ok.closes, ok.inners, ?_⟩ (by simp)
    · exact ⟨rfl, .inr ⟨h'.length, 0, 1, rfl, .inl ⟨(by decide : 1 < openCap), Nat.le_refl 1⟩, .inr ⟨_, true, (key _ _ (.inl hpl)).trans g3, Nat.le_refl 1, rfl⟩⟩⟩
    · exact Sl.same (Sl.ex sl1 x3) fun j hj => key _ _ (.inl (on 1 (by decide) j hj).1)
    · exact Sl.same (Sl.ex sl2 x3) fun j hj => key _ _ (.inl (on 2 (by decide) j hj).1)
    · exact Sl.same (Sl.ex sl3 x3) fun j hj => key _ _ (.inl (on 3 (by decide) j hj).1)
    · exact Sl.same (Sl.ex sl4 x3) fun j hj => key _ _ (.inl (on 4 (by decide) j hj).1)
    · intro j hj
      rcases hj with hj | hj | hj | hj | hj
      · have : h'.length = j := hj
        omega
      · have := on 1 (by decide) j hj; omega
      · have := on 2 (by decide) j hj; omega
      · have := on 3 (by decide) j hj; omega
      · have := on 4 (by decide) j hj; omega
    · intro p hp'
      have : p = 0 := List.mem_singleton.1 hp'
      have hn := ok.n
      show 0 ≤ p ∧ p < m.n
      omega
    · have := ok.cnt
      rw [he] at this
      simp at this ⊢
      omega
  · have hne : m.init ≠ [] := fun he => q (by show ((m.init.length : Nat) : Int) = 0; rw [he]; rfl)
    refine makeEnd (m := m) (h := h) hE2 r.row hz (Nat.le_refl _) hx sl0 sl1 sl2 sl3 sl4 (fun j hj => ?_) fun h6 vm x6 mv6 => k h6 vm _ x6 mv6 (ok.mono (by decide)) hne
    rcases hj with hj | hj | hj | hj | hj
    · have := on 0 (by decide) j hj; omega
    · have := on 1 (by decide) j hj; omega
    · have := on 2 (by decide) j hj; omega
    · have := on 3 (by decide) j hj; omega
    · have := on 4 (by decide) j hj; omega

theorem make35 {h : AH} {v0 v1 : Value} {l : List Sy} {size : Int} {ns : List Int} {K : Value → AH → Prop} (hl : Syms h v0 l) (bl : l.length ≤ 1000) (hs : I64 size) (hns : Ints h v1 ns)
    (k : ∀ h' vm m, Ex h h' → MVb h' vm m h.length → MkOK l m 25 → m.init ≠ [] → K vm h') : callW Try.prog 35 [v0, .int .i64 size, v1, .int .i64 3] h K := by
  have r40 : (10000000 : Nat) < room40 := big40
  refine c35 ?_
  unfold s35
  refine n_rowv (c := z7) fun h1 x1 l1 g1 => ?_
  refine within54 _ _ _ _ (by decide) (by decide) ?_
  have q3 : 0 ≤ size % 3 ∧ size % 3 < 3 := ⟨Int.emod_nonneg _ (by decide), Int.emod_lt_of_pos _ (by decide)⟩
  refine w_add (by omega) (by omega) ?_
  refine w_quo' (by decide) fun c7 => ?_
  refine within54 _ _ _ _ (by decide) (by decide) ?_
  have q2 : 0 ≤ c7 % 2 ∧ c7 % 2 < 2 := ⟨Int.emod_nonneg _ (by decide), Int.emod_lt_of_pos _ (by decide)⟩
  refine w_add (by omega) (by omega) ?_
  generalize hNN : 1 + size % 3 = NN at *
  generalize hGG : 1 + c7 % 2 = GG at *
  refine w_some rfl ?_
  refine n_rowv (c := z7) fun h2 x2 l2 g2 => ?_
  refine w_stPA g2 rfl (Nat.le_refl 7) rfl ?_
  have hlt := lt_of_get g2
  have k0 : MkI l h (h2.set h1.length (.row (spliceL z7 0 (cellsL (.agg (mcells NN GG (.slice none 0 0) (.slice none 0 0) (.slice none 0 0) (.slice none 0 0) (.slice none 0 0)).toArray))) true)) h1.length 0 := by
    refine ⟨mk0 NN GG, fun _ => .slice none 0 0, fun j => h1.length < j, ⟨get_set _ hlt _, fun i hi => ?_, fun j hj => hj, fun i j _ _ _ x hx => hx.elim⟩, ⟨⟨by show 1 ≤ NN; omega, by show NN ≤ 3; omega⟩, ⟨by show 1 ≤ GG; omega, by show GG ≤ 2; omega⟩, (fun p hp => by cases hp), (fun p hp => by cases hp), (fun p hp => by cases hp), (fun p hp => by cases hp), (fun p hp => by cases hp), Nat.le_refl _⟩, by omega, (x1.trans x2).set (by omega) _, ?_⟩
    · match i, hi with
      | 0, _ => exact OwnG.nil _ _ _
      | 1, _ => exact OwnG.nil _ _ _
      | 2, _ => exact OwnG.nil _ _ _
      | 3, _ => exact OwnG.nil _ _ _
      | 4, _ => exact OwnG.nil _ _ _
    · rw [get_ne (by omega)]
      exact x2.some g1
  refine loopE_intro (fun m e h' => ∃ i : Nat, i ≤ ns.length ∧ i ≤ 24 ∧ m = ns.length - i ∧ e 0 = v0 ∧ e 2 = v1 ∧ e 8 = .pointer (some ⟨h.length, 0, none⟩) ∧ e 9 = .pointer (some ⟨h1.length, 0, none⟩) ∧ e 10 = .int .i64 i ∧ MkI l h h' h1.length i) ns.length
    ⟨0, Nat.zero_le _, Nat.zero_le _, rfl, rfl, rfl, rfl, rfl, rfl, k0⟩ ?_
  rintro I mm e h' ⟨i, hi, hi24, hmm, e0, e2, e8, e9, e10, m, v, F, r, ok, hp, hx, hz⟩ hI
  rw [e2, e8, e9, e10]
  refine w_len hns (w_lss ?_)
  by_cases q1 : (i : Int) < (ns.length : Nat)
  · refine g_tt q1 (g_tt q1 (w_lss (pk_tt q1 ?_)))
    refine c_dec (fun q2 => ?_) (fun q2 => ?_)
    · refine joinE_intro (fun e1 h9 => e1 0 = v0 ∧ e1 2 = v1 ∧ e1 8 = .pointer (some ⟨h.length, 0, none⟩) ∧ e1 9 = .pointer (some ⟨h1.length, 0, none⟩) ∧ e1 10 = .int .i64 i ∧ MkI l h h9 h1.length (i + 1)) ?_ ?_
      · rintro e1 h9 ⟨f0, f2, f8, f9, f10, kI1⟩
        rw [f10]
        refine w_add (by omega) (by omega) ?_
        exact hI (mm - 1) _ _ (by omega) ⟨i + 1, by omega, by omega, by omega, f0, f2, f8, f9, rfl, kI1⟩
      intro J hJ
      obtain ⟨z, hzz⟩ := getElem?_of_lt (l := ns) (i := i) (by omega)
      refine w_idxN eI_len (hns.ex hx) hzz fun pp hpp => w_rd1 hpp rfl ?_
      refine within54 _ _ _ _ (by decide) (by decide) ?_
      have n0 : 0 ≤ z % 1099511627776 := Int.emod_nonneg _ (by decide)
      have n1 : z % 1099511627776 < 1099511627776 := Int.emod_lt_of_pos _ (by decide)
      generalize z % 1099511627776 = n at *
      have hn := ok.n
      refine w_quo (by decide) n0 (by omega) (w_offP (w_rdP r.row (v := .int .i64 m.n) rfl (w_rem (by omega) (by omega) ?_)))
      refine w_quo (by decide) n0 (by omega) (w_offP (w_rdP r.row (v := .int .i64 m.n) rfl (w_rem (by omega) (by omega) ?_)))
      have hp' : 0 ≤ n / 8 % m.n ∧ n / 8 % m.n < m.n := ⟨Int.emod_nonneg _ (by omega), Int.emod_lt_of_pos _ (by omega)⟩
      have hq' : 0 ≤ n / 80 % m.n ∧ n / 80 % m.n < m.n := ⟨Int.emod_nonneg _ (by omega), Int.emod_lt_of_pos _ (by omega)⟩
      generalize n / 8 % m.n = p at *
      generalize n / 80 % m.n = q at *
      refine w_rem (by decide) n0 (w_eql ?_)
      refine c_dec (fun q3 => ?_) (fun q3 => ?_)
      · refine w_offP (w_rdP r.row (v := v 0) rfl ?_)
        refine w_some (bldSl_one rfl (by decide) rfl rfl) ?_
        exact MkI.app (m' := { m with init := m.init ++ [p] }) (b := i + 1) (news := eI p) r hp hx hz 0 (by decide) rfl rfl (flat_snoc _ _ _) (by show List.length _ = _ + 1; rw [List.length_append]; rfl) (fun h => (h rfl).elim) (fun _ => rfl) (fun _ => rfl) (fun _ => rfl) (fun _ => rfl) rfl (by have := numOf_le ok 0; omega) (ok.addInit hp') fun h5 k5 a b c => hJ _ _ ⟨e0, e2, e8, e9, e10, k5⟩
      refine w_eql (c_dec (fun q4 => ?_) (fun q4 => ?_))
      · refine w_offP (w_rdP r.row (v := v 1) rfl ?_)
        refine w_some (bldSl_one rfl (by decide) rfl rfl) ?_
        exact MkI.app (m' := { m with final := m.final ++ [p] }) (b := i + 1) (news := eI p) r hp hx hz 1 (by decide) rfl rfl (flat_snoc _ _ _) (by show List.length _ = _ + 1; rw [List.length_append]; rfl) (fun _ => rfl) (fun h => (h rfl).elim) (fun _ => rfl) (fun _ => rfl) (fun _ => rfl) rfl (by have := numOf_le ok 1; omega) (ok.addFinal hp') fun h5 k5 a b c => hJ _ _ ⟨e0, e2, e8, e9, e10, k5⟩
      refine joinE_intro (fun e2' h17 => e2' 0 = v0 ∧ e2' 2 = v1 ∧ e2' 8 = .pointer (some ⟨h.length, 0, none⟩) ∧ e2' 9 = .pointer (some ⟨h1.length, 0, none⟩) ∧ e2' 10 = .int .i64 i ∧ e2' 11 = .int .i64 n ∧ e2' 12 = .int .i64 p ∧ e2' 13 = .int .i64 q ∧ e2' 52 = .int .i64 (n % 8) ∧ (∃ b, e2' 85 = .bool b) ∧ h17 = h') ?_ ?_
      · rintro E h17 ⟨d0, d2, d8, d9, d10, d11, d12, d13, d52, ⟨b, d85⟩, rfl⟩
        rw [d0, d9, d11, d12, d13, d52, d85]
        cases b with
        | true =>
          refine c_t ?_
          refine w_quo (by decide) n0 (by omega) (w_rem (by decide) (by omega) ?_)
          refine pick55 (hl.ex hx) bl (by omega) fun h18 r2 x18 hr2 => w_geq ?_
          refine c_dec (fun q4 => ?_) (fun q4 => ?_)
          · have sy : SymOK l r2 1 := hr2.resolve_left (by omega)
            have rr := (r.ex x18).ex (Ex.res h18)
            refine w_offP (w_rdP rr.row (v := v 2) rfl ?_)
            refine w_quo (by decide) n0 (by omega) ?_
            refine w_offP (w_rdP rr.row (v := .int .i64 m.g) rfl ?_)
            have hgg := ok.g
            refine w_rem (by omega) (by omega) ?_
            have qg : 0 ≤ n / 8000 % m.g ∧ n / 8000 % m.g < m.g := ⟨Int.emod_nonneg _ (by omega), Int.emod_lt_of_pos _ (by omega)⟩
            refine w_add (by omega) (by omega) ?_
            refine w_some rfl (w_some (bldSl_one rfl (by decide) rfl rfl) ?_)
            refine n_res ?_
            exact MkI.app (m' := { m with opens := m.opens ++ [(p, r2, q, 1 + n / 8000 % m.g)] }) (b := i + 1) (news := e4 (p, r2, q, 1 + n / 8000 % m.g)) (r.ex x18) hp (hx.trans x18) (x18.some hz) 2 (by decide) rfl rfl (flat_snoc _ _ _) (by show List.length _ = _ + 1; rw [List.length_append]; rfl) (fun _ => rfl) (fun _ => rfl) (fun h => (h rfl).elim) (fun _ => rfl) (fun _ => rfl) rfl (by have := numOf_le ok 2; omega)
              (ok.addOpen ⟨hp', sy, hq', by show 1 ≤ 1 + n / 8000 % m.g; omega, by show 1 + n / 8000 % m.g ≤ m.g; omega⟩) fun h5 k5 a b c => hJ _ _ ⟨d0, d2, d8, d9, d10, k5⟩
          · exact hJ _ _ ⟨d0, d2, d8, d9, d10, ⟨m, v, F, r.ex x18, ok.mono (by omega), hp, hx.trans x18, x18.some hz⟩⟩
        | false =>
          refine c_f ?_
          refine w_eql (c_dec (fun q5 => ?_) (fun q5 => ?_))
          · refine c_tt q5 ?_
            refine w_quo (by decide) n0 (by omega) (w_rem (by decide) (by omega) ?_)
            refine pick55 (hl.ex hx) bl (by omega) fun h18 r2 x18 hr2 => w_geq ?_
            refine c_dec (fun q4 => ?_) (fun q4 => ?_)
            · have sy : SymOK l r2 2 := hr2.resolve_left (by omega)
              have rr := (r.ex x18).ex (Ex.res h18)
              refine w_offP (w_rdP rr.row (v := v 3) rfl ?_)
              refine w_quo (by decide) n0 (by omega) ?_
              refine w_offP (w_rdP rr.row (v := .int .i64 m.g) rfl ?_)
              have hgg := ok.g
              refine w_add (by omega) (by omega) (w_rem (by omega) (by omega) ?_)
              have qg : 0 ≤ n / 8000 % (m.g + 1) ∧ n / 8000 % (m.g + 1) < m.g + 1 := ⟨Int.emod_nonneg _ (by omega), Int.emod_lt_of_pos _ (by omega)⟩
              refine w_some rfl (w_some (bldSl_one rfl (by decide) rfl rfl) ?_)
              refine n_res ?_
              exact MkI.app (m' := { m with closes := m.closes ++ [(p, r2, n / 8000 % (m.g + 1), q)] }) (b := i + 1) (news := e4 (p, r2, n / 8000 % (m.g + 1), q)) (r.ex x18) hp (hx.trans x18) (x18.some hz) 3 (by decide) rfl rfl (flat_snoc _ _ _) (by show List.length _ = _ + 1; rw [List.length_append]; rfl) (fun _ => rfl) (fun _ => rfl) (fun _ => rfl) (fun h => (h rfl).elim) (fun _ => rfl) rfl (by have := numOf_le ok 3; omega)
                (ok.addClose ⟨hp', sy, hq', qg.1, by show n / 8000 % (m.g + 1) ≤ m.g; omega⟩) fun h5 k5 a b c => hJ _ _ ⟨d0, d2, d8, d9, d10, k5⟩
            · exact hJ _ _ ⟨d0, d2, d8, d9, d10, ⟨m, v, F, r.ex x18, ok.mono (by omega), hp, hx.trans x18, x18.some hz⟩⟩
          · refine w_eql (c_dec (fun q6 => ?_) (fun q6 => ?_))
            · refine w_quo (by decide) n0 (by omega) (w_rem (by decide) (by omega) ?_)
              refine pick55 (hl.ex hx) bl (by omega) fun h18 r2 x18 hr2 => w_geq ?_
              refine c_dec (fun q4 => ?_) (fun q4 => ?_)
              · have sy : SymOK l r2 2 := hr2.resolve_left (by omega)
                have rr := (r.ex x18).ex (Ex.res h18)
                refine w_offP (w_rdP rr.row (v := v 3) rfl ?_)
                refine w_quo (by decide) n0 (by omega) ?_
                refine w_offP (w_rdP rr.row (v := .int .i64 m.g) rfl ?_)
                have hgg := ok.g
                refine w_add (by omega) (by omega) (w_rem (by omega) (by omega) ?_)
                have qg : 0 ≤ n / 8000 % (m.g + 1) ∧ n / 8000 % (m.g + 1) < m.g + 1 := ⟨Int.emod_nonneg _ (by omega), Int.emod_lt_of_pos _ (by omega)⟩
                refine w_some rfl (w_some (bldSl_one rfl (by decide) rfl rfl) ?_)
                refine n_res ?_
                exact MkI.app (m' := { m with closes := m.closes ++ [(p, r2, n / 8000 % (m.g + 1), q)] }) (b := i + 1) (news := e4 (p, r2, n / 8000 % (m.g + 1), q)) (r.ex x18) hp (hx.trans x18) (x18.some hz) 3 (by decide) rfl rfl (flat_snoc _ _ _) (by show List.length _ = _ + 1; rw [List.length_append]; rfl) (fun _ => rfl) (fun _ => rfl) (fun _ => rfl) (fun h => (h rfl).elim) (fun _ => rfl) rfl (by have := numOf_le ok 3; omega)
                  (ok.addClose ⟨hp', sy, hq', qg.1, by show n / 8000 % (m.g + 1) ≤ m.g; omega⟩) fun h5 k5 a b c => hJ _ _ ⟨d0, d2, d8, d9, d10, k5⟩
              · exact hJ _ _ ⟨d0, d2, d8, d9, d10, ⟨m, v, F, r.ex x18, ok.mono (by omega), hp, hx.trans x18, x18.some hz⟩⟩
            · refine w_quo (by decide) n0 (by omega) (w_rem (by decide) (by omega) ?_)
              refine pick55 (hl.ex hx) bl (by omega) fun h18 r2 x18 hr2 => w_geq ?_
              refine c_dec (fun q4 => ?_) (fun q4 => ?_)
              · have sy : SymOK l r2 3 := hr2.resolve_left (by omega)
                have rr := r.ex x18
                refine w_offP (w_rdP rr.row (v := v 4) rfl ?_)
                refine w_some rfl (w_some (bldSl_one rfl (by decide) rfl rfl) ?_)
                exact MkI.app (m' := { m with inners := m.inners ++ [(p, r2, q)] }) (b := i + 1) (news := e3 (p, r2, q)) (r.ex x18) hp (hx.trans x18) (x18.some hz) 4 (by decide) rfl rfl (flat_snoc _ _ _) (by show List.length _ = _ + 1; rw [List.length_append]; rfl) (fun _ => rfl) (fun _ => rfl) (fun _ => rfl) (fun _ => rfl) (fun h => (h rfl).elim) rfl (by have := numOf_le ok 4; omega)
                  (ok.addInner ⟨hp', sy, hq'⟩) fun h5 k5 a b c => hJ _ _ ⟨d0, d2, d8, d9, d10, k5⟩
              · exact hJ _ _ ⟨d0, d2, d8, d9, d10, ⟨m, v, F, r.ex x18, ok.mono (by omega), hp, hx.trans x18, x18.some hz⟩⟩
      · intro J1 hJ1
        refine w_eql (c_dec (fun q5 => ?_) (fun q5 => ?_))
        · exact hJ1 _ _ ⟨e0, e2, e8, e9, e10, rfl, rfl, rfl, rfl, ⟨_, rfl⟩, rfl⟩
        · refine w_eql ?_
          exact hJ1 _ _ ⟨e0, e2, e8, e9, e10, rfl, rfl, rfl, rfl, ⟨_, rfl⟩, rfl⟩
    · refine w_offP (w_rdP r.row (v := v 0) rfl ?_)
      refine w_len (r.own 0 (by decide)).sl (w_eql ?_)
      exact makeFin (fun _ _ _ => e8) (fun _ => e8) r (ok.mono hi24) hp hx hz k
  · refine g_tf q1 (g_tf q1 (pk_ff q1 (c_f ?_)))
    refine w_offP (w_rdP r.row (v := v 0) rfl ?_)
    refine w_len (r.own 0 (by decide)).sl (w_eql ?_)
    exact makeFin (fun _ _ _ => e8) (fun _ => e8) r (ok.mono hi24) hp hx hz k
end Go.Proofs.Ytebbjimmgblcpaa.W
end

section
/- one, opens; a machine in a box: the walks. Conditions: none. -/
namespace Go.Proofs.Ytebbjimmgblcpaa.W
open Go Go.AM FeedM
set_option linter.unusedVariables false
set_option maxRecDepth 100000

theorem res15 (e : Env) (h : AH) : resList Try.prog e h Try.f15.results.toList = (rdRow true 7 (e 6) h).map fun v => [v] := by
  have h1 : Try.f15.results.toList = [.cell 6 30] := by kernel_rfl
  have h2 : ∀ x, pLoad Try.prog 30 x h = rdRow true 7 x h := fun x => by kernel_rfl
  rw [h1]
  show (match pLoad Try.prog 30 (e 6) h with
    | some v => match resList Try.prog e h [] with
      | some vs => some (v :: vs)
      | none => none
    | none => none) = _
  rw [h2]
  cases rdRow true 7 (e 6) h <;> rfl

theorem hopt {α : Type} {o : Option α} {x : α} (ho : optW o fun y => y = x) : o = some x := by
  cases o with
  | none => exact ho.elim
  | some y => have : y = x := ho; rw [this]

theorem one15 {h : AH} {v0 v1 : Value} {l : List Sy} {size : Int} {ns : List Int} {K : Value → AH → Prop} (hl : Syms h v0 l) (bl : l.length ≤ 1000) (hs : I64 size) (hns : Ints h v1 ns)
    (k : ∀ h' vm m, Ex h h' → MV h' vm m → MkOK l m 25 → m.init ≠ [] → K vm h') : callW Try.prog 15 [v0, .int .i64 size, v1] h K := by
  refine c15 ?_
  unfold s15
  refine n_rowv (c := z7) fun h1 x1 l1 g1 => ?_
  refine make35 (hl.ex x1) bl hs (hns.ex x1) fun h2 vm m x2 mv ok ne => ?_
  obtain ⟨vi, vf, vo, vc, vn, rfl, p1, p2, p3, p4, p5, lo⟩ := mv
  obtain ⟨a1, n1, c1, rfl⟩ := Sl.isSl p1
  obtain ⟨a2, n2, c2, rfl⟩ := Sl.isSl p2
  obtain ⟨a3, n3, c3, rfl⟩ := Sl.isSl p3
  obtain ⟨a4, n4, c4, rfl⟩ := Sl.isSl p4
  obtain ⟨a5, n5, c5, rfl⟩ := Sl.isSl p5
  have g2 := x2.some g1
  have hb := lt_of_get g2
  refine w_stPA g2 rfl (Nat.le_refl 7) rfl ?_
  rw [res15]
  refine w_some (v := [.agg (mcells m.n m.g (.slice a1 n1 c1) (.slice a2 n2 c2) (.slice a3 n3 c3) (.slice a4 n4 c4) (.slice a5 n5 c5)).toArray]) ?_ ?_
  · have g := hopt (o := rdRow true 7 (.pointer (some ⟨h.length, 0, none⟩)) _) (w_rdPA (get_set h2 hb (.row (spliceL z7 0 (cellsL (.agg (mcells m.n m.g (.slice a1 n1 c1) (.slice a2 n2 c2) (.slice a3 n3 c3) (.slice a4 n4 c4) (.slice a5 n5 c5)).toArray))) true)) (Nat.le_refl 7) rfl)
    show (rdRow true 7 (.pointer (some ⟨h.length, 0, none⟩)) (h2.set h.length (.row (spliceL z7 0 (cellsL (.agg (mcells m.n m.g (.slice a1 n1 c1) (.slice a2 n2 c2) (.slice a3 n3 c3) (.slice a4 n4 c4) (.slice a5 n5 c5)).toArray))) true))).map _ = _
    rw [g]
    rfl
  · have ne' : ∀ j, (onId (.slice a1 n1 c1) j ∨ onId (.slice a2 n2 c2) j ∨ onId (.slice a3 n3 c3) j ∨ onId (.slice a4 n4 c4) j ∨ onId (.slice a5 n5 c5) j) → h.length ≠ j := fun j hj => by have := lo j hj; omega
    exact k _ _ m ((x1.trans x2).set (Nat.le_refl _) _) ⟨_, _, _, _, _, rfl, Sl.same p1 fun j hj => get_ne (ne' j (.inl hj)) _, Sl.same p2 fun j hj => get_ne (ne' j (.inr (.inl hj))) _, Sl.same p3 fun j hj => get_ne (ne' j (.inr (.inr (.inl hj)))) _,
      Sl.same p4 fun j hj => get_ne (ne' j (.inr (.inr (.inr (.inl hj))))) _, Sl.same p5 fun j hj => get_ne (ne' j (.inr (.inr (.inr (.inr hj))))) _⟩ ok ne

/-- a machine laid in a box. -/
def Box (h : AH) (p : Nat) (m : Mach) : Prop := ∃ cells, h[p]? = some (.row cells true) ∧ 0 + 7 ≤ cells.length ∧ MV h (.agg ((cells.drop 0).take 7).toArray) m
theorem Box.ex {h h' : AH} {p : Nat} {m : Mach} (b : Box h p m) (x : Ex h h') : Box h' p m := by
  obtain ⟨c, g, hl, mv⟩ := b
  exact ⟨c, x.some g, hl, mv.ex x⟩
theorem Box.rd {h : AH} {p : Nat} {m : Mach} {K : Value → Prop} (b : Box h p m) (k : ∀ v, MV h v m → K v) : optW (rdRow true 7 (.pointer (some ⟨p, 0, none⟩)) h) K := by
  obtain ⟨c, g, hl, mv⟩ := b
  exact w_rdPA g hl (k _ mv)
theorem boxA {h : AH} {vm : Value} {m : Mach} {Q : Value → AH → AH → Prop} (mv : MV h vm m) (k : ∀ h15 h16, Ex h h16 → Box h16 h.length m → h.length < h16.length → Q (.pointer (some ⟨h.length, 0, none⟩)) h15 h16) :
    newR none [(.int .i64 0), (.int .i64 0), (.slice none 0 0), (.slice none 0 0), (.slice none 0 0), (.slice none 0 0), (.slice none 0 0)] h fun v12 h15 => optW (pStore 7 v12 vm h15) fun h16 => Q v12 h15 h16 := by
  refine n_rowv (c := z7) fun h1 x1 l1 g1 => ?_
  have mv0 := mv
  obtain ⟨vi, vf, vo, vc, vn, rfl, p1, p2, p3, p4, p5⟩ := mv
  obtain ⟨a1, n1, c1, rfl⟩ := Sl.isSl p1
  obtain ⟨a2, n2, c2, rfl⟩ := Sl.isSl p2
  obtain ⟨a3, n3, c3, rfl⟩ := Sl.isSl p3
  obtain ⟨a4, n4, c4, rfl⟩ := Sl.isSl p4
  obtain ⟨a5, n5, c5, rfl⟩ := Sl.isSl p5
  have hb := lt_of_get g1
  refine w_stPA g1 rfl (Nat.le_refl 7) rfl ?_
  have x2 : ∀ o, Ex h (h1.set h.length o) := fun o => x1.set (Nat.le_refl _) o
  exact k h1 _ (x2 _) ⟨_, get_set _ hb _, Nat.le_refl 7, mv0.ex (x2 _)⟩ (by simpa using hb)

theorem opens20 {h : AH} {s : List UInt8} {K : Value → AH → Prop} (hs : s.length ≤ 10000000) (k : ∀ n : Int, K (.int .i64 n) h) : callW Try.prog 20 [.string (bs s)] h K := by
  refine c20 ?_
  unfold s20
  refine loopE_intro (fun m e h' => ∃ i n : Nat, i ≤ s.length ∧ n ≤ i ∧ m = s.length - i ∧ e 0 = .string (bs s) ∧ e 3 = .int .i64 n ∧ e 4 = .int .i64 i ∧ h' = h) s.length ⟨0, 0, Nat.zero_le _, Nat.zero_le _, rfl, rfl, rfl, rfl, rfl⟩ ?_
  rintro I m e h' ⟨i, n, hi, hn, hm, e0, e3, e4, rfl⟩ hI
  rw [e0, e3, e4]
  refine w_lenStr (w_lss (c_dec (fun q => ?_) (fun q => k _)))
  obtain ⟨c, hc⟩ := getElem?_of_lt (l := s) (i := i) (by omega)
  have yes : ∀ e' : Env, e' 0 = .string (bs s) → e' 3 = .int .i64 ((n : Int) + 1) → e' 4 = .int .i64 ((i : Int) + 1) → I e' h' := fun e' f0 f3 f4 => hI (m - 1) _ _ (by omega) ⟨i + 1, n + 1, by omega, by omega, by omega, f0, f3, f4, rfl⟩
  have no : ∀ e' : Env, e' 0 = .string (bs s) → e' 3 = .int .i64 (n : Int) → e' 4 = .int .i64 ((i : Int) + 1) → I e' h' := fun e' f0 f3 f4 => hI (m - 1) _ _ (by omega) ⟨i + 1, n, by omega, by omega, by omega, f0, f3, f4, rfl⟩
  refine w_idxStr (by omega) hc (w_eql ?_)
  by_cases q1 : (c.toNat : Int) = 60
  · refine g_tt q1 (g_tt q1 (w_add (by omega) (by omega) (g_tt q1 (g_tt q1 (w_lenStr (g_tt q1 (w_eql (g_tt q1 ?_))))))))
    by_cases q2 : ((i : Int) + 1 = (s.length : Nat))
    · iterate 5 refine g_ft q2 ?_
      refine g_tt q1 (pk_tt q2 (pk_tt q1 (c_t ?_)))
      refine w_add (by omega) (by omega) (w_add (by omega) (by omega) ?_)
      exact yes _ e0 rfl rfl
    · obtain ⟨c', hc'⟩ := getElem?_of_lt (l := s) (i := i + 1) (by omega)
      refine g_ff q2 (g_ff q2 (g_ff q2 (w_add (by omega) (by omega) (g_ff q2 ?_))))
      refine w_idxStr (by omega) (by rw [show ((i : Int) + 1).toNat = i + 1 by omega]; exact hc') (g_ff q2 (w_neq ?_))
      refine g_tt q1 (pk_ff q2 (pk_tt q1 (c_dec (fun _ => ?_) (fun _ => ?_))))
      · refine w_add (by omega) (by omega) (w_add (by omega) (by omega) ?_)
        exact yes _ e0 rfl rfl
      · refine w_add (by omega) (by omega) ?_
        exact no _ e0 e3 rfl
  · iterate 6 refine g_tf q1 ?_
    iterate 5 refine g_un ?_
    refine g_tf q1 (pk_ff q1 (c_f ?_))
    refine w_add (by omega) (by omega) ?_
    exact no _ e0 e3 rfl
end Go.Proofs.Ytebbjimmgblcpaa.W
end

section
/- FeedEnds: the walk. Conditions: none. -/
namespace Go.Proofs.Ytebbjimmgblcpaa.W
open Go Go.AM FeedM
set_option linter.unusedVariables false
set_option maxRecDepth 100000

theorem newM {h : AH} {v0 vm : Value} {l : List Sy} {m : Mach} {deep : Int} {K : Value → AH → Prop} (hl : Syms h v0 l) (hm : MV h vm m) (lc : l ∈ symChoices) (ok : MkOK l m 25)
    (k : ∀ h' f F', Ex h h' → FR h' f (FeedM.new l m deep) F' → (∀ j, F' j → h.length ≤ j) → K (.pointer (some ⟨f, 0, none⟩)) h') :
    callW Try.prog 22 [v0, vm, .int .i64 deep] h K := by
  have := small_choices l lc
  have := big40
  have := ok.cnt
  exact newA hl hm (by omega) (by omega) (by omega) (by omega) (by omega) (by omega) k
theorem fit_mk {l : List Sy} {m : Mach} (lc : l ∈ symChoices) (ok : MkOK l m 25) (d : Int) : Fit (FeedM.new l m d) 1000000 := by
  have := small_choices l lc
  have := big40
  have := ok.cnt
  exact Fit.new (by simp only [Uof, List.length_append, List.length_map]; omega) (by omega) (by omega) (by omega)

theorem shut_err {st : FS} (h : st.e ≠ 0) : FeedM.shut st = { st with closed := true } := by
  unfold FeedM.shut FeedM.shut1
  rw [if_neg h]
  unfold FeedM.shut2
  split
  · rfl
  · unfold FeedM.wrong
    rw [if_neg h]

end Go.Proofs.Ytebbjimmgblcpaa.W
end

section
/- FeedCuts: the walk. Conditions: none. -/
namespace Go.Proofs.Ytebbjimmgblcpaa.W
open Go Go.AM FeedM
set_option linter.unusedVariables false
set_option maxRecDepth 100000

theorem w_beqs {c : Bool} {K : Value → Prop} (k : K (.bool true)) : optW (pBin Try.prog .eql 4 (.bool c) (.bool c)) K := by
  refine w_some (v := .bool true) ?_ k
  cases c <;> rfl

theorem take_piece {α : Type} (s : List α) {a b : Nat} (h : a ≤ b) : s.take a ++ (s.drop a).take (b - a) = s.take b := by
  have : b = a + (b - a) := by omega
  conv => rhs; rw [this, List.take_add]

end Go.Proofs.Ytebbjimmgblcpaa.W
end

section
/- What the document's chapters 1, 3, 4 ask of a machine: walks of Deep, state, kind, Check, inside. Conditions: none. -/
namespace Go.Proofs.Ytebbjimmgblcpaa.W
open Go Go.AM FeedM
set_option linter.unusedVariables false
set_option maxRecDepth 100000

/-- a slice of the call's own, or an empty one. -/
def QS (s b : Nat) (h : AH) (v : Value) (n : Nat) (cs : List Value) : Prop := OwnSl s b h v n cs ∨ ∃ i, b ≤ i ∧ i < h.length ∧ v = .slice (some ⟨i, 0, none⟩) 0 0 ∧ n = 0 ∧ cs = []
theorem QS.sl {s b : Nat} {h : AH} {v : Value} {n : Nat} {cs : List Value} (q : QS s b h v n cs) : Sl s h v n cs := by
  rcases q with q | ⟨i, hb, hi, rfl, rfl, rfl⟩
  · exact q.sl
  · exact ⟨by simp, .inr ⟨i, 0, 0, rfl, .inl ⟨by decide, Nat.le_refl _⟩, .inl rfl⟩⟩
theorem QS.ex {s b : Nat} {h h' : AH} {v : Value} {n : Nat} {cs : List Value} (q : QS s b h v n cs) (x : Ex h h') : QS s b h' v n cs := by
  rcases q with q | ⟨i, hb, hi, e⟩
  · exact .inl (q.ex x)
  · exact .inr ⟨i, hb, x.lt hi, e⟩
theorem QS.low {s b : Nat} {h : AH} {v : Value} {n : Nat} {cs : List Value} (q : QS s b h v n cs) {j : Nat} (hj : onId v j) : b ≤ j := by
  rcases q with (⟨rfl, _⟩ | ⟨id, hb, rfl, _⟩) | ⟨i, hb, hi, rfl, _⟩
  · exact hj.elim
  · have : id = j := hj
    omega
  · have : i = j := hj
    omega

theorem app_q {s b : Nat} {h : AH} {v x : Value} {n m : Nat} {cs news : List Value} {K : Value → AH → Prop} (hs : 0 < s) (hq : QS s b h v n cs) (hx : srcL s x h = some (m, news)) (hm : news.length = m * s) (hn : n + m < room40) (hb : b ≤ h.length)
    (k : ∀ v' h', QS s b h' v' (n + m) (cs ++ news) → h.length ≤ h'.length → (∀ j, j < h.length → ¬ onId v j → h'[j]? = h[j]?) → K v' h') : appS s v x h K := by
  rcases hq with hq | ⟨i, hbi, hi, rfl, rfl, rfl⟩
  · exact app_own hs hq hx hm hn hb fun v' h' o1 o2 o3 o4 => k v' h' (.inl o1) o2 o3
  · refine .inl ?_
    by_cases m0 : m = 0
    · subst m0
      have hnews : news = [] := List.eq_nil_of_length_eq_zero (by omega)
      subst hnews
      have : pAppS s (.slice (some ⟨i, 0, none⟩) 0 0) x h = some (.slice (some ⟨i, 0, none⟩) 0 0, h) := by
        unfold pAppS
        simp only [hx]
        rw [if_pos hn, if_pos (by decide)]
        simp [pAppEx, stAt]
      rw [this]
      exact k _ _ (.inr ⟨i, hbi, hi, rfl, rfl, rfl⟩) (Nat.le_refl _) (fun _ _ _ => rfl)
    · have : pAppS s (.slice (some ⟨i, 0, none⟩) 0 0) x h = some (.slice (some ⟨h.length, 0, none⟩) (0 + m) (openCap + s), h ++ [.row ([] ++ news) true]) := by
        unfold pAppS
        simp only [hx]
        rw [if_pos hn, if_pos (by decide)]
        simp only [pAppEx]
        rw [if_neg (by omega)]
        simp [firstL]
      rw [this]
      exact k _ _ (.inl (.inr ⟨h.length, hb, rfl, get_new _ _, by simp [hm]⟩)) (by simp) (fun j hj _ => List.getElem?_append_left hj)

/-- a machine's row -/
structure MB (h : AH) (p : Nat) (m : Mach) (vi vf vo vc vn : Value) : Prop where
  row : h[p]? = some (.row (mcells m.n m.g vi vf vo vc vn) true)
  i : Ints h vi m.init
  f : Ints h vf m.final
  o : SlT 4 e4 h vo m.opens
  c : SlT 4 e4 h vc m.closes
  n : SlT 3 e3 h vn m.inners
theorem MB.ex {h h' : AH} {p : Nat} {m : Mach} {vi vf vo vc vn : Value} (b : MB h p m vi vf vo vc vn) (x : Ex h h') : MB h' p m vi vf vo vc vn :=
  ⟨x.some b.row, b.i.ex x, b.f.ex x, b.o.ex x, b.c.ex x, b.n.ex x⟩
theorem MB.rd {h : AH} {p : Nat} {m : Mach} {vi vf vo vc vn : Value} {K : Value → Prop} (b : MB h p m vi vf vo vc vn) (k : ∀ v, MV h v m → K v) : optW (rdRow true 7 (.pointer (some ⟨p, 0, none⟩)) h) K :=
  w_rdPA b.row (Nat.le_refl 7) (k _ ⟨vi, vf, vo, vc, vn, rfl, b.i, b.f, b.o, b.c, b.n⟩)
theorem boxM {h : AH} {vm : Value} {m : Mach} {K : Value → AH → Prop} (mv : MV h vm m) (k : ∀ h' vi vf vo vc vn, Ex h h' → h'.length = h.length + 1 → MB h' h.length m vi vf vo vc vn → K (.pointer (some ⟨h.length, 0, none⟩)) h') : aBox vm none h K := by
  obtain ⟨vi, vf, vo, vc, vn, rfl, p1, p2, p3, p4, p5⟩ := mv
  obtain ⟨a1, n1, c1, rfl⟩ := Sl.isSl p1
  obtain ⟨a2, n2, c2, rfl⟩ := Sl.isSl p2
  obtain ⟨a3, n3, c3, rfl⟩ := Sl.isSl p3
  obtain ⟨a4, n4, c4, rfl⟩ := Sl.isSl p4
  obtain ⟨a5, n5, c5, rfl⟩ := Sl.isSl p5
  refine n_boxv rfl fun h1 x1 l1 g1 => ?_
  exact k h1 _ _ _ _ _ x1 l1 ⟨g1, p1.ex x1, p2.ex x1, p3.ex x1, p4.ex x1, p5.ex x1⟩

theorem state50 {h : AH} {vm : Value} {m : Mach} {p : Int} {K : Value → AH → Prop} (mv : MV h vm m) (hp : 0 ≤ p ∧ p < m.n) (k : ∀ h', Ex h h' → K (.bool true) h') : callW Try.prog 50 [vm, .int .i64 p] h K := by
  refine c50 ?_
  unfold s50
  refine boxM mv fun h1 vi vf vo vc vn x1 l1 b1 => ?_
  refine w_geq (g_tt hp.1 (g_tt hp.1 (w_offP (g_tt hp.1 (w_rdP b1.row (v := .int .i64 m.n) rfl (g_tt hp.1 (w_lss (pk_tt hp.1 ?_))))))))
  rw [decide_eq_true hp.2]
  exact k h1 x1

theorem kind51 {h : AH} {v0 : Value} {l : List Sy} {s kd : Int} {K : Value → AH → Prop} (hl : Syms h v0 l) (hs : SymOK l s kd) (k : K (.bool true) h) : callW Try.prog 51 [v0, .int .i64 s, .int .i64 kd] h K := by
  obtain ⟨s0, s1, s2⟩ := hs
  obtain ⟨x, hx⟩ := getElem?_of_lt (l := l) (i := s.toNat) (by omega)
  refine c51 ?_
  unfold s51
  refine w_geq (g_tt s0 (g_tt s0 (g_tt s0 (w_len hl (g_tt s0 (w_lss (pk_tt s0 ?_)))))))
  refine g_tt s1 (g_tt s1 (g_tt s1 ?_))
  refine w_idxT (enc := eSy) eSy_len hl s0 hx fun p hp => ?_
  refine g_tt s1 (w_off hp (by simp [eSy_len]) fun p hp => ?_)
  refine g_tt s1 (w_rd1 hp rfl (g_tt s1 (g_tt s1 (w_eql (pk_tt s1 ?_)))))
  unfold kindAt at s2
  rw [hx] at s2
  rw [decide_eq_true s2]
  exact k

theorem idrow {a b : AH} {i off : Nat} {o : AObj} (h1 : a[i]? = some o) (h2 : b[i]? = some o) : ∀ z ∈ idOf (.pointer (some ⟨i, off, none⟩)), a[z]? = b[z]? := by
  intro z hz
  have : z = i := List.mem_singleton.1 hz
  rw [this, h1, h2]

/-- the first and the last states, in one slice. -/
theorem copyIF {h : AH} {p : Nat} {m : Mach} {vi vf vo vc vn : Value} {K : List Value → Nat → Value → Value → Value → Value → Value → Value → AH → Prop} (b : MB h p m vi vf vo vc vn) (hn : m.init.length + m.final.length < room40)
    (k : ∀ h' v, Ex h h' → QS 1 h.length h' v (m.init ++ m.final).length (flat eI (m.init ++ m.final)) → ∀ a1 a2 a3 a4 a5 a6 a7, K a1 a2 a3 a4 a5 a6 a7 v h') :
    optW (bldSl 1 [(.int .i64 0)] 0 []) fun c =>
    newW (some (h.length)) (.row c true) (reserve 1 h) fun i h_23 =>
    optW (pOff 2 (.pointer (some ⟨p, 0, none⟩))) fun v46 =>
    (∀ x ∈ (idOf v46), ((reserve 1 h) : AH)[x]? = (h_23 : AH)[x]?) ∧
    optW (rdRow false 1 v46 h_23) fun v47 =>
    appSl 1 (.slice (some ⟨i, 0, none⟩) 0 0) v47 h_23 fun v48 h_24 =>
    optW (pOff 3 (.pointer (some ⟨p, 0, none⟩))) fun v49 =>
    (∀ x ∈ (idOf v49), (h_23 : AH)[x]? = (h_24 : AH)[x]?) ∧
    (∀ x ∈ (idOf v49), ((reserve 1 h) : AH)[x]? = (h_23 : AH)[x]?) ∧
    optW (rdRow false 1 v49 h_24) fun v50 =>
    appSl 1 v48 v50 h_24 fun v51 h_25 => K c i v46 v47 v48 v49 v50 v51 h_25 := by
  have hp := lt_of_get b.row
  refine w_some (v := []) rfl ?_
  refine n_slot ?_
  have x0 := Ex.res h
  have b0 := b.ex x0
  have x1 : Ex h ((reserve 1 h).set h.length (.row [] true)) := x0.set (Nat.le_refl _) _
  have l1 : ((reserve 1 h).set h.length (.row [] true)).length = h.length + 1 := by rw [reserve_set]; simp
  have b1 := b.ex x1
  generalize (reserve 1 h).set h.length (.row [] true) = h1 at *
  refine w_offP ⟨idrow b0.row b1.row, ?_⟩
  refine w_rdP b1.row (v := vi) rfl ?_
  refine appSl_sl b1.i (app_q (b := h.length) (by decide) (.inr ⟨h.length, Nat.le_refl _, by omega, rfl, rfl, rfl⟩) (srcL_sl (by decide) b1.i) b1.i.1 (by omega) (by omega) fun v2 h2 q2 l2 k2 => ?_)
  have keep2 : ∀ j, j < h.length → h2[j]? = h[j]? := fun j hj => (k2 j (by omega) (fun hh => by have : h.length = j := hh; omega)).trans (x1.get j hj)
  have x2 : Ex h h2 := ⟨by omega, keep2⟩
  have b2 := b.ex x2
  refine w_offP ⟨idrow b1.row b2.row, idrow b0.row b1.row, ?_⟩
  refine w_rdP b2.row (v := vf) rfl ?_
  refine appSl_sl b2.f (app_q (by decide) q2 (srcL_sl (by decide) b2.f) b2.f.1 (by omega) (by omega) fun v3 h3 q3 l3 k3 => ?_)
  have x3 : Ex h h3 := ⟨by omega, fun j hj => (k3 j (by omega) (fun hh => by have := q2.low hh; omega)).trans (x2.get j hj)⟩
  refine k h3 v3 x3 ?_ _ _ _ _ _ _ _
  rw [flat_append, List.length_append]
  have e : ([] : List Value) ++ flat eI m.init ++ flat eI m.final = flat eI m.init ++ flat eI m.final := by rw [List.nil_append]
  have e2 : 0 + m.init.length + m.final.length = m.init.length + m.final.length := by omega
  rw [← e, ← e2]
  exact q3

def z4 : List Value := [(.int .i64 0), (.int .i64 0), (.int .i64 0), (.int .i64 0)]
theorem copy4 {h : AH} {o : Int × Int × Int × Int} {K : Value → AH → AH → Prop} (k : ∀ h1 h', Ex h h' → h'[h.length]? = some (.row (e4 o) true) → K (.pointer (some ⟨h.length, 0, none⟩)) h1 h') :
    newR none z4 h fun v8 h_29 => optW (pStore 4 v8 (.agg (e4 o).toArray) h_29) fun h_30 => K v8 h_29 h_30 := by
  refine n_rowv fun h1 x1 l1 g1 => ?_
  refine w_stPA g1 rfl (Nat.le_refl 4) rfl ?_
  exact k _ _ (x1.set (Nat.le_refl _) _) (get_set _ (lt_of_get g1) _)
def z3 : List Value := [(.int .i64 0), (.int .i64 0), (.int .i64 0)]
theorem copy3 {h : AH} {o : Int × Int × Int} {K : Value → AH → AH → Prop} (k : ∀ h1 h', Ex h h' → h'[h.length]? = some (.row (e3 o) true) → K (.pointer (some ⟨h.length, 0, none⟩)) h1 h') :
    newR none z3 h fun v8 h_29 => optW (pStore 3 v8 (.agg (e3 o).toArray) h_29) fun h_30 => K v8 h_29 h_30 := by
  refine n_rowv fun h1 x1 l1 g1 => ?_
  refine w_stPA g1 rfl (Nat.le_refl 3) rfl ?_
  exact k _ _ (x1.set (Nat.le_refl _) _) (get_set _ (lt_of_get g1) _)

theorem maxO_step (l : List Sy) (mx op : Nat) : True := trivial
/-- how deep a word is. -/
def mxs (l : List Sy) (w : List Int) : Nat × Nat := w.foldl (fun p k => (max p.1 (ostep l p.2 k), ostep l p.2 k)) (0, 0)
theorem mxs_snoc (l : List Sy) (w : List Int) (k : Int) : mxs l (w ++ [k]) = (max (mxs l w).1 (ostep l (mxs l w).2 k), ostep l (mxs l w).2 k) := by simp [mxs]
theorem mxs_opn (l : List Sy) : ∀ w, (mxs l w).2 = opn l w := snoc_ind rfl fun w k ih => by rw [mxs_snoc, opn_snoc, ih]
theorem mxs_low (l : List Sy) (d : Int) (hd : 0 ≤ d) : ∀ w, Low l d w ↔ ((mxs l w).1 : Int) ≤ d := by
  refine snoc_ind ?_ ?_
  · exact ⟨fun _ => hd, fun _ n => by rw [List.take_nil]; exact hd⟩
  · intro w k ih
    rw [mxs_snoc, mxs_opn]
    constructor
    · intro h
      have h1 := ih.1 h.init
      have h2 := h.last
      rw [opn_snoc] at h2
      show ((max (mxs l w).1 (ostep l (opn l w) k) : Nat) : Int) ≤ d
      omega
    · intro h n
      have h : ((max (mxs l w).1 (ostep l (opn l w) k) : Nat) : Int) ≤ d := h
      by_cases q : n ≤ w.length
      · rw [List.take_append_of_le_length q]
        exact ih.2 (by omega) n
      · rw [List.take_of_length_le (by simp; omega), opn_snoc]
        omega
theorem mxs_le (l : List Sy) : ∀ w, (mxs l w).1 ≤ w.length := by
  refine snoc_ind (Nat.le_refl _) ?_
  intro w k ih
  rw [mxs_snoc, mxs_opn, List.length_append, List.length_singleton]
  have := opn_le l w
  show max (mxs l w).1 (ostep l (opn l w) k) ≤ w.length + 1
  have : ostep l (opn l w) k ≤ opn l w + 1 := by
    unfold ostep
    split
    · omega
    split <;> omega
  omega

theorem w_max' {a b : Int} {c : Int} (hc : c = max a b) {K : Value → Prop} (k : K (.int .i64 c)) : optW (pMax2 true (.int .i64 a) (.int .i64 b)) K := by
  subst hc
  refine w_some (v := .int .i64 (max a b)) ?_ k
  unfold pMax2
  simp only [Int.max_def]
  split <;> split <;> simp_all <;> omega

theorem deep26 {h : AH} {v0 v1 : Value} {l : List Sy} {w : List Int} {K : Value → AH → Prop} (hl : Syms h v0 l) (hw : Ints h v1 w) (hin : ∀ k ∈ w, 0 ≤ k ∧ k < (l.length : Nat)) (hn : w.length ≤ 10000)
    (k : K (.int .i64 ((mxs l w).1 : Nat)) h) : callW Try.prog 26 [v0, v1] h K := by
  refine c26 ?_
  unfold s26
  refine loopE_intro (fun m e h' => ∃ i : Nat, i ≤ w.length ∧ m = w.length - i ∧ e 0 = v0 ∧ e 1 = v1 ∧ e 5 = .int .i64 ((mxs l (w.take i)).1 : Nat) ∧ e 6 = .int .i64 ((mxs l (w.take i)).2 : Nat) ∧ e 7 = .int .i64 i ∧ h' = h) w.length
    ⟨0, Nat.zero_le _, rfl, rfl, rfl, rfl, rfl, rfl, rfl⟩ ?_
  rintro I m e h' ⟨i, hi, hm, e0, e1, e5, e6, e7, rfl⟩ hI
  rw [e0, e1, e5, e6, e7]
  refine w_len hw (w_lss (c_dec (fun q => ?_) (fun q => ?_)))
  · obtain ⟨z, hz⟩ := getElem?_of_lt (l := w) (i := i) (by omega)
    obtain ⟨z0, z1⟩ := hin z (List.mem_of_getElem? hz)
    obtain ⟨x, hx⟩ := getElem?_of_lt (l := l) (i := z.toNat) (by omega)
    have b1 := mxs_le l (w.take i)
    have b2 := opn_le l (w.take i)
    rw [List.length_take] at b1 b2
    have hk : kindAt l z.toNat = x.2 := by unfold kindAt; rw [hx]
    have hs := mxs_snoc l (w.take i) z
    rw [← take_succ_get hz] at hs
    have h2 := mxs_opn l (w.take i)
    have next : ∀ (e' : Env), e' 0 = v0 → e' 1 = v1 → e' 5 = .int .i64 ((mxs l (w.take (i + 1))).1 : Nat) → e' 6 = .int .i64 ((mxs l (w.take (i + 1))).2 : Nat) → e' 7 = .int .i64 ((i : Int) + 1) → I e' h' :=
      fun e' f0 f1 f5 f6 f7 => hI (m - 1) _ _ (by omega) ⟨i + 1, by omega, by omega, f0, f1, f5, f6, f7, rfl⟩
    rw [hs] at next
    unfold ostep at next
    rw [hk] at next
    refine w_idxN eI_len hw hz fun p hp => w_rd1 hp rfl ?_
    refine w_idxT (enc := eSy) eSy_len hl z0 hx fun p hp => w_off hp (by simp [eSy_len]) fun p hp => w_rd1 hp rfl (w_eql ?_)
    refine c_dec (fun q1 => ?_) (fun q1 => ?_)
    · rw [if_pos q1] at next
      refine w_add (by omega) (by omega) (w_max' rfl (w_add (by omega) (by omega) ?_))
      exact next _ e0 e1 (by show Value.int .i64 _ = Value.int .i64 _; congr 1; omega) (by show Value.int .i64 _ = Value.int .i64 _; congr 1) rfl
    · rw [if_neg q1] at next
      refine w_eql (c_dec (fun q2 => ?_) (fun q2 => ?_))
      · rw [if_pos q2] at next
        refine w_sub (by omega) (by omega) (w_max' rfl (w_max' rfl (w_add (by omega) (by omega) ?_)))
        exact next _ e0 e1 (by show Value.int .i64 _ = Value.int .i64 _; congr 1; omega) (by show Value.int .i64 _ = Value.int .i64 _; congr 1; omega) rfl
      · rw [if_neg q2] at next
        refine w_max' rfl (w_add (by omega) (by omega) ?_)
        exact next _ e0 e1 (by show Value.int .i64 _ = Value.int .i64 _; congr 1; omega) e6 rfl
  · have : i = w.length := by omega
    rw [this, List.take_length]
    exact k
end Go.Proofs.Ytebbjimmgblcpaa.W
end

section
/- The document's Check of a machine of numbers: the walk. Conditions: none. -/
namespace Go.Proofs.Ytebbjimmgblcpaa.W
open Go Go.AM FeedM
set_option linter.unusedVariables false
set_option maxRecDepth 100000

theorem check25 {h : AH} {v0 vm : Value} {l : List Sy} {m : Mach} {K : Value → AH → Prop} (hl : Syms h v0 l) (mv : MV h vm m) (ok : MkOK l m 25) (k : ∀ h', Ex h h' → K (.int .i64 0) h') : callW Try.prog 25 [v0, vm] h K := by
  have r40 : (10000000 : Nat) < room40 := big40
  have hN := ok.n
  have hG := ok.g
  have hC := ok.cnt
  refine c25 ?_
  unfold s25
  refine boxM mv fun h1 vi vf vo vc vn x1 l1 b1 => ?_
  have n1 : ¬ m.n < 0 := by omega
  have n2 : ¬ 200 < m.n := by omega
  have n3 : ¬ m.g < 0 := by omega
  have n4 : ¬ 10000 < m.g := by omega
  have n5 : ¬ (100000 : Int) < (m.opens.length : Nat) + (m.closes.length : Nat) + (m.inners.length : Nat) := by omega
  refine w_offP (w_rdP b1.row (v := .int .i64 m.n) rfl (w_lss ?_))
  refine g_ff n1 (w_offP (g_ff n1 (w_rdP b1.row (v := .int .i64 m.n) rfl (g_ff n1 (w_gtr (pk_ff n1 ?_))))))
  refine g_ff n2 (w_offP (g_ff n2 (w_rdP b1.row (v := .int .i64 m.g) rfl (g_ff n2 (w_lss (pk_ff n2 ?_))))))
  refine g_ff n3 (w_offP (g_ff n3 (w_rdP b1.row (v := .int .i64 m.g) rfl (g_ff n3 (w_gtr (pk_ff n3 ?_))))))
  refine g_ff n4 (w_offP (g_ff n4 (w_rdP b1.row (v := vo) rfl (g_ff n4 (w_len b1.o ?_)))))
  refine g_ff n4 (w_offP (g_ff n4 (w_rdP b1.row (v := vc) rfl (g_ff n4 (w_len b1.c ?_)))))
  refine g_ff n4 (w_add (by omega) (by omega) ?_)
  refine g_ff n4 (w_offP (g_ff n4 (w_rdP b1.row (v := vn) rfl (g_ff n4 (w_len b1.n ?_)))))
  refine g_ff n4 (w_add (by omega) (by omega) (g_ff n4 (w_gtr (pk_ff n4 (c_ff n5 ?_)))))
  refine copyIF b1 (by omega) fun h2 vq x2 qs a1 a2 a3 a4 a5 a6 a7 => ?_
  have sq : Ints h2 vq (m.init ++ m.final) := qs.sl
  have inq : ∀ p ∈ m.init ++ m.final, 0 ≤ p ∧ p < m.n := fun p hp => (List.mem_append.1 hp).elim (ok.init p) (ok.final p)
  have lq : (m.init ++ m.final).length ≤ 25 := by rw [List.length_append]; omega
  generalize m.init ++ m.final = q at *
  have b2 := b1.ex x2
  have hl2 := hl.ex (x1.trans x2)
  refine loopE_intro (fun mm e h' => ∃ i : Nat, i ≤ q.length ∧ mm = q.length - i ∧ e 0 = v0 ∧ e 3 = .pointer (some ⟨h.length, 0, none⟩) ∧ e 5 = vq ∧ e 6 = .int .i64 i ∧ Ex h2 h') q.length ⟨0, Nat.zero_le _, rfl, rfl, rfl, rfl, rfl, Ex.refl _⟩ ?_
  rintro I mm e h' ⟨i, hi, hmm, e0, e3, e5, e6, hx⟩ hI
  rw [e3, e5, e6]
  refine w_len (sq.ex hx) (w_lss (c_dec (fun p1 => ?_) (fun p1 => ?_)))
  · obtain ⟨z, hz⟩ := getElem?_of_lt (l := q) (i := i) (by omega)
    refine (b2.ex hx).rd fun v58 mv58 => ?_
    refine w_idxN eI_len (sq.ex hx) hz fun p hp => w_rd1 hp rfl ?_
    refine state50 mv58 (inq z (List.mem_of_getElem? hz)) fun h3 x3 => w_notb (c_f ?_)
    refine w_add (by omega) (by omega) ?_
    exact hI (mm - 1) _ _ (by omega) ⟨i + 1, by omega, by omega, e0, e3, e5, rfl, hx.trans x3⟩
  clear hI
  refine loopE_intro (fun mm e h' => ∃ i : Nat, i ≤ m.opens.length ∧ mm = m.opens.length - i ∧ e 0 = v0 ∧ e 3 = .pointer (some ⟨h.length, 0, none⟩) ∧ e 7 = .int .i64 i ∧ Ex h2 h') m.opens.length ⟨0, Nat.zero_le _, rfl, e0, e3, rfl, hx⟩ ?_
  clear hx e0 e3 e5 e6 hmm hi p1
  rintro I mm e h' ⟨i, hi, hmm, e0, e3, e7, hx⟩ hI
  rw [e0, e3, e7]
  have b3 := b2.ex hx
  refine w_offP (w_rdP b3.row (v := vo) rfl (w_len b3.o (w_lss (c_dec (fun p1 => ?_) (fun p1 => ?_)))))
  · obtain ⟨o, ho⟩ := getElem?_of_lt (l := m.opens) (i := i) (by omega)
    obtain ⟨k1, k2, k3, k4, k5⟩ := ok.opens o (List.mem_of_getElem? ho)
    have n6 : ¬ o.2.2.2 < 1 := by omega
    have n7 : ¬ m.g < o.2.2.2 := by omega
    refine w_offP (w_rdP b3.row (v := vo) rfl ?_)
    refine w_idxN (enc := e4) (fun _ => rfl) b3.o ho fun p hp => w_rdA hp rfl ?_
    refine copy4 fun h4' h4 x4 g4 => ?_
    have b4 := b3.ex x4
    refine b4.rd fun v77 mv77 => w_offP (w_rdP g4 (v := .int .i64 o.1) rfl ?_)
    refine state50 mv77 k1 fun h5 x5 => w_notb (gc_ff ?_)
    have b5 := b4.ex x5
    refine b5.rd fun v83 mv83 => gc_ff (w_offP (gc_ff (w_rdP (x5.some g4) (v := .int .i64 o.2.2.1) rfl (gc_ff ?_))))
    refine state50 mv83 k3 fun h6 x6 => gc_ff (w_notb (pk_f (gc_ff (gc_ff (w_offP (gc_ff ?_))))))
    refine w_rdP (x6.some (x5.some g4)) (v := .int .i64 o.2.1) rfl (gc_ff ?_)
    have hl6 := hl2.ex (((hx.trans x4).trans x5).trans x6)
    refine kind51 hl6 k2 (gc_ff (w_notb (pk_f (gc_ff (w_offP (gc_ff ?_))))))
    have g6 := x6.some (x5.some g4)
    have b6 := b5.ex x6
    refine w_rdP g6 (v := .int .i64 o.2.2.2) rfl (gc_ff (w_lss (pk_f ?_)))
    refine g_ff n6 (w_offP (g_ff n6 (w_rdP g6 (v := .int .i64 o.2.2.2) rfl (g_ff n6 (w_offP (g_ff n6 (w_rdP b6.row (v := .int .i64 m.g) rfl (g_ff n6 (w_gtr (pk_ff n6 (c_ff n7 ?_)))))))))))
    refine w_add (by omega) (by omega) ?_
    exact hI (mm - 1) _ _ (by omega) ⟨i + 1, by omega, by omega, e0, e3, rfl, ((hx.trans x4).trans x5).trans x6⟩
  clear hI
  refine loopE_intro (fun mm e h' => ∃ i : Nat, i ≤ m.closes.length ∧ mm = m.closes.length - i ∧ e 0 = v0 ∧ e 3 = .pointer (some ⟨h.length, 0, none⟩) ∧ e 9 = .int .i64 i ∧ Ex h2 h') m.closes.length ⟨0, Nat.zero_le _, rfl, e0, e3, rfl, hx⟩ ?_
  clear b3 hx e0 e3 e7 hmm hi p1
  rintro I mm e h' ⟨i, hi, hmm, e0, e3, e9, hx⟩ hI
  rw [e0, e3, e9]
  have b3 := b2.ex hx
  refine w_offP (w_rdP b3.row (v := vc) rfl (w_len b3.c (w_lss (c_dec (fun p1 => ?_) (fun p1 => ?_)))))
  · obtain ⟨o, ho⟩ := getElem?_of_lt (l := m.closes) (i := i) (by omega)
    obtain ⟨k1, k2, k3, k4, k5⟩ := ok.closes o (List.mem_of_getElem? ho)
    have n6 : ¬ o.2.2.1 < 0 := by omega
    have n7 : ¬ m.g < o.2.2.1 := by omega
    refine w_offP (w_rdP b3.row (v := vc) rfl ?_)
    refine w_idxN (enc := e4) (fun _ => rfl) b3.c ho fun p hp => w_rdA hp rfl ?_
    refine copy4 fun h4' h4 x4 g4 => ?_
    have b4 := b3.ex x4
    refine b4.rd fun v77 mv77 => w_offP (w_rdP g4 (v := .int .i64 o.1) rfl ?_)
    refine state50 mv77 k1 fun h5 x5 => w_notb (gc_ff ?_)
    have b5 := b4.ex x5
    refine b5.rd fun v83 mv83 => gc_ff (w_offP (gc_ff (w_rdP (x5.some g4) (v := .int .i64 o.2.2.2) rfl (gc_ff ?_))))
    refine state50 mv83 k3 fun h6 x6 => gc_ff (w_notb (pk_f (gc_ff (gc_ff (w_offP (gc_ff ?_))))))
    refine w_rdP (x6.some (x5.some g4)) (v := .int .i64 o.2.1) rfl (gc_ff ?_)
    have hl6 := hl2.ex (((hx.trans x4).trans x5).trans x6)
    refine kind51 hl6 k2 (gc_ff (w_notb (pk_f (gc_ff (w_offP (gc_ff ?_))))))
    have g6 := x6.some (x5.some g4)
    have b6 := b5.ex x6
    refine w_rdP g6 (v := .int .i64 o.2.2.1) rfl (gc_ff (w_lss (pk_f ?_)))
    refine g_ff n6 (w_offP (g_ff n6 (w_rdP g6 (v := .int .i64 o.2.2.1) rfl (g_ff n6 (w_offP (g_ff n6 (w_rdP b6.row (v := .int .i64 m.g) rfl (g_ff n6 (w_gtr (pk_ff n6 (c_ff n7 ?_)))))))))))
    refine w_add (by omega) (by omega) ?_
    exact hI (mm - 1) _ _ (by omega) ⟨i + 1, by omega, by omega, e0, e3, rfl, ((hx.trans x4).trans x5).trans x6⟩
  clear hI
  refine loopE_intro (fun mm e h' => ∃ i : Nat, i ≤ m.inners.length ∧ mm = m.inners.length - i ∧ e 0 = v0 ∧ e 3 = .pointer (some ⟨h.length, 0, none⟩) ∧ e 11 = .int .i64 i ∧ Ex h2 h') m.inners.length ⟨0, Nat.zero_le _, rfl, e0, e3, rfl, hx⟩ ?_
  clear b3 hx e0 e3 e9 hmm hi p1
  rintro I mm e h' ⟨i, hi, hmm, e0, eP, e11, hx⟩ hI
  rw [e0, eP, e11]
  have b3 := b2.ex hx
  refine w_offP (w_rdP b3.row (v := vn) rfl (w_len b3.n (w_lss (c_dec (fun p1 => ?_) (fun p1 => ?_)))))
  · obtain ⟨o, ho⟩ := getElem?_of_lt (l := m.inners) (i := i) (by omega)
    obtain ⟨k1, k2, k3⟩ := ok.inners o (List.mem_of_getElem? ho)
    refine w_offP (w_rdP b3.row (v := vn) rfl ?_)
    refine w_idxN (enc := e3) (fun _ => rfl) b3.n ho fun p hp => w_rdA hp rfl ?_
    refine copy3 fun h4' h4 x4 g4 => ?_
    have b4 := b3.ex x4
    refine b4.rd fun v77 mv77 => w_offP (w_rdP g4 (v := .int .i64 o.1) rfl ?_)
    refine state50 mv77 k1 fun h5 x5 => w_notb (gc_ff ?_)
    have b5 := b4.ex x5
    refine b5.rd fun v83 mv83 => gc_ff (w_offP (gc_ff (w_rdP (x5.some g4) (v := .int .i64 o.2.2) rfl (gc_ff ?_))))
    refine state50 mv83 k3 fun h6 x6 => gc_ff (w_notb (pk_f (gc_ff (gc_ff (w_offP (gc_ff ?_))))))
    refine w_rdP (x6.some (x5.some g4)) (v := .int .i64 o.2.1) rfl (gc_ff ?_)
    have hl6 := hl2.ex (((hx.trans x4).trans x5).trans x6)
    refine kind51 hl6 k2 (gc_ff (w_notb (pk_f (c_f ?_))))
    refine w_add (by omega) (by omega) ?_
    exact hI (mm - 1) _ _ (by omega) ⟨i + 1, by omega, by omega, e0, eP, rfl, ((hx.trans x4).trans x5).trans x6⟩
  exact k h' ((x1.trans x2).trans hx)
end Go.Proofs.Ytebbjimmgblcpaa.W
end

section
/- The document's inside of a machine of numbers: the walk. Conditions: none. -/
namespace Go.Proofs.Ytebbjimmgblcpaa.W
open Go Go.AM FeedM
set_option linter.unusedVariables false
set_option maxRecDepth 100000

/-- two numbers more -/
theorem app_two {b : Nat} {h : AH} {v : Value} {q : List Int} {x y : Int} {K : Value → AH → Prop} (hq : QS 1 b h v q.length (flat eI q)) (hn : q.length + 2 < room40) (hb : b ≤ h.length)
    (k : ∀ v' h', QS 1 b h' v' (q ++ [x, y]).length (flat eI (q ++ [x, y])) → (∀ j, j < b → h'[j]? = h[j]?) → h.length ≤ h'.length → K v' h') :
    newW (some h.length) (.row [.int .i64 x, .int .i64 y] true) (reserve 1 h) fun i h6 => appSl 1 v (.slice (some ⟨i, 0, none⟩) 2 2) h6 K := by
  refine n_res (n_new ?_)
  have xx : Ex h (h ++ [AObj.row [.int .i64 x, .int .i64 y] true]) := .app _ _
  refine appSl_of (app_q (m := 2) (news := [.int .i64 x, .int .i64 y]) (by decide) (hq.ex xx) (srcL_new (get_new _ _) (by decide) rfl) rfl hn (by simp; omega) fun v' h' q1 l1 k1 => ?_)
  refine k v' h' ?_ (fun j hj => ?_) (by simp at l1; omega)
  · rw [flat_append, List.length_append]
    exact q1
  · rw [k1 j (by simp; omega) (fun hh => by have := hq.low hh; omega)]
    exact xx.get j (by omega)

theorem inside52 {h : AH} {vm : Value} {m : Mach} {l : List Sy} {K : Value → AH → Prop} (mv : MV h vm m) (ok : MkOK l m 25) (k : ∀ h', Ex h h' → K (.bool true) h') : callW Try.prog 52 [vm] h K := by
  have r40 : (10000000 : Nat) < room40 := big40
  have hN := ok.n
  have hC := ok.cnt
  refine c52 ?_
  unfold s52
  refine boxM mv fun h1 vi vf vo vc vn x1 l1 b1 => ?_
  refine copyIF b1 (by omega) fun h2 vq x2 qs a1 a2 a3 a4 a5 a6 a7 => ?_
  have inq : ∀ p ∈ m.init ++ m.final, 0 ≤ p ∧ p < m.n := fun p hp => (List.mem_append.1 hp).elim (ok.init p) (ok.final p)
  have lq : (m.init ++ m.final).length ≤ 25 := by rw [List.length_append]; omega
  generalize m.init ++ m.final = q0 at *
  refine loopE_intro (fun mm e h' => ∃ (i : Nat) (q : List Int), i ≤ m.inners.length ∧ mm = m.inners.length - i ∧ e 1 = .pointer (some ⟨h.length, 0, none⟩) ∧ e 4 = .int .i64 i ∧ Ex h1 h' ∧ QS 1 h1.length h' (e 3) q.length (flat eI q) ∧ q.length ≤ 25 + 2 * i ∧ (∀ p ∈ q, 0 ≤ p ∧ p < m.n)) m.inners.length
    ⟨0, q0, Nat.zero_le _, rfl, rfl, rfl, x2, qs, by omega, inq⟩ ?_
  clear qs inq lq
  rintro I mm e h' ⟨i, q, hi, hmm, eP, eC, hx, qs, bq, hq⟩ hI
  rw [eP, eC]
  have b3 := b1.ex hx
  have hlx := hx.len
  refine w_offP (w_rdP b3.row (v := vn) rfl (w_len b3.n (w_lss (c_dec (fun p1 => ?_) (fun p1 => ?_)))))
  · obtain ⟨o, ho⟩ := getElem?_of_lt (l := m.inners) (i := i) (by omega)
    have kk := ok.inners o (List.mem_of_getElem? ho)
    have b4 := b3.ex (Ex.res h')
    refine w_offP (w_rdP b4.row (v := vn) rfl ?_)
    refine w_idxN (enc := e3) (fun _ => rfl) b4.n ho fun p hp => w_off hp (Nat.zero_le _) fun p hp => w_rd1 hp rfl ?_
    refine w_offP (w_rdP b4.row (v := vn) rfl ?_)
    refine w_idxN (enc := e3) (fun _ => rfl) b4.n ho fun p hp => w_off hp (by exact (by decide : 2 ≤ 3)) fun p hp => w_rd1 hp rfl ?_
    refine w_some (v := [.int .i64 o.1, .int .i64 o.2.2]) rfl ?_
    refine app_two qs (by omega) (by omega) fun v' h3 q3 k3 l3 => ?_
    refine w_add (by omega) (by omega) ?_
    exact hI (mm - 1) _ _ (by omega) ⟨i + 1, q ++ [o.1, o.2.2], by omega, by omega, eP, rfl, ⟨by omega, fun j hj => (k3 j hj).trans (hx.get j hj)⟩, q3, (by simp; omega), fun p hp => by
      rcases List.mem_append.1 hp with hp | hp
      · exact hq p hp
      · simp only [List.mem_cons, List.not_mem_nil, or_false] at hp
        rcases hp with rfl | rfl
        · exact kk.1
        · exact kk.2.2⟩
  clear hI
  refine loopE_intro (fun mm e h' => ∃ (i : Nat) (q : List Int), i ≤ m.opens.length ∧ mm = m.opens.length - i ∧ e 1 = .pointer (some ⟨h.length, 0, none⟩) ∧ e 5 = .int .i64 i ∧ Ex h1 h' ∧ QS 1 h1.length h' (e 3) q.length (flat eI q) ∧ q.length ≤ 75 + 2 * i ∧ (∀ p ∈ q, 0 ≤ p ∧ p < m.n)) m.opens.length
    ⟨0, q, Nat.zero_le _, rfl, eP, rfl, hx, qs, by omega, hq⟩ ?_
  clear hx hmm hi p1 hlx eC b3 qs hq bq eP
  clear q e
  rintro I mm e h' ⟨i, q, hi, hmm, eP, eC, hx, qs, bq, hq⟩ hI
  rw [eP, eC]
  have b3 := b1.ex hx
  have hlx := hx.len
  refine w_offP (w_rdP b3.row (v := vo) rfl (w_len b3.o (w_lss (c_dec (fun p1 => ?_) (fun p1 => ?_)))))
  · obtain ⟨o, ho⟩ := getElem?_of_lt (l := m.opens) (i := i) (by omega)
    have kk := ok.opens o (List.mem_of_getElem? ho)
    have b4 := b3.ex (Ex.res h')
    refine w_offP (w_rdP b4.row (v := vo) rfl ?_)
    refine w_idxN (enc := e4) (fun _ => rfl) b4.o ho fun p hp => w_off hp (Nat.zero_le _) fun p hp => w_rd1 hp rfl ?_
    refine w_offP (w_rdP b4.row (v := vo) rfl ?_)
    refine w_idxN (enc := e4) (fun _ => rfl) b4.o ho fun p hp => w_off hp (by exact (by decide : 2 ≤ 4)) fun p hp => w_rd1 hp rfl ?_
    refine w_some (v := [.int .i64 o.1, .int .i64 o.2.2.1]) rfl ?_
    refine app_two qs (by omega) (by omega) fun v' h3 q3 k3 l3 => ?_
    refine w_add (by omega) (by omega) ?_
    exact hI (mm - 1) _ _ (by omega) ⟨i + 1, q ++ [o.1, o.2.2.1], by omega, by omega, eP, rfl, ⟨by omega, fun j hj => (k3 j hj).trans (hx.get j hj)⟩, q3, (by simp; omega), fun p hp => by
      rcases List.mem_append.1 hp with hp | hp
      · exact hq p hp
      · simp only [List.mem_cons, List.not_mem_nil, or_false] at hp
        rcases hp with rfl | rfl
        · exact kk.1
        · exact kk.2.2.1⟩
  clear hI
  refine loopE_intro (fun mm e h' => ∃ (i : Nat) (q : List Int), i ≤ m.closes.length ∧ mm = m.closes.length - i ∧ e 1 = .pointer (some ⟨h.length, 0, none⟩) ∧ e 6 = .int .i64 i ∧ Ex h1 h' ∧ QS 1 h1.length h' (e 3) q.length (flat eI q) ∧ q.length ≤ 125 + 2 * i ∧ (∀ p ∈ q, 0 ≤ p ∧ p < m.n)) m.closes.length
    ⟨0, q, Nat.zero_le _, rfl, eP, rfl, hx, qs, by omega, hq⟩ ?_
  clear hx hmm hi p1 hlx eC b3 qs hq bq eP
  clear q e
  rintro I mm e h' ⟨i, q, hi, hmm, eP, eC, hx, qs, bq, hq⟩ hI
  rw [eP, eC]
  have b3 := b1.ex hx
  have hlx := hx.len
  refine w_offP (w_rdP b3.row (v := vc) rfl (w_len b3.c (w_lss (c_dec (fun p1 => ?_) (fun p1 => ?_)))))
  · obtain ⟨o, ho⟩ := getElem?_of_lt (l := m.closes) (i := i) (by omega)
    have kk := ok.closes o (List.mem_of_getElem? ho)
    have b4 := b3.ex (Ex.res h')
    refine w_offP (w_rdP b4.row (v := vc) rfl ?_)
    refine w_idxN (enc := e4) (fun _ => rfl) b4.c ho fun p hp => w_off hp (Nat.zero_le _) fun p hp => w_rd1 hp rfl ?_
    refine w_offP (w_rdP b4.row (v := vc) rfl ?_)
    refine w_idxN (enc := e4) (fun _ => rfl) b4.c ho fun p hp => w_off hp (by exact (by decide : 3 ≤ 4)) fun p hp => w_rd1 hp rfl ?_
    refine w_some (v := [.int .i64 o.1, .int .i64 o.2.2.2]) rfl ?_
    refine app_two qs (by omega) (by omega) fun v' h3 q3 k3 l3 => ?_
    refine w_add (by omega) (by omega) ?_
    exact hI (mm - 1) _ _ (by omega) ⟨i + 1, q ++ [o.1, o.2.2.2], by omega, by omega, eP, rfl, ⟨by omega, fun j hj => (k3 j hj).trans (hx.get j hj)⟩, q3, (by simp; omega), fun p hp => by
      rcases List.mem_append.1 hp with hp | hp
      · exact hq p hp
      · simp only [List.mem_cons, List.not_mem_nil, or_false] at hp
        rcases hp with rfl | rfl
        · exact kk.1
        · exact kk.2.2.1⟩
  clear hI
  refine loopE_intro (fun mm e h' => ∃ i : Nat, i ≤ q.length ∧ mm = q.length - i ∧ e 1 = .pointer (some ⟨h.length, 0, none⟩) ∧ QS 1 h1.length h' (e 3) q.length (flat eI q) ∧ e 7 = .int .i64 i ∧ Ex h1 h') q.length ⟨0, Nat.zero_le _, rfl, eP, qs, rfl, hx⟩ ?_
  have bq' : q.length ≤ 1000 := by omega
  clear hx eP qs hmm hi p1 b3
  rintro I mm e h' ⟨i, hi, hmm, eP, qs, e7, hx⟩ hI
  rw [eP, e7]
  have sq : Ints h' (e 3) q := qs.sl
  have b3 := b1.ex hx
  refine w_len sq (w_lss (c_dec (fun p1 => ?_) (fun p1 => ?_)))
  · obtain ⟨z, hz⟩ := getElem?_of_lt (l := q) (i := i) (by omega)
    have hzz := hq z (List.mem_of_getElem? hz)
    have n1 : ¬ z < 0 := by omega
    have n2 : ¬ m.n ≤ z := by omega
    refine w_idxN eI_len sq hz fun p hp => w_rd1 hp rfl (w_lss ?_)
    refine gd_ff n1 (gd_ff n1 (gd_ff n1 ?_))
    refine w_idxN eI_len sq hz fun p' hp' => ?_
    refine gd_ff n1 (hist_all ?_ fun t ht => by cases ht)
    refine w_rd1 hp' rfl (gd_ff n1 (w_offP ?_))
    refine gd_ff n1 (hist_all ?_ fun t ht => by cases ht)
    refine w_rdP b3.row (v := .int .i64 m.n) rfl (gd_ff n1 (w_geq (pk_ff n1 (c_ff n2 ?_))))
    refine w_add (by omega) (by omega) ?_
    exact hI (mm - 1) _ _ (by omega) ⟨i + 1, by omega, by omega, eP, qs, rfl, hx⟩
  · exact k h' (x1.trans hx)
end Go.Proofs.Ytebbjimmgblcpaa.W
end

section
/- Rows of truths, by pairs of states. Conditions: none. -/
namespace Go.Proofs.Ytebbjimmgblcpaa.W
open Go Go.AM FeedM
set_option linter.unusedVariables false
set_option maxRecDepth 100000

abbrev N3 (n : Int) : Prop := 1 ≤ n ∧ n ≤ 3
theorem n3 {n : Int} (h : N3 n) : n = 1 ∨ n = 2 ∨ n = 3 := by have := h.1; have := h.2; omega
theorem pq_in {n p q : Int} (h : N3 n) (hp : 0 ≤ p ∧ p < n) (hq : 0 ≤ q ∧ q < n) : 0 ≤ p * n + q ∧ p * n + q < n * n := by
  rcases n3 h with rfl | rfl | rfl <;> omega
theorem pq_inj {n p q p' q' : Int} (h : N3 n) (hp : 0 ≤ p ∧ p < n) (hq : 0 ≤ q ∧ q < n) (hp' : 0 ≤ p' ∧ p' < n) (hq' : 0 ≤ q' ∧ q' < n) (he : (p * n + q).toNat = (p' * n + q').toNat) : p = p' ∧ q = q' := by
  rcases n3 h with rfl | rfl | rfl <;> omega
theorem nn_b {n : Int} (h : N3 n) : 1 ≤ n * n ∧ n * n ≤ 9 := by rcases n3 h with rfl | rfl | rfl <;> omega
theorem pn_b {n p : Int} (h : N3 n) (hp : 0 ≤ p ∧ p < n) : 0 ≤ p * n ∧ p * n ≤ 9 := by rcases n3 h with rfl | rfl | rfl <;> omega

def slB (i : Nat) (n : Int) : Value := .slice (some ⟨i, 0, none⟩) (n * n).toNat (n * n).toNat
/-- a row of truths tells a set of pairs. -/
def RowAt (h : AH) (i : Nat) (n : Int) (D : Row) : Prop := ∃ bl : List Bool, h[i]? = some (.row (flat eBo bl) true) ∧ bl.length = (n * n).toNat ∧ ∀ p q : Int, (0 ≤ p ∧ p < n) → (0 ≤ q ∧ q < n) → (bl[(p * n + q).toNat]? = some true ↔ D (p, q))

theorem RowAt.keep {h h' : AH} {i : Nat} {n : Int} {D : Row} (r : RowAt h i n D) (hh : h'[i]? = h[i]?) : RowAt h' i n D := by
  obtain ⟨bl, h1, h2⟩ := r
  exact ⟨bl, hh.trans h1, h2⟩
theorem RowAt.ex {h h' : AH} {i : Nat} {n : Int} {D : Row} (r : RowAt h i n D) (x : Ex h h') : RowAt h' i n D := by
  obtain ⟨bl, h1, h2⟩ := r
  exact ⟨bl, x.some h1, h2⟩
theorem RowAt.lt {h : AH} {i : Nat} {n : Int} {D : Row} (r : RowAt h i n D) : i < h.length := by
  obtain ⟨bl, h1, h2⟩ := r
  exact lt_of_get h1
theorem RowAt.imp {h : AH} {i : Nat} {n : Int} {D D' : Row} (r : RowAt h i n D) (hd : ∀ p q : Int, (0 ≤ p ∧ p < n) → (0 ≤ q ∧ q < n) → (D (p, q) ↔ D' (p, q))) : RowAt h i n D' := by
  obtain ⟨bl, h1, h2, h3⟩ := r
  exact ⟨bl, h1, h2, fun p q hp hq => (h3 p q hp hq).trans (hd p q hp hq)⟩

theorem RowAt.get {h : AH} {i : Nat} {n : Int} {D : Row} (hN : N3 n) (r : RowAt h i n D) {p q : Int} (hp : 0 ≤ p ∧ p < n) (hq : 0 ≤ q ∧ q < n) :
    ∃ bl b, SlT 1 eBo h (slB i n) bl ∧ bl[(p * n + q).toNat]? = some b ∧ (b = true ↔ D (p, q)) := by
  obtain ⟨bl, h1, h2, h3⟩ := r
  have hin := pq_in hN hp hq
  have nb := nn_b hN
  obtain ⟨b, hb⟩ := getElem?_of_lt (l := bl) (i := (p * n + q).toNat) (by omega)
  refine ⟨bl, b, ⟨flat_length eBo_len bl, .inr ⟨i, 0, (n * n).toNat, by unfold slB; rw [h2], .inl ⟨?_, by omega⟩, .inr ⟨_, true, h1, ?_, ?_⟩⟩⟩, hb, ?_⟩
  · have : (100 : Nat) < openCap := by decide
    omega
  · rw [flat_length eBo_len]; omega
  · rw [List.drop_zero, ← flat_length eBo_len bl, List.take_length]
  · rw [← h3 p q hp hq, hb]
    constructor
    · rintro rfl; rfl
    · intro h; exact Option.some.inj h

/-- all but one object stay. -/
structure Exx (i : Nat) (a b : AH) : Prop where
  len : a.length ≤ b.length
  get : ∀ j, j < a.length → j ≠ i → b[j]? = a[j]?
theorem Exx.refl (i : Nat) (a : AH) : Exx i a a := ⟨Nat.le_refl _, fun _ _ _ => rfl⟩
theorem Exx.ex {i : Nat} {a b c : AH} (x : Exx i a b) (y : Ex b c) : Exx i a c := ⟨Nat.le_trans x.len y.len, fun j hj hi => (y.get j (Nat.lt_of_lt_of_le hj x.len)).trans (x.get j hj hi)⟩
theorem Exx.trans {i : Nat} {a b c : AH} (x : Exx i a b) (y : Exx i b c) : Exx i a c := ⟨Nat.le_trans x.len y.len, fun j hj hi => (y.get j (Nat.lt_of_lt_of_le hj x.len) hi).trans (x.get j hj hi)⟩
theorem Exx.base {i : Nat} {h a b : AH} (x : Ex h a) (y : Exx i a b) (hi : h.length ≤ i) : Ex h b := ⟨Nat.le_trans x.len y.len, fun j hj => (y.get j (Nat.lt_of_lt_of_le hj x.len) (by omega)).trans (x.get j hj)⟩
theorem Exx.some {i : Nat} {a b : AH} (x : Exx i a b) {j : Nat} {o : AObj} (h : a[j]? = some o) (hj : j ≠ i) : b[j]? = some o := (x.get j (lt_of_get h) hj).trans h

theorem w_idxP {i : Nat} {n : Int} {kd : IntKind} {k : Int} {K : Value → Prop} (h0 : 0 ≤ k) (h1 : k < n * n) (hk : K (.pointer (some ⟨i, k.toNat, none⟩))) : optW (pIdxS 1 (slB i n) (.int kd k)) K := by
  refine w_some (v := .pointer (some ⟨i, 0 + k.toNat * 1, none⟩)) ?_ ?_
  · unfold pIdxS slB
    dsimp only
    rw [if_pos ⟨h0, by omega⟩]
  · have : 0 + k.toNat * 1 = k.toNat := by omega
    rw [this]
    exact hk

theorem flat_set (bl : List Bool) (k : Nat) : (flat eBo bl).set k (.bool true) = flat eBo (bl.set k true) := by
  induction bl generalizing k with
  | nil => cases k <;> rfl
  | cons b bl ih =>
    cases k with
    | zero => rfl
    | succ k => exact congrArg (Value.bool b :: ·) (ih k)

theorem RowAt.put {h : AH} {i : Nat} {n : Int} {D : Row} {K : AH → Prop} (hN : N3 n) (r : RowAt h i n D) {p q : Int} (hp : 0 ≤ p ∧ p < n) (hq : 0 ≤ q ∧ q < n)
    (k : ∀ h', Exx i h h' → h'.length = h.length → RowAt h' i n (fun x => D x ∨ x = (p, q)) → K h') : optW (pStore 1 (.pointer (some ⟨i, (p * n + q).toNat, none⟩)) (.bool true) h) K := by
  obtain ⟨bl, h1, h2, h3⟩ := r
  have hin := pq_in hN hp hq
  have hl := lt_of_get h1
  refine w_stP h1 (by rw [flat_length eBo_len]; omega) rfl rfl ?_
  refine k _ ⟨by simp, fun j hj hji => get_ne (Ne.symm hji) _⟩ (by simp) ⟨bl.set (p * n + q).toNat true, by rw [get_set _ hl, flat_set], by simpa using h2, fun p' q' hp' hq' => ?_⟩
  by_cases e : (p * n + q).toNat = (p' * n + q').toNat
  · obtain ⟨rfl, rfl⟩ := pq_inj hN hp hq hp' hq' e
    rw [List.getElem?_set_self (by omega)]
    exact ⟨fun _ => .inr rfl, fun _ => rfl⟩
  · rw [List.getElem?_set_ne e, h3 p' q' hp' hq']
    constructor
    · exact .inl
    · rintro (h | h)
      · exact h
      · have e1 : p' = p := congrArg Prod.fst h
        have e2 : q' = q := congrArg Prod.snd h
        subst e1 e2
        exact (e rfl).elim

theorem repL_false (k : Nat) : repL [.bool false] k = flat eBo (List.replicate k false) := by
  induction k with
  | zero => rfl
  | succ k ih =>
    show [.bool false] ++ repL [.bool false] k = _
    rw [ih]
    rfl

theorem w_mkB {n : Int} {K : Nat × Nat × List Value → Prop} (hN : N3 n) (k : K ((n * n).toNat, (n * n).toNat, flat eBo (List.replicate (n * n).toNat false))) : optW (mkSl 1 1 [(.bool false)] (.int .i64 (n * n)) (.int .i64 (n * n))) K := by
  have nb := nn_b hN
  have hr : (1000000 : Nat) < room40 := by decide
  refine w_some (v := ((n * n).toNat, (n * n).toNat, repL [.bool false] (n * n).toNat)) ?_ (by rw [repL_false]; exact k)
  unfold mkSl
  dsimp only
  rw [if_pos ⟨by omega, by omega, by omega, by decide, rfl⟩]

theorem RowAt.zero {h : AH} {i : Nat} {n : Int} (h1 : h[i]? = some (.row (flat eBo (List.replicate (n * n).toNat false)) true)) : RowAt h i n (fun _ => False) :=
  ⟨_, h1, by simp, fun p q hp hq => by
    constructor
    · intro h
      rw [List.getElem?_replicate] at h
      split at h
      · cases h
      · cases h
    · exact False.elim⟩
end Go.Proofs.Ytebbjimmgblcpaa.W
end

section
/- The document's back: the walk. Conditions: none. -/
namespace Go.Proofs.Ytebbjimmgblcpaa.W
open Go Go.AM FeedM
set_option linter.unusedVariables false
set_option maxRecDepth 100000

theorem ex_take {α : Type} {l : List α} {i : Nat} {x : α} (h : l[i]? = some x) {P : α → Prop} : (∃ y ∈ l.take (i + 1), P y) ↔ (∃ y ∈ l.take i, P y) ∨ P x := by
  rw [take_succ_get h]
  constructor
  · rintro ⟨y, hy, hp⟩
    rcases List.mem_append.1 hy with hy | hy
    · exact .inl ⟨y, hy, hp⟩
    · rw [List.mem_singleton.1 hy] at hp; exact .inr hp
  · rintro (⟨y, hy, hp⟩ | hp)
    · exact ⟨y, List.mem_append.2 (.inl hy), hp⟩
    · exact ⟨x, by simp, hp⟩
theorem ex_lt {P : Int → Prop} {k : Int} (h : 0 ≤ k) : (∃ p, (0 ≤ p ∧ p < k + 1) ∧ P p) ↔ (∃ p, (0 ≤ p ∧ p < k) ∧ P p) ∨ P k := by
  constructor
  · rintro ⟨p, hp, hP⟩
    by_cases e : p = k
    · exact .inr (e ▸ hP)
    · exact .inl ⟨p, ⟨hp.1, by omega⟩, hP⟩
  · rintro (⟨p, hp, hP⟩ | hP)
    · exact ⟨p, ⟨hp.1, by omega⟩, hP⟩
    · exact ⟨k, ⟨h, by omega⟩, hP⟩

def lvC (i : Nat) (n b : Int) : List Value := [slB i n, .int .i64 b]

theorem mkLv {h : AH} {p : Nat} {n b : Int} {x : Value} {K : (Nat × Nat × List Value) → Nat → Value → Value → Value → Value → AH → Prop} (hN : N3 n) (hp : h[p]? = some (.row [x, .int .i64 b] true))
    (k : ∀ h23, Ex h h23 → h23.length = h.length + 2 → RowAt h23 h.length n (fun _ => False) → h23[h.length + 1]? = some (.row (lvC h.length n b) true) → ∀ c i a1 a2 a3, K c i a1 a2 a3 (.pointer (some ⟨h.length + 1, 0, none⟩)) h23) :
    optW (mkSl 1 1 [(.bool false)] (.int .i64 (n * n)) (.int .i64 (n * n))) fun c_1 =>
    newW (some (h.length)) (.row c_1.2.2 true) (reserve 2 h) fun i_1 h_21 =>
    optW (pOff 1 (.pointer (some ⟨p, 0, none⟩))) fun v89 =>
    (∀ x ∈ (idOf v89), ((reserve 2 h) : AH)[x]? = (h_21 : AH)[x]?) ∧
    optW (rdRow false 1 v89 h_21) fun v90 =>
    optW (bld [(.slice none 0 0), (.int .i64 0)] [(0, 1), (1, 1)] [(0, (.slice (some ⟨i_1, 0, none⟩) c_1.1 c_1.2.1)), (1, v90)]) fun v91 =>
    newR (some (h.length + 1)) [(.slice none 0 0), (.int .i64 0)] h_21 fun v12 h_22 =>
    optW (pStore 2 v12 v91 h_22) fun h_23 => K c_1 i_1 v89 v90 v91 v12 h_23 := by
  have hlt := lt_of_get hp
  refine w_mkB hN ?_
  refine n_slot ?_
  have er : reserve 2 h = (h ++ [.dead]) ++ [.dead] := rfl
  have x0 : Ex h (reserve 2 h) := by rw [er]; exact (Ex.app _ _).trans (.app _ _)
  have l0 : (reserve 2 h).length = h.length + 2 := by rw [er]; simp
  generalize reserve 2 h = h0 at *
  have x1 : Ex h (h0.set h.length (.row (flat eBo (List.replicate (n * n).toNat false)) true)) := x0.set (Nat.le_refl _) _
  refine w_offP ⟨idrow (x0.some hp) (x1.some hp), ?_⟩
  refine w_rdP (x1.some hp) (v := .int .i64 b) rfl ?_
  refine w_some (v := .agg (lvC h.length n b).toArray) rfl ?_
  have x2 := x1.set (Nat.le_succ _) (i := h.length + 1) (.row [(.slice none 0 0), (.int .i64 0)] true)
  refine w_stPA (c := [(.slice none 0 0), (.int .i64 0)]) (get_set _ (by simp [l0]) _) rfl (Nat.le_refl 2) rfl ?_
  have hs : ∀ (o o' : AObj), ((((h0.set h.length (.row (flat eBo (List.replicate (n * n).toNat false)) true)).set (h.length + 1) o).set (h.length + 1) o')[h.length]? = some (.row (flat eBo (List.replicate (n * n).toNat false)) true)) := fun o o' => by
    rw [get_ne (by omega), get_ne (by omega), get_set _ (by omega)]
  refine k _ (x2.set (Nat.le_succ _) _) (by simp [l0]) (RowAt.zero (hs _ _)) (get_set _ (by simp [l0]) _) _ _ _ _ _
end Go.Proofs.Ytebbjimmgblcpaa.W
end

section
/- The document's back: the walk. Conditions: none. -/
namespace Go.Proofs.Ytebbjimmgblcpaa.W
open Go Go.AM FeedM
set_option linter.unusedVariables false
set_option maxRecDepth 100000

theorem res53 (e : Env) (h : AH) : resList Try.prog e h Try.f53.results.toList = (rdRow true 2 (e 8) h).map fun v => [v] := by
  have h1 : Try.f53.results.toList = [.cell 8 106] := by kernel_rfl
  have h2 : ∀ x, pLoad Try.prog 106 x h = rdRow true 2 x h := fun x => by kernel_rfl
  rw [h1]
  show (match pLoad Try.prog 106 (e 8) h with
    | some v => match resList Try.prog e h [] with
      | some vs => some (v :: vs)
      | none => none
    | none => none) = _
  rw [h2]
  cases rdRow true 2 (e 8) h <;> rfl

/-- what one rule that closes brings back, of those so far. -/
def BkC (n : Int) (Rb R : Row) (sym : Int) (o c : Int × Int × Int × Int) (q : Int × Int) : Prop := (c.2.1 = sym ∧ c.2.2.1 = o.2.2.2 ∧ R (o.2.2.1, c.1)) ∧ ∃ p, (0 ≤ p ∧ p < n) ∧ Rb (p, o.1) ∧ q = (p, c.2.2.2)
def BkO (m : Mach) (Rb R : Row) (bys sym : Int) (o : Int × Int × Int × Int) (q : Int × Int) : Prop := o.2.1 = bys ∧ ∃ c ∈ m.closes, BkC m.n Rb R sym o c q

theorem back53 {h : AH} {vm : Value} {m : Mach} {l : List Sy} {ib i0 : Nat} {bb bys sym : Int} {Rb R : Row} {K : Value → AH → Prop} (mv : MV h vm m) (ok : MkOK l m 25) (rb : RowAt h ib m.n Rb) (rn : RowAt h i0 m.n R)
    (k : ∀ h' ir, Ex h h' → h.length ≤ ir → RowAt h' ir m.n (closeRow m Rb R bys sym) → K (.agg (lvC ir m.n bb).toArray) h') :
    callW Try.prog 53 [vm, .agg (lvC ib m.n bb).toArray, .agg (lvC i0 m.n bys).toArray, .int .i64 sym] h K := by
  have r40 : (10000000 : Nat) < room40 := big40
  have hN : N3 m.n := ok.n
  have hC := ok.cnt
  have nb := nn_b hN
  refine c53 ?_
  unfold s53
  refine boxM mv fun h1 vi vf vo vc vn x1 l1 b1 => ?_
  refine n_boxv rfl fun h2 x2 l2 g2 => ?_
  refine n_boxv rfl fun h3 x3 l3 g3 => ?_
  refine n_rowv (c := [(.slice none 0 0), (.int .i64 0)]) fun h4 x4 l4 g4 => ?_
  have b4 := ((b1.ex x2).ex x3).ex x4
  have g2 : h4[h1.length]? = some (.row (lvC ib m.n bb) true) := x4.some (x3.some g2)
  have g3 : h4[h2.length]? = some (.row (lvC i0 m.n bys) true) := x4.some g3
  have x04 := ((x1.trans x2).trans x3).trans x4
  have rb := rb.ex x04
  have rn := rn.ex x04
  refine w_offP (w_rdP b4.row (v := .int .i64 m.n) rfl (w_mul (by omega) (by omega) ?_))
  refine mkLv hN g2 fun h7 x7 l7 r7 g7 c i a1 a2 a3 => ?_
  have hl4 : h3.length < h4.length := by omega
  refine loopE_intro (fun mm e h' => ∃ i : Nat, i ≤ m.opens.length ∧ mm = m.opens.length - i ∧ e 3 = .int .i64 sym ∧ e 4 = .pointer (some ⟨h.length, 0, none⟩) ∧ e 5 = .pointer (some ⟨h1.length, 0, none⟩) ∧ e 6 = .pointer (some ⟨h2.length, 0, none⟩) ∧ e 8 = .pointer (some ⟨h3.length, 0, none⟩) ∧ e 9 = .int .i64 m.n ∧
    e 10 = .pointer (some ⟨h4.length + 1, 0, none⟩) ∧ e 11 = .int .i64 i ∧ Exx h4.length h7 h' ∧ RowAt h' h4.length m.n (fun q => ∃ o ∈ m.opens.take i, BkO m Rb R bys sym o q)) m.opens.length
    ⟨0, Nat.zero_le _, rfl, rfl, rfl, rfl, rfl, rfl, rfl, rfl, rfl, Exx.refl _ _, r7.imp fun p q _ _ => ⟨False.elim, fun ⟨o, ho, _⟩ => by cases ho⟩⟩ ?_
  rintro I mm e h' ⟨i, hi, hmm, e3', e4', e5, e6, e8, e9, e10, e11, hx, ra⟩ hI
  rw [e4', e6, e8, e10, e11]
  have X : ∀ {h'' : AH}, Exx h4.length h7 h'' → Ex h4 h'' := fun hx => Exx.base x7 hx (Nat.le_refl _)
  have b5 := b4.ex (X hx)
  refine w_offP (w_rdP b5.row (v := vo) rfl (w_len b5.o (w_lss (c_dec (fun p1 => ?_) (fun p1 => ?_)))))
  · obtain ⟨o, ho⟩ := getElem?_of_lt (l := m.opens) (i := i) (by omega)
    obtain ⟨k1, k2, k3, k4, k5⟩ := ok.opens o (List.mem_of_getElem? ho)
    refine w_offP (w_rdP b5.row (v := vo) rfl ?_)
    refine w_idxN (enc := e4) (fun _ => rfl) b5.o ho fun p hp => w_rdA hp rfl ?_
    refine copy4 fun h6' h6 x6 g6 => ?_
    have hx6 := hx.ex x6
    have ra6 := ra.ex x6
    have op : h'.length ≠ h4.length := by have := hx.len; omega
    have g3' := (X hx6).some g3
    refine w_offP (w_rdP g6 (v := .int .i64 o.2.1) rfl (w_offP (w_rdP g3' (v := .int .i64 bys) rfl (w_neq ?_))))
    refine c_dec (fun p2 => ?_) (fun p2 => ?_)
    · refine w_add (by omega) (by omega) ?_
      refine hI (mm - 1) _ _ (by omega) ⟨i + 1, by omega, by omega, e3', e4', e5, e6, e8, e9, e10, rfl, hx6, ra6.imp fun p q _ _ => ?_⟩
      rw [ex_take ho]
      exact ⟨.inl, fun h => h.elim id fun h => (p2 h.1).elim⟩
    have p2 : o.2.1 = bys := Classical.byContradiction p2
    generalize hpo : h'.length = po at *
    refine loopE_intro (fun mm2 e h9 => ∃ j : Nat, j ≤ m.closes.length ∧ mm2 = m.closes.length - j ∧ e 3 = .int .i64 sym ∧ e 4 = .pointer (some ⟨h.length, 0, none⟩) ∧ e 5 = .pointer (some ⟨h1.length, 0, none⟩) ∧ e 6 = .pointer (some ⟨h2.length, 0, none⟩) ∧ e 8 = .pointer (some ⟨h3.length, 0, none⟩) ∧ e 9 = .int .i64 m.n ∧
      e 10 = .pointer (some ⟨h4.length + 1, 0, none⟩) ∧ e 11 = .int .i64 i ∧ e 12 = .pointer (some ⟨po, 0, none⟩) ∧ e 13 = .int .i64 j ∧ Exx h4.length h7 h9 ∧ h9[po]? = some (.row (e4 o) true) ∧
      RowAt h9 h4.length m.n (fun q => (∃ o ∈ m.opens.take i, BkO m Rb R bys sym o q) ∨ ∃ c ∈ m.closes.take j, BkC m.n Rb R sym o c q)) m.closes.length
      ⟨0, Nat.zero_le _, rfl, e3', e4', e5, e6, e8, e9, e10, e11, rfl, rfl, hx6, g6, ra6.imp fun p q _ _ => ⟨.inl, fun h => h.elim id fun ⟨o, ho, _⟩ => by cases ho⟩⟩ ?_
    clear e3' e4' e5 e6 e8 e9 e10 e11 ra6 hx6 g6 x6 g3'
    rintro I2 mm2 E h9 ⟨j, hj, hmm2, e3', e4', e5, e6, e8, e9, e10, e11, e12, e13, hx9, g9, rc⟩ hI2
    rw [e3', e4', e6, e9, e11, e12, e13]
    have b9 := b4.ex (X hx9)
    refine w_offP (w_rdP b9.row (v := vc) rfl (w_len b9.c (w_lss (c_dec (fun p3 => ?_) (fun p3 => ?_)))))
    · obtain ⟨c, hc⟩ := getElem?_of_lt (l := m.closes) (i := j) (by omega)
      obtain ⟨q1, q2, q3, q4, q5⟩ := ok.closes c (List.mem_of_getElem? hc)
      refine w_offP (w_rdP b9.row (v := vc) rfl ?_)
      refine w_idxN (enc := e4) (fun _ => rfl) b9.c hc fun p hp => w_rdA hp rfl ?_
      refine copy4 fun hA' hA xA gA => ?_
      have hxA := hx9.ex xA
      have rcA := rc.ex xA
      have gO := xA.some g9
      have pc : h9.length ≠ h4.length := by have := hx9.len; omega
      generalize hpc : h9.length = pcl at *
      have next : ∀ (e' : Env) (hZ : AH), e' 3 = .int .i64 sym → e' 4 = .pointer (some ⟨h.length, 0, none⟩) → e' 5 = .pointer (some ⟨h1.length, 0, none⟩) → e' 6 = .pointer (some ⟨h2.length, 0, none⟩) → e' 8 = .pointer (some ⟨h3.length, 0, none⟩) → e' 9 = .int .i64 m.n → e' 10 = .pointer (some ⟨h4.length + 1, 0, none⟩) → e' 11 = .int .i64 i → e' 12 = .pointer (some ⟨po, 0, none⟩) → e' 13 = .int .i64 ((j : Int) + 1) → Exx h4.length h7 hZ → hZ[po]? = some (.row (e4 o) true) →
          RowAt hZ h4.length m.n (fun q => ((∃ o ∈ m.opens.take i, BkO m Rb R bys sym o q) ∨ ∃ c ∈ m.closes.take j, BkC m.n Rb R sym o c q) ∨ BkC m.n Rb R sym o c q) → I2 e' hZ :=
        fun e' hZ f3 f4 f5 f6 f8 f9 f10 f11 f12 f13 y1 y2 y3 => hI2 (mm2 - 1) _ _ (by omega) ⟨j + 1, by omega, by omega, f3, f4, f5, f6, f8, f9, f10, f11, f12, f13, y1, y2, y3.imp fun p q _ _ => by
          rw [ex_take hc]
          exact or_assoc⟩
      have skip : ¬ (c.2.1 = sym ∧ c.2.2.1 = o.2.2.2 ∧ R (o.2.2.1, c.1)) → RowAt hA h4.length m.n (fun q => ((∃ o ∈ m.opens.take i, BkO m Rb R bys sym o q) ∨ ∃ c ∈ m.closes.take j, BkC m.n Rb R sym o c q) ∨ BkC m.n Rb R sym o c q) :=
        fun hno => rcA.imp fun p q _ _ => ⟨.inl, fun h => h.elim id fun h => (hno h.1).elim⟩
      refine w_offP (w_rdP gA (v := .int .i64 c.2.1) rfl (w_neq ?_))
      by_cases s1 : c.2.1 = sym
      · have s1' : ¬ ¬ c.2.1 = sym := fun h => h s1
        refine g_ff s1' (w_offP (g_ff s1' (w_rdP gA (v := .int .i64 c.2.2.1) rfl ?_)))
        refine g_ff s1' (w_offP (g_ff s1' (w_rdP gO (v := .int .i64 o.2.2.2) rfl (g_ff s1' (w_neq (pk_ff s1' ?_))))))
        by_cases s2 : c.2.2.1 = o.2.2.2
        · have s2' : ¬ ¬ c.2.2.1 = o.2.2.2 := fun h => h s2
          have g3A := (X hxA).some g3
          refine g_ff s2' (w_offP (g_ff s2' (w_rdP g3A (v := slB i0 m.n) rfl ?_)))
          refine g_ff s2' (w_offP (g_ff s2' (w_rdP gO (v := .int .i64 o.2.2.1) rfl (g_ff s2' ?_))))
          have pb := pn_b hN k3
          have pi := pq_in hN k3 q1
          refine g_ff s2' (w_mul (by omega) (by omega) ?_)
          refine g_ff s2' (w_offP (g_ff s2' (w_rdP gA (v := .int .i64 c.1) rfl (g_ff s2' (w_add (by omega) (by omega) ?_)))))
          obtain ⟨bl, bo, sb, hb, hbR⟩ := (rn.ex (X hxA)).get hN k3 q1
          refine g_ff s2' (w_idxT (enc := eBo) eBo_len sb pi.1 hb fun pp hpp => g_ff s2' (w_rd1 hpp rfl (g_ff s2' (w_notb (pk_ff s2' ?_)))))
          cases hbo : bo with
          | false =>
            refine c_t ?_
            refine w_add (by omega) (by omega) ?_
            exact next _ _ e3' e4' e5 e6 e8 e9 e10 e11 e12 rfl hxA gO (skip fun h => by rw [← hbR, hbo] at h; cases h.2.2)
          | true =>
            refine c_f ?_
            have s3 : R (o.2.2.1, c.1) := hbR.1 hbo
            refine loopE_intro (fun mm3 e hP => ∃ p : Int, 0 ≤ p ∧ p ≤ m.n ∧ mm3 = (m.n - p).toNat ∧ e 3 = .int .i64 sym ∧ e 4 = .pointer (some ⟨h.length, 0, none⟩) ∧ e 5 = .pointer (some ⟨h1.length, 0, none⟩) ∧ e 6 = .pointer (some ⟨h2.length, 0, none⟩) ∧ e 8 = .pointer (some ⟨h3.length, 0, none⟩) ∧ e 9 = .int .i64 m.n ∧
              e 10 = .pointer (some ⟨h4.length + 1, 0, none⟩) ∧ e 11 = .int .i64 i ∧ e 12 = .pointer (some ⟨po, 0, none⟩) ∧ e 13 = .int .i64 j ∧ e 14 = .pointer (some ⟨pcl, 0, none⟩) ∧ e 15 = .int .i64 p ∧ Exx h4.length h7 hP ∧ hP[po]? = some (.row (e4 o) true) ∧ hP[pcl]? = some (.row (e4 c) true) ∧
              RowAt hP h4.length m.n (fun q => ((∃ o ∈ m.opens.take i, BkO m Rb R bys sym o q) ∨ ∃ c ∈ m.closes.take j, BkC m.n Rb R sym o c q) ∨ ∃ p', (0 ≤ p' ∧ p' < p) ∧ Rb (p', o.1) ∧ q = (p', c.2.2.2))) (m.n - 0).toNat
              ⟨0, Int.le_refl _, (by have := hN.1; omega), rfl, e3', e4', e5, e6, e8, e9, e10, e11, e12, e13, rfl, rfl, hxA, gO, gA, rcA.imp fun p q _ _ => ⟨.inl, fun h => h.elim id fun ⟨p', hp', _⟩ => by omega⟩⟩ ?_
            clear e3' e4' e5 e6 e8 e9 e10 e11 e12 e13
            rintro I3 mm3 E3 hP ⟨p, hp0, hpn, hmm3, e3', e4', e5, e6, e8, e9, e10, e11, e12, e13, e14, e15, hxP, gOP, gCP, rP⟩ hI3
            rw [e5, e9, e10, e12, e13, e14, e15]
            refine w_lss (c_dec (fun p4 => ?_) (fun p4 => ?_))
            · have g2P := (X hxP).some g2
              have hpp : 0 ≤ p ∧ p < m.n := ⟨hp0, p4⟩
              have pb2 := pn_b hN hpp
              have pi2 := pq_in hN hpp k1
              have pi3 := pq_in hN hpp q3
              refine w_offP (w_rdP g2P (v := slB ib m.n) rfl (w_mul (by omega) (by omega) ?_))
              refine w_offP (w_rdP gOP (v := .int .i64 o.1) rfl (w_add (by omega) (by omega) ?_))
              obtain ⟨bl2, b2, sb2, hb2, hbR2⟩ := (rb.ex (X hxP)).get hN hpp k1
              refine w_idxT (enc := eBo) eBo_len sb2 pi2.1 hb2 fun pp hpp' => w_rd1 hpp' rfl ?_
              have nextp : ∀ (e' : Env) (hZ : AH), e' 3 = .int .i64 sym → e' 4 = .pointer (some ⟨h.length, 0, none⟩) → e' 5 = .pointer (some ⟨h1.length, 0, none⟩) → e' 6 = .pointer (some ⟨h2.length, 0, none⟩) → e' 8 = .pointer (some ⟨h3.length, 0, none⟩) → e' 9 = .int .i64 m.n → e' 10 = .pointer (some ⟨h4.length + 1, 0, none⟩) → e' 11 = .int .i64 i → e' 12 = .pointer (some ⟨po, 0, none⟩) → e' 13 = .int .i64 j → e' 14 = .pointer (some ⟨pcl, 0, none⟩) → e' 15 = .int .i64 (p + 1) → Exx h4.length h7 hZ → hZ[po]? = some (.row (e4 o) true) → hZ[pcl]? = some (.row (e4 c) true) →
                  RowAt hZ h4.length m.n (fun q => (((∃ o ∈ m.opens.take i, BkO m Rb R bys sym o q) ∨ ∃ c ∈ m.closes.take j, BkC m.n Rb R sym o c q) ∨ ∃ p', (0 ≤ p' ∧ p' < p) ∧ Rb (p', o.1) ∧ q = (p', c.2.2.2)) ∨ (Rb (p, o.1) ∧ q = (p, c.2.2.2))) → I3 e' hZ :=
                fun e' hZ f3 f4 f5 f6 f8 f9 f10 f11 f12 f13 f14 f15 y1 y2 y2' y3 => hI3 (m.n - (p + 1)).toNat _ _ (by omega) ⟨p + 1, by omega, by omega, rfl, f3, f4, f5, f6, f8, f9, f10, f11, f12, f13, f14, f15, y1, y2, y2', y3.imp fun p q _ _ => by
                  rw [ex_lt hp0]
                  exact or_assoc⟩
              refine c_b (fun hb => ?_) (fun hb => ?_)
              · have g7P := hxP.some g7 (by omega)
                refine w_offP (w_rdP g7P (v := slB h4.length m.n) rfl (w_mul (by omega) (by omega) ?_))
                refine w_offP (w_rdP gCP (v := .int .i64 c.2.2.2) rfl (w_add (by omega) (by omega) ?_))
                refine w_idxP pi3.1 pi3.2 ?_
                refine rP.put hN hpp q3 fun hZ y1 y2 y3 => ?_
                refine w_add (by omega) (by omega) ?_
                have hne1 : po ≠ h4.length := op
                have hne2 : pcl ≠ h4.length := pc
                exact nextp _ _ e3' e4' e5 e6 e8 e9 e10 e11 e12 e13 e14 rfl (hxP.trans y1) (y1.some gOP hne1) (y1.some gCP hne2) (y3.imp fun p q _ _ => or_congr Iff.rfl ⟨fun h => ⟨hbR2.1 hb, h⟩, fun h => h.2⟩)
              · refine w_add (by omega) (by omega) ?_
                exact nextp _ _ e3' e4' e5 e6 e8 e9 e10 e11 e12 e13 e14 rfl hxP gOP gCP (rP.imp fun p q _ _ => ⟨.inl, fun h => h.elim id fun h => by rw [hbR2.2 h.1] at hb; cases hb⟩)
            · refine w_add (by omega) (by omega) ?_
              have hpe : p = m.n := by omega
              subst hpe
              exact next _ _ e3' e4' e5 e6 e8 e9 e10 e11 e12 rfl hxP gOP (rP.imp fun p q _ _ => or_congr Iff.rfl ⟨fun h => ⟨⟨s1, s2, s3⟩, h⟩, fun h => h.2⟩)
        · iterate 12 refine g_ft s2 ?_
          refine pk_tt s2 (c_t ?_)
          refine w_add (by omega) (by omega) ?_
          exact next _ _ e3' e4' e5 e6 e8 e9 e10 e11 e12 rfl hxA gO (skip fun h => s2 h.2.1)
      · iterate 5 refine g_ft s1 ?_
        refine pk_tt s1 ?_
        iterate 12 refine gc_ft ?_
        refine pk_t (c_t ?_)
        refine w_add (by omega) (by omega) ?_
        exact next _ _ e3' e4' e5 e6 e8 e9 e10 e11 e12 rfl hxA gO (skip fun h => s1 h.1)
    · refine w_add (by omega) (by omega) ?_
      have hje : j = m.closes.length := by omega
      rw [hje, List.take_length] at rc
      refine hI (mm - 1) _ _ (by omega) ⟨i + 1, by omega, by omega, e3', e4', e5, e6, e8, e9, e10, rfl, hx9, rc.imp fun p q _ _ => ?_⟩
      rw [ex_take ho]
      exact or_congr Iff.rfl ⟨fun h => ⟨p2, h⟩, fun h => h.2⟩
  · have hie : i = m.opens.length := by omega
    rw [hie, List.take_length] at ra
    have g7' := hx.some g7 (by omega)
    refine w_rdPA (n := 2) g7' (Nat.le_refl 2) ?_
    have g4' := (X hx).some g4
    have hb := lt_of_get g4'
    refine w_stPA g4' rfl (Nat.le_refl 2) rfl ?_
    rw [res53]
    refine w_some (v := [.agg (lvC h4.length m.n bb).toArray]) ?_ ?_
    · have g := hopt (o := rdRow true 2 (.pointer (some ⟨h3.length, 0, none⟩)) _) (w_rdPA (get_set h' hb (.row (spliceL [(.slice none 0 0), (.int .i64 0)] 0 (cellsL (.agg (((lvC h4.length m.n bb).drop 0).take 2).toArray))) true)) (Nat.le_refl 2) rfl)
      show (rdRow true 2 (e 8) _).map _ = _
      rw [e8, g]
      rfl
    · refine k _ h4.length ((x04.trans (X hx)).set (by have := x1.len; omega) _) (by have := x04.len; omega) ((ra.keep (get_ne (by omega) _)).imp fun p q hp hq => ?_)
      constructor
      · rintro ⟨o, ho, h1, c, hc, ⟨h2, h3, h4⟩, p', hp', h5, h6⟩
        have e1 : p = p' := congrArg Prod.fst h6
        have e2 : q = c.2.2.2 := congrArg Prod.snd h6
        subst e1
        exact ⟨o.1, h5, o, ho, rfl, h1, c, hc, h2, h3, h4, e2.symm⟩
      · rintro ⟨b, h5, o, ho, rfl, h1, c, hc, h2, h3, h4, h6⟩
        exact ⟨o, ho, h1, c, hc, ⟨h2, h3, h4⟩, p, hp, h5, Prod.ext rfl h6.symm⟩
end Go.Proofs.Ytebbjimmgblcpaa.W
end

section
/- The levels of the document's Takes. Conditions: none. -/
namespace Go.Proofs.Ytebbjimmgblcpaa.W
open Go Go.AM FeedM
set_option linter.unusedVariables false
set_option maxRecDepth 100000

def eLv (n : Int) (u : Nat × Int) : List Value := lvC u.1 n u.2
theorem eLv_len (n : Int) (u : Nat × Int) : (eLv n u).length = 2 := rfl

/-- what stands under: a slice of levels, each with its row, below a place. -/
def TkU (h : AH) (pn : Nat) (n : Int) (vu : Value) (ls : List Lv) (b : Nat) : Prop := ∃ us : List (Nat × Int), OwnG 2 (fun j => pn < j) h vu us.length (flat (eLv n) us) ∧ us.length = ls.length ∧
  ∀ (k : Nat) (u : Nat × Int) (lv : Lv), us[k]? = some u → ls[k]? = some lv → u.2 = lv.bys ∧ RowAt h u.1 n lv.row ∧ u.1 ≠ pn ∧ ¬ onId vu u.1 ∧ u.1 < b

theorem TkU.mono {h : AH} {pn : Nat} {n : Int} {vu : Value} {ls : List Lv} {b c : Nat} (t : TkU h pn n vu ls b) (hb : b ≤ c) : TkU h pn n vu ls c := by
  obtain ⟨us, o, hl, hr⟩ := t
  exact ⟨us, o, hl, fun k u lv h1 h2 => by obtain ⟨a1, a2, a3, a4, a5⟩ := hr k u lv h1 h2; exact ⟨a1, a2, a3, a4, by omega⟩⟩
theorem TkU.keep {h h' : AH} {pn : Nat} {n : Int} {vu : Value} {ls : List Lv} {b : Nat} (t : TkU h pn n vu ls b) (hv : ∀ j, onId vu j → j < h.length → h'[j]? = h[j]?) (hb : ∀ j, j < b → j < h.length → j ≠ pn → h'[j]? = h[j]?) : TkU h' pn n vu ls b := by
  obtain ⟨us, o, hl, hr⟩ := t
  refine ⟨us, o.mono (fun _ _ h => h) fun j hj _ => hv j hj (o.on hj).2, hl, fun k u lv h1 h2 => ?_⟩
  obtain ⟨a1, a2, a3, a4, a5⟩ := hr k u lv h1 h2
  exact ⟨a1, a2.keep (hb _ a5 a2.lt a3), a3, a4, a5⟩
theorem TkU.ex {h h' : AH} {pn : Nat} {n : Int} {vu : Value} {ls : List Lv} {b : Nat} (t : TkU h pn n vu ls b) (x : Ex h h') : TkU h' pn n vu ls b := t.keep (fun j _ hj => x.get j hj) fun j _ hj _ => x.get j hj
theorem TkU.set {h : AH} {pn : Nat} {n : Int} {vu : Value} {ls : List Lv} {b j : Nat} (t : TkU h pn n vu ls b) (hj : ¬ onId vu j) (hb : b ≤ j ∨ j = pn) (o : AObj) : TkU (h.set j o) pn n vu ls b :=
  t.keep (fun x hx _ => get_ne (show j ≠ x from fun e => hj (by rw [e]; exact hx)) _) fun x hx _ hp => get_ne (show j ≠ x from fun e => by subst e; rcases hb with h | h <;> omega) _
theorem TkU.on {h : AH} {pn : Nat} {n : Int} {vu : Value} {ls : List Lv} {b : Nat} (t : TkU h pn n vu ls b) {j : Nat} (hj : onId vu j) : pn < j ∧ j < h.length := by
  obtain ⟨us, o, hl, hr⟩ := t
  exact o.on hj
theorem TkU.nil (h : AH) (pn : Nat) (n : Int) (b : Nat) : TkU h pn n (.slice none 0 0) [] b := ⟨[], OwnG.nil _ _ _, rfl, fun k u lv h1 _ => by simp at h1⟩
theorem TkU.len {h : AH} {pn : Nat} {n : Int} {vu : Value} {ls : List Lv} {b : Nat} {K : Value → Prop} (t : TkU h pn n vu ls b) (k : K (.int .i64 ls.length)) : optW (lenSl vu) K := by
  obtain ⟨us, o, hl, hr⟩ := t
  refine w_len o.sl ?_
  rw [hl]
  exact k

/-- one level more -/
theorem TkU.push {h : AH} {pn i0 : Nat} {n : Int} {vu : Value} {ls : List Lv} {lv : Lv} {b : Nat} {K : Value → AH → Prop} (t : TkU h pn n vu ls b) (r : RowAt h i0 n lv.row) (hi : i0 ≠ pn) (hv : ¬ onId vu i0) (hib : i0 < b) (hpn : pn < h.length) (hb : b ≤ h.length) (hs : ls.length + 1 < room40)
    (k : ∀ v' h', TkU h' pn n v' (ls ++ [lv]) b → h.length < h'.length → (∀ j, j < h.length → ¬ onId vu j → h'[j]? = h[j]?) → (∀ j, onId v' j → onId vu j ∨ h.length ≤ j) → K v' h') :
    appSl 2 vu (.slice (some ⟨h.length, 0, none⟩) 1 1) (h ++ [.row (lvC i0 n lv.bys) true]) K := by
  obtain ⟨us, o, hl, hr⟩ := t
  have x : Ex h (h ++ [.row (lvC i0 n lv.bys) true]) := .app _ _
  have o1 : OwnG 2 (fun j => pn < j) (h ++ [.row (lvC i0 n lv.bys) true]) vu us.length (flat (eLv n) us) := o.mono (fun _ _ h => h) fun j hj _ => x.get j (o.on hj).2
  refine appSl_of (app_g (by decide) o1 (srcL_new (get_new _ _) (by decide) rfl) rfl (by omega) fun v' h' q1 l1 k1 id1 => ?_)
  have l1 : h.length + 1 ≤ h'.length := by simpa using l1
  have kk : ∀ j, j < h.length → ¬ onId vu j → h'[j]? = h[j]? := fun j hj hn => (k1 j (by simp; omega) hn).trans (x.get j hj)
  have idd : ∀ j, onId v' j → onId vu j ∨ h.length ≤ j := fun j hj => (id1 j hj).imp id fun e => by simp at e; omega
  refine k v' h' ⟨us ++ [(i0, lv.bys)], ?_, by simp [hl], fun k u lv' h1 h2 => ?_⟩ (by omega) kk idd
  · have e1 : flat (eLv n) (us ++ [(i0, lv.bys)]) = flat (eLv n) us ++ lvC i0 n lv.bys := by rw [flat_append]; simp [flat, eLv]
    rw [e1, List.length_append]
    exact q1.mono (fun j _ h => h.elim id fun e => by simp at e; omega) fun _ _ _ => rfl
  · by_cases e : k < us.length
    · rw [List.getElem?_append_left e] at h1
      rw [List.getElem?_append_left (by omega)] at h2
      obtain ⟨a1, a2, a3, a4, a5⟩ := hr k u lv' h1 h2
      exact ⟨a1, a2.keep (kk _ a2.lt a4), a3, fun hh => (idd _ hh).elim a4 fun hh => by omega, a5⟩
    · have hk : k = us.length := by
        have := (List.getElem?_eq_some_iff.1 h1).1
        simp at this
        omega
      subst hk
      rw [List.getElem?_append_right (Nat.le_refl _)] at h1
      rw [List.getElem?_append_right (by omega), hl] at h2
      simp at h1 h2
      subst h1 h2
      exact ⟨rfl, r.keep (kk _ r.lt hv), hi, fun hh => (idd _ hh).elim hv fun hh => by have := r.lt; omega, hib⟩

/-- the last level -/
theorem TkU.last {h : AH} {pn : Nat} {n : Int} {vu : Value} {ls : List Lv} {b : Nat} {lv : Lv} (t : TkU h pn n vu ls b) (hg : ls.getLast? = some lv) :
    ∃ us ib, SlT 2 (eLv n) h vu us ∧ us[ls.length - 1]? = some (ib, lv.bys) ∧ RowAt h ib n lv.row ∧ 0 < ls.length := by
  obtain ⟨us, o, hl, hr⟩ := t
  have hpos : 0 < ls.length := by
    cases ls with
    | nil => cases hg
    | cons _ _ => simp
  rw [List.getLast?_eq_getElem?] at hg
  obtain ⟨u, hu⟩ := getElem?_of_lt (l := us) (i := ls.length - 1) (by omega)
  obtain ⟨a1, a2, a3, a4, a5⟩ := hr _ u lv hu hg
  refine ⟨us, u.1, o.sl, ?_, a2, hpos⟩
  rw [hu, ← a1]

theorem TkU.cut {h : AH} {pn : Nat} {n : Int} {vu : Value} {ls : List Lv} {b : Nat} {K : Value → Prop} (t : TkU h pn n vu ls b) (hpos : 0 < ls.length)
    (k : ∀ v', TkU h pn n v' ls.dropLast b → (∀ j, onId v' j → onId vu j) → K v') : optW (pSliceSl 2 vu none (some (.int .i64 (((ls.length : Nat) : Int) - 1))) none) K := by
  obtain ⟨us, o, hl, hr⟩ := t
  have e : ((ls.length : Nat) : Int) - 1 = ((ls.length - 1 : Nat) : Int) := by omega
  rw [e]
  refine cut_g o (by omega) fun v' o' id' => ?_
  refine k v' ⟨us.take (ls.length - 1), ?_, by simp [hl], fun k u lv h1 h2 => ?_⟩ id'
  · have hl2 : (us.take (ls.length - 1)).length = ls.length - 1 := by rw [List.length_take]; omega
    rw [hl2, ← flat_take (eLv_len n)]
    exact o'
  · have hk : k < ls.length - 1 := by
      have := (List.getElem?_eq_some_iff.1 h1).1
      rw [List.length_take] at this
      omega
    rw [List.getElem?_take_of_lt hk] at h1
    rw [List.dropLast_eq_take, List.getElem?_take_of_lt hk] at h2
    obtain ⟨a1, a2, a3, a4, a5⟩ := hr k u lv h1 h2
    exact ⟨a1, a2, a3, fun hh => a4 (id' _ hh), a5⟩

theorem PtrTo.ids {h : AH} {p : Value} {cs : List Value} (hp : PtrTo h p cs) {a b : AH} (x : Ex h a) (y : Ex h b) : ∀ z ∈ idOf p, a[z]? = b[z]? := by
  obtain ⟨id, off, c, w, rfl, h1, h2⟩ := hp
  intro z hz
  have : z = id := List.mem_singleton.1 hz
  subst this
  rw [x.get _ (lt_of_get h1), y.get _ (lt_of_get h1)]
end Go.Proofs.Ytebbjimmgblcpaa.W
end
