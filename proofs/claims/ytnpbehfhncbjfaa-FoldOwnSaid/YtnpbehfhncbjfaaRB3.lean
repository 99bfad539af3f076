/- Parts of a proof, joined by a program. Conditions: none. -/
import Derived.Test.YtnpbehfhncbjfaaRB2
import Derived.Test.YtnpbehfhncbjfaaRS0
import Derived.Test.YtnpbehfhncbjfaaRA2

section
/- FoldErrs' walk: Small of what may not be is refused. Conditions: none. -/
namespace Go.Proofs.Ytnpbehfhncbjfaa.W
open Go Go.AM
set_option linter.unusedVariables false
set_option maxRecDepth 100000
theorem stM {h : AH} {id : Nat} {c : List Value} {u : MoV} {m : Mo} {K : AH → Prop} (hr : h[id]? = some (.row c true)) (hl : c.length = 8) (k : K (h.set id (.row (moRow u m) true))) : optW (pStore 8 (.pointer (some ⟨id, 0, none⟩)) (.agg (moRow u m).toArray) h) K := by
  refine w_stPA hr rfl (by omega) rfl ?_
  have e : spliceL c 0 (cellsL (.agg (moRow u m).toArray)) = moRow u m := by
    unfold spliceL
    show c.take 0 ++ moRow u m ++ c.drop (0 + (moRow u m).length) = _
    rw [List.drop_eq_nil_of_le (by show c.length ≤ 8; omega)]
    simp
  rw [e]
  exact k
theorem Sl.inj {s : Nat} {h : AH} {v : Value} {n : Nat} {a b : List Value} (x : Sl s h v n a) (y : Sl s h v n b) : a = b := by
  have hx := x.1
  have hy := y.1
  have nz : n = 0 → a = b := fun h0 => by
    subst h0
    rw [List.eq_nil_of_length_eq_zero (l := a) (by omega), List.eq_nil_of_length_eq_zero (l := b) (by omega)]
  rcases x.2 with ⟨_, h0⟩ | ⟨id, off, cap, e1, _, h1⟩
  · exact nz h0
  · rcases h1 with h1 | ⟨c, w, g, _, t⟩
    · exact nz h1
    · rcases y.2 with ⟨_, h0⟩ | ⟨id', off', cap', e2, _, h2⟩
      · exact nz h0
      · rcases h2 with h2 | ⟨c', w', g', _, t'⟩
        · exact nz h2
        · rw [e1] at e2
          cases e2
          rw [g] at g'
          cases g'
          exact t.symm.trans t'
theorem bldT {s : Nat} {z : List Value} {v : Value} {K : List Value → Prop} (hz : z.length = s) (hs : s ≤ 100) (hl : (cellsL v).length = s) (h1 : (cellsL v).all (·.oneCell') = true) (k : K (cellsL v)) : optW (bldSl s z 1 [(0, v)]) K := by
  rw [bldSl_one hz hs hl h1]
  exact k
def I64 (n : Int) : Prop := -9223372036854775808 ≤ n ∧ n ≤ 9223372036854775807
end Go.Proofs.Ytnpbehfhncbjfaa.W
end

section
/- Fold's laws: one thing of a machine is turned: rules. Conditions: none. -/
namespace Go.Proofs.Ytnpbehfhncbjfaa.W
open Go Go.AM
set_option linter.unusedVariables false
set_option maxRecDepth 100000
theorem w_stG {F : Nat → Prop} {h : AH} {v x : Value} {n i : Nat} {cs : List Value} {kd : IntKind} {K : Value → AH → Prop} (ho : OwnG 1 F h v n cs) (hi : i < n) (hx : cellsL x = [x]) (h1 : x.oneCell' = true)
    (k : ∀ q h', OwnG 1 F h' v n (cs.set i x) → h'.length = h.length → (∀ j, ¬ onId v j → h'[j]? = h[j]?) → K q h') : optW (pIdxS 1 v (.int kd (i : Nat))) fun q => optW (pStore 1 q x h) fun h' => K q h' := by
  obtain ⟨h0, ⟨rfl, rfl⟩ | ⟨id, c, hf, rfl, g, g2, g3⟩⟩ := ho
  · omega
  · refine w_some (v := .pointer (some ⟨id, 0 + i * 1, none⟩)) ?_ ?_
    · show (if (0 : Int) ≤ (i : Int) ∧ (i : Int) < (n : Int) then some (Value.pointer (some ⟨id, 0 + ((i : Nat) : Int).toNat * 1, none⟩)) else none) = _
      rw [if_pos ⟨by omega, by omega⟩, Int.toNat_natCast]
    · rw [Nat.zero_add, Nat.mul_one]
      rw [Nat.mul_one] at g2 g3 h0
      refine w_stP g (by omega) hx h1 (k _ _ ⟨by rw [List.length_set, Nat.mul_one]; exact h0, .inr ⟨id, _, hf, rfl, get_set _ (lt_of_get g) _, by rw [List.length_set]; omega, ?_⟩⟩ (by simp) fun j hj => get_ne (fun e => hj e) _)
      rw [Nat.mul_one, List.take_set, g3]
theorem RowsT.row {h h' : AH} {o tg : Nat → Tg} {vs : List Value} {ls : List (List Int)} {p : Nat} {v' w' : Value} {l' : List Int} (r : RowsT h o tg vs ls) (hp : p < ls.length) (hv : Sl 1 h' v' ls.length (vs.set p w')) (oth : ∀ j q, q ≠ p → o j = tg q → h'[j]? = h[j]?) (hw : Ints h' w' l') : RowsR h' v' (ls.set p l') := by
  refine ⟨vs.set p w', by rw [List.length_set]; exact hv, fun i l hl => ?_⟩
  have hl1 := r.1
  by_cases e : i = p
  · subst e
    rw [List.getElem?_set_self hp] at hl
    cases hl
    exact ⟨w', by rw [List.getElem?_set_self (by omega)], hw⟩
  · rw [List.getElem?_set_ne (Ne.symm e)] at hl
    obtain ⟨v, h1, h2⟩ := r.2 i l hl
    exact ⟨v, by rw [List.getElem?_set_ne (Ne.symm e)]; exact h1, (h2.mono (fun _ _ h => h) fun j _ hj => oth j i e hj).sl⟩
theorem RetsT.row {h h' : AH} {o : Nat → Tg} {vs : List Value} {rs : List (List (List Int))} {p : Nat} {v' w' : Value} {r' : List (List Int)} (r : RetsT h o vs rs) (hp : p < rs.length) (hv : Sl 1 h' v' rs.length (vs.set p w')) (oth : ∀ j q, q ≠ p → (o j = .ret q ∨ ∃ i, o j = .rr q i) → h'[j]? = h[j]?) (hw : RowsR h' w' r') : RetsR h' v' (rs.set p r') := by
  refine ⟨vs.set p w', by rw [List.length_set]; exact hv, fun i l hl => ?_⟩
  have hl1 := r.1
  by_cases e : i = p
  · subst e
    rw [List.getElem?_set_self hp] at hl
    cases hl
    exact ⟨w', by rw [List.getElem?_set_self (by omega)], hw⟩
  · rw [List.getElem?_set_ne (Ne.symm e)] at hl
    obtain ⟨v, ws, h1, h2, h3⟩ := r.2 i l hl
    refine ⟨v, by rw [List.getElem?_set_ne (Ne.symm e)]; exact h1, ?_⟩
    have h3' := h3.to (h' := h') fun j ⟨q, hj⟩ => oth j i e (.inr ⟨q, hj⟩)
    exact h3'.rows (by rw [← h3.1]; exact h2.mono (F' := fun j => o j = .ret i) (fun _ _ h => h) fun j _ hj => oth j i e (.inl hj))
theorem ptr_id {b f : Nat} {h h' : AH} (hh : h'[b]? = h[b]?) : ∀ x ∈ idOf (.pointer (some ⟨b, f, none⟩)), h[x]? = h'[x]? := by
  intro x hx
  have : x = b := List.mem_singleton.1 hx
  subst this
  exact hh.symm
end Go.Proofs.Ytnpbehfhncbjfaa.W
end

section
/- FoldChecks' walk: one thing of a machine is turned, then both tell the same. Conditions: none. -/
namespace Go.Proofs.Ytnpbehfhncbjfaa.W
open Go Go.AM
set_option linter.unusedVariables false
set_option maxRecDepth 100000
structure Stay (o : Nat → Tg) (T : Tg → Prop) (h h' : AH) : Prop where
  st : ∀ j, o j ≠ .no → ¬ T (o j) → h'[j]? = h[j]?
theorem Stay.at {o : Nat → Tg} {T : Tg → Prop} {h h' : AH} (s : Stay o T h h') {j : Nat} {t : Tg} (hj : o j = t) (ht : t ≠ .no) (hT : ¬ T t) : h'[j]? = h[j]? := s.st j (by rw [hj]; exact ht) (by rw [hj]; exact hT)
section
variable {h h' : AH} {b : Nat} {o : Nat → Tg} {u : MoV} {m : Mo} {T : Tg → Prop}
end
end Go.Proofs.Ytnpbehfhncbjfaa.W
end

section
/- Fold's laws: machines as they lie and plain machines; the code's Takes. Conditions: none. -/
namespace Go.Proofs.Ytnpbehfhncbjfaa.W
open Go Go.AM FoldPM
set_option linter.unusedVariables false
set_option maxRecDepth 100000
def Mo.pm (m : Mo) : PM where
  n := m.Of.length
  k := m.En.length
  pl := m.pl.toNat
  cl := m.cl.toNat
  of p := m.Of.getD p 0
  en c := (m.En.getD c 0).toNat
  fi p := m.Fi.getD p false
  inn p i := ((m.In.getD p []).getD i 0).toNat
  low p j := ((m.Low.getD p []).getD j 0).toNat
  ret p j q := (((m.Ret.getD p []).getD j []).getD q 0).toNat
theorem getD_of {α : Type} {l : List α} {i : Nat} {x d : α} (h : l[i]? = some x) : l.getD i d = x := by rw [List.getD_eq_getElem?_getD, h]; rfl
theorem Valid.ofAt {m : Mo} (_ : Valid m) {p : Nat} (hp : p < m.pm.n) : m.Of[p]? = some (m.pm.of p) := by
  obtain ⟨x, hx⟩ := getElem?_of_lt (l := m.Of) (i := p) hp
  have : m.pm.of p = x := getD_of hx
  rw [this, hx]
section
variable {m : Mo} (v : Valid m)
include v
theorem Valid.fiAt {p : Nat} (hp : p < m.pm.n) : m.Fi[p]? = some (m.pm.fi p) := by
  obtain ⟨x, hx⟩ := getElem?_of_lt (l := m.Fi) (i := p) (by have := v.lf; show p < m.Fi.length; rw [this]; exact hp)
  have : m.pm.fi p = x := getD_of hx
  rw [this, hx]
theorem Valid.enAt {c : Nat} (hc : c < m.pm.k) : m.En[c]? = some ((m.pm.en c : Nat) : Int) ∧ m.pm.en c < m.pm.n ∧ m.pm.of (m.pm.en c) = c := by
  obtain ⟨x, hx⟩ := getElem?_of_lt (l := m.En) (i := c) hc
  have e : m.pm.en c = x.toNat := by show (m.En.getD c 0).toNat = _; rw [getD_of hx]
  have h := v.en c x hx
  rw [e, Int.toNat_of_nonneg h.1]
  exact ⟨hx, by show x.toNat < m.Of.length; have := h.1; have := h.2.1; omega, getD_of h.2.2⟩
theorem Valid.inAt {p : Nat} (hp : p < m.pm.n) : ∃ l, m.In[p]? = some l ∧ l.length = m.pm.pl ∧ ∀ i, i < m.pm.pl → l[i]? = some ((m.pm.inn p i : Nat) : Int) ∧ m.pm.inn p i < m.pm.n ∧ m.pm.of (m.pm.inn p i) = m.pm.of p := by
  obtain ⟨l, hl⟩ := getElem?_of_lt (l := m.In) (i := p) (by have := v.li; show p < m.In.length; rw [this]; exact hp)
  have h := (v.st p hp).1 _ l (v.ofAt hp) hl
  have hp0 := v.pl.1
  have len : l.length = m.pm.pl := by have := h.1; show l.length = m.pl.toNat; omega
  refine ⟨l, hl, len, fun i hi => ?_⟩
  obtain ⟨x, hx⟩ := getElem?_of_lt (l := l) (i := i) (by omega)
  have e : m.pm.inn p i = x.toNat := by show ((m.In.getD p []).getD i 0).toNat = _; rw [getD_of hl, getD_of hx]
  have g := h.2 i x hx
  rw [e, Int.toNat_of_nonneg g.1]
  exact ⟨hx, by show x.toNat < m.Of.length; have := g.1; have := g.2.1; omega, getD_of g.2.2⟩
theorem Valid.rows {p : Nat} (hp : p < m.pm.n) : ∃ lo re, m.Low[p]? = some lo ∧ m.Ret[p]? = some re ∧ ClOK m p := by
  obtain ⟨lo, h1⟩ := getElem?_of_lt (l := m.Low) (i := p) (by have := v.ll; show p < m.Low.length; rw [this]; exact hp)
  obtain ⟨re, h2⟩ := getElem?_of_lt (l := m.Ret) (i := p) (by have := v.lr; show p < m.Ret.length; rw [this]; exact hp)
  exact ⟨lo, re, h1, h2, (v.st p hp).2⟩
theorem Valid.lowAt {p : Nat} (hp : p < m.pm.n) : ∃ l, m.Low[p]? = some l ∧ (m.pm.of p ≠ 0 → l = []) ∧ (m.pm.of p = 0 → l.length = m.pm.cl ∧ ∀ i, i < m.pm.cl → l[i]? = some ((m.pm.low p i : Nat) : Int) ∧ m.pm.low p i < m.pm.n ∧ m.pm.of (m.pm.low p i) = 0) := by
  obtain ⟨l, re, hl, hr, hc⟩ := v.rows hp
  have h := hc _ l re (v.ofAt hp) hl hr
  have hp0 := v.cl.1
  refine ⟨l, hl, fun h0 => List.eq_nil_of_length_eq_zero (h.2 h0).1, fun h0 => ?_⟩
  have h := (h.1 h0).2
  have len : l.length = m.pm.cl := by have := h.1; show l.length = m.cl.toNat; omega
  refine ⟨len, fun i hi => ?_⟩
  obtain ⟨x, hx⟩ := getElem?_of_lt (l := l) (i := i) (by omega)
  have e : m.pm.low p i = x.toNat := by show ((m.Low.getD p []).getD i 0).toNat = _; rw [getD_of hl, getD_of hx]
  have g := h.2 i x hx
  rw [e, Int.toNat_of_nonneg g.1]
  exact ⟨hx, by show x.toNat < m.Of.length; have := g.1; have := g.2.1; omega, getD_of g.2.2⟩
theorem Valid.retAt {p : Nat} (hp : p < m.pm.n) : ∃ r, m.Ret[p]? = some r ∧ (m.pm.of p = 0 → r = []) ∧ (m.pm.of p ≠ 0 → r.length = m.pm.cl ∧ ∀ j, j < m.pm.cl → ∃ l, r[j]? = some l ∧ l.length = m.pm.n ∧
    ∀ q, q < m.pm.n → l[q]? = some ((m.pm.ret p j q : Nat) : Int) ∧ m.pm.ret p j q < m.pm.n ∧ m.pm.of (m.pm.ret p j q) = m.pm.of q) := by
  obtain ⟨lo, re, hl, hr, hc⟩ := v.rows hp
  have h := hc _ lo re (v.ofAt hp) hl hr
  have hp0 := v.cl.1
  refine ⟨re, hr, fun h0 => List.eq_nil_of_length_eq_zero (h.1 h0).1, fun h0 => ?_⟩
  have h := (h.2 h0).2
  have len : re.length = m.pm.cl := by have := h.1; show re.length = m.cl.toNat; omega
  refine ⟨len, fun j hj => ?_⟩
  obtain ⟨l, hx⟩ := getElem?_of_lt (l := re) (i := j) (by omega)
  have g := h.2 j l hx
  refine ⟨l, hx, g.1, fun q hq => ?_⟩
  obtain ⟨x, hxx⟩ := getElem?_of_lt (l := l) (i := q) (by rw [g.1]; exact hq)
  have e : m.pm.ret p j q = x.toNat := by show (((m.Ret.getD p []).getD j []).getD q 0).toNat = _; rw [getD_of hr, getD_of hx, getD_of hxx]
  obtain ⟨c, hc, gx⟩ := g.2 q x hxx
  rw [e, Int.toNat_of_nonneg gx.1]
  refine ⟨hxx, by show x.toNat < m.Of.length; have := gx.1; have := gx.2.1; omega, ?_⟩
  have e2 : m.pm.of q = c := getD_of hc
  rw [e2]
  exact getD_of gx.2.2
theorem Valid.ok : m.pm.OK := by
  refine ⟨by show 1 ≤ m.Of.length; have := v.n1; omega, by show 1 ≤ m.En.length; have := v.k1; omega, fun p hp => v.of p _ (v.ofAt hp), fun c hc => (v.enAt hc).2, fun p i hp hi => ?_, fun p j hp h0 hj => ?_, fun p j q hp hq h0 hj => ?_⟩
  · obtain ⟨l, _, _, h⟩ := v.inAt hp
    exact (h i hi).2
  · obtain ⟨l, _, _, h⟩ := v.lowAt hp
    exact ((h h0).2 j hj).2
  · obtain ⟨r, _, _, h⟩ := v.retAt hp
    obtain ⟨l, _, _, h⟩ := (h h0).2 j hj
    exact (h q hq).2
end
section
variable {h : AH} {u : MoV} {m : Mo} (v : Valid m) (mh : MoH h u m)
include v mh
theorem rIn {p i : Nat} (hp : p < m.pm.n) (hi : i < m.pm.pl) {K : Value → Prop} (k : K (.int .i64 (m.pm.inn p i : Nat))) :
    optW (pIdxS 1 (sv u.vi) (.int .i64 (p : Nat))) fun a => optW (rdRow false 1 a h) fun b => optW (pIdxS 1 b (.int .i64 (i : Nat))) fun c => optW (rdRow false 1 c h) K := by
  obtain ⟨l, hl, _, h2⟩ := v.inAt hp
  obtain ⟨vals, s, r⟩ := mh.inn
  obtain ⟨w, hw, il⟩ := r p l hl
  exact idxV s hw fun z hz => w_rd1 hz rfl (w_idxN eI_len il (h2 i hi).1 fun z hz => w_rd1 hz rfl k)
theorem rLow {p i : Nat} (hp : p < m.pm.n) (h0 : m.pm.of p = 0) (hi : i < m.pm.cl) {K : Value → Prop} (k : K (.int .i64 (m.pm.low p i : Nat))) :
    optW (pIdxS 1 (sv u.vl) (.int .i64 (p : Nat))) fun a => optW (rdRow false 1 a h) fun b => optW (pIdxS 1 b (.int .i64 (i : Nat))) fun c => optW (rdRow false 1 c h) K := by
  obtain ⟨l, hl, _, h2⟩ := v.lowAt hp
  obtain ⟨vals, s, r⟩ := mh.low
  obtain ⟨w, hw, il⟩ := r p l hl
  exact idxV s hw fun z hz => w_rd1 hz rfl (w_idxN eI_len il ((h2 h0).2 i hi).1 fun z hz => w_rd1 hz rfl k)
end
def Psh (b : Nat) (h : AH) (v : Value) (s : List Nat) : Prop := OwnG 1 (fun j => b ≤ j) h v s.length (flat eI (s.map fun q => ((q : Nat) : Int)))
theorem Psh.ex {b : Nat} {h h' : AH} {v : Value} {s : List Nat} (p : Psh b h v s) (x : Ex h h') : Psh b h' v s := OwnG.mono p (fun _ _ h => h) fun j hj _ => x.get j (OwnG.on p hj).2
end Go.Proofs.Ytnpbehfhncbjfaa.W
end

section
/- Fold's laws: words of numbers; rows joined; which states are reached: its parts. Conditions: none. -/
namespace Go.Proofs.Ytnpbehfhncbjfaa.W
open Go Go.AM FoldPM
set_option linter.unusedVariables false
set_option maxRecDepth 100000
theorem bigR : (2000000 : Nat) < room40 := by decide
end Go.Proofs.Ytnpbehfhncbjfaa.W
end

section
/- Fold's laws: rows joined; what a state leads to. Conditions: none. -/
namespace Go.Proofs.Ytnpbehfhncbjfaa.W
open Go Go.AM FoldPM
set_option linter.unusedVariables false
set_option maxRecDepth 100000
theorem grow62 {h : AH} {n : Int} {K : Value → AH → Prop} (h0 : 0 ≤ n) (hn : n ≤ 1000000) (k : ∀ v' h', Ex h h' → OwnG 1 (fun j => h.length ≤ j) h' v' 0 [] → K v' h') : callW Try.prog 62 [.slice none 0 0, .int .i64 n] h K := by
  refine c62 ?_
  unfold s62
  refine w_lss (c_ff (by omega) (w_some (v := .int .i64 0) (by kernel_rfl) (w_lenSl (w_sub (by decide) (by decide) ?_))))
  have e0 : (0 : Int) - ((0 : Nat) : Int) = 0 := rfl
  rw [e0]
  refine w_sub (by omega) (by omega) ?_
  rw [Int.sub_zero]
  refine w_gtr (c_dec (fun q => ?_) (fun q => ?_))
  · refine w_some (v := .int .i64 0) (by kernel_rfl) (w_some (v := .slice none 0 0) rfl ?_)
    unfold appZI
    dsimp only
    unfold appZ
    dsimp only
    have := bigR
    rw [if_neg (by omega), if_pos ⟨q, by omega⟩]
    have o : OwnG 1 (fun j => h.length ≤ j) (h ++ [.row (repL [.int .i64 0] n.toNat) true]) (.slice (some ⟨h.length, 0, none⟩) n.toNat (openCap + 1)) n.toNat (repL [.int .i64 0] n.toNat) := by
      have e : (repL [Value.int .i64 0] n.toNat).length = n.toNat * 1 := by rw [repL_zero, flat_eI_len]; simp
      exact ⟨e, .inr ⟨h.length, _, Nat.le_refl _, rfl, get_new _ _, by omega, by rw [← e, List.take_length]⟩⟩
    refine w_lenSl (cut_g o (Nat.zero_le _) fun v' a b => ?_)
    exact k _ _ (.app _ _) (by simpa using a)
  · exact k _ _ (Ex.refl _) (OwnG.nil _ _ _)
theorem conc57 {h : AH} {v : Value} {ls : List (List Int)} {K : Value → AH → Prop} (hr : RowsR h v ls) (sz : ls.flatten.length ≤ 100000) (szn : ls.length ≤ 1000)
    (k : ∀ v' h', Ex h h' → OwnG 1 (fun j => h.length ≤ j) h' v' ls.flatten.length (flat eI ls.flatten) → K v' h') : callW Try.prog 57 [v] h K := by
  obtain ⟨vals, hv, hrow⟩ := hr
  refine c57 ?_
  unfold s57
  refine w_len hv ?_
  have tk : ∀ (i : Nat) (l : List Int), ls[i]? = some l → (ls.take (i + 1)).flatten = (ls.take i).flatten ++ l := fun i l hl => by rw [take_succ_get hl, List.flatten_append]; simp
  have le : ∀ i, (ls.take i).flatten.length ≤ 100000 := fun i => by
    have := congrArg List.length (congrArg List.flatten (List.take_append_drop i ls))
    rw [List.flatten_append, List.length_append] at this
    omega
  refine loopE_intro (fun mm e h' => ∃ i : Nat, i ≤ ls.length ∧ mm = ls.length - i ∧ e 0 = v ∧ e 3 = .int .i64 ((ls.take i).flatten.length : Nat) ∧ e 9 = v ∧ e 10 = .int .i64 (ls.length : Nat) ∧ e 11 = .int .i64 (i : Nat) ∧ h = h') ls.length
    ⟨0, Nat.zero_le _, rfl, rfl, rfl, rfl, rfl, rfl, rfl⟩ ?_
  rintro I mm e h' ⟨i, hi, hmm, e0, e3, e9, e10, e11, rfl⟩ ih
  rw [e9, e10, e11, e3, e0]
  refine w_lss (c_dec (fun q => ?_) (fun q => ?_))
  · obtain ⟨l, hl⟩ := getElem?_of_lt (l := ls) (i := i) (by omega)
    obtain ⟨w, hw, iw⟩ := hrow i l hl
    have e1 := tk i l hl
    have e2 := le (i + 1)
    have e4 := congrArg List.length e1
    rw [List.length_append] at e4
    refine idxV hv hw fun z hz => w_rd1 hz rfl (w_len iw (w_add (by omega) (by omega) (w_lss (c_ff (by omega) (w_add (by omega) (by omega) ?_)))))
    refine ih (ls.length - (i + 1)) _ _ (by omega) ⟨i + 1, by omega, rfl, e0, ?_, e9, e10, rfl, rfl⟩
    show Value.int .i64 _ = _
    rw [e4]
    congr 1
  · have l0 := le i
    refine grow62 (by omega) (by omega) fun v1 h1 x1 o1 => w_len hv ?_
    clear ih
    refine loopE_intro (fun mm e h' => ∃ i : Nat, i ≤ ls.length ∧ mm = ls.length - i ∧ e 25 = v ∧ e 26 = .int .i64 (ls.length : Nat) ∧ e 27 = .int .i64 (i : Nat) ∧ Ex h h' ∧ OwnG 1 (fun j => h.length ≤ j) h' (e 6) (ls.take i).flatten.length (flat eI (ls.take i).flatten)) ls.length
      ⟨0, Nat.zero_le _, rfl, rfl, rfl, rfl, x1, o1⟩ ?_
    clear e0 e3 e9 e10 e11 hmm hi q l0 o1 x1
    clear e i mm I v1 h1
    rintro I mm e h1 ⟨i, hi, hmm, e25, e26, e27, x1, o1⟩ ih
    rw [e25, e26, e27]
    refine w_lss (c_dec (fun q => ?_) (fun q => ?_))
    · obtain ⟨l, hl⟩ := getElem?_of_lt (l := ls) (i := i) (by omega)
      obtain ⟨w, hw, iw⟩ := hrow i l hl
      have e1 := tk i l hl
      have e2 := le (i + 1)
      have e4 := congrArg List.length e1
      rw [List.length_append] at e4
      refine idxV (hv.ex x1) hw fun z hz => w_rd1 hz rfl ?_
      have iw1 := Sl.ex iw x1
      refine appSl_sl iw1 (app_g (by decide) o1 (srcL_sl (by decide) iw1) (by rw [flat_eI_len]; omega) (by have := bigR; omega) fun v' h2 a1 a2 a3 a4 => ?_)
      refine w_add (by omega) (by omega) ?_
      refine ih (ls.length - (i + 1)) _ _ (by omega) ⟨i + 1, by omega, rfl, e25, e26, rfl, x1.below a2 fun j hj => a3 j (by have := x1.len; omega) fun hh => by have := (o1.on hh).1; omega, ?_⟩
      show OwnG 1 (fun j => h.length ≤ j) h2 v' _ _
      rw [e4, e1, flat_append]
      exact OwnG.mono a1 (fun j _ hj => hj.elim id fun e => by have := x1.len; show h.length ≤ j; omega) fun _ _ _ => rfl
    · have hall : ls.take i = ls := List.take_of_length_le (by omega)
      rw [hall] at o1
      exact k _ _ x1 o1
end Go.Proofs.Ytnpbehfhncbjfaa.W
end

section
/- Fold's laws: which states are reached. Conditions: none. -/
namespace Go.Proofs.Ytnpbehfhncbjfaa.W
open Go Go.AM FoldPM
set_option linter.unusedVariables false
set_option maxRecDepth 100000
theorem flat_eBo_set (l : List Bool) (i : Nat) (x : Bool) : (flat eBo l).set i (.bool x) = flat eBo (l.set i x) := by
  rw [flat_eBo, flat_eBo, List.map_set]
theorem flat_eBo_len (l : List Bool) : (flat eBo l).length = l.length := by rw [flat_eBo, List.length_map]
theorem flat_eBo_get {l : List Bool} {i : Nat} {x : Bool} (h : l[i]? = some x) : (flat eBo l)[i]? = some (.bool x) := by rw [flat_eBo, List.getElem?_map, h]; rfl
structure RS (M : PM) (bl0 bl : List Bool) : Prop where
  len : bl.length = M.n
  up : ∀ x : Nat, bl0[x]? = some true → bl[x]? = some true
  so : ∀ x : Nat, bl[x]? = some true → Rch M x
theorem _root_.Go.AM.Exx.set {i : Nat} {a b : AH} (x : Exx i a b) (o : AObj) : Exx i a (b.set i o) := ⟨by rw [List.length_set]; exact x.len, fun j hj hne => (get_ne (Ne.symm hne) _).trans (x.get j hj hne)⟩
theorem _root_.Go.AM.Exx.ofEx {a b : AH} (x : Ex a b) (i : Nat) : Exx i a b := ⟨x.len, fun j hj _ => x.get j hj⟩
theorem set_up {bl : List Bool} {q x : Nat} (h : bl[x]? = some true) : (bl.set q true)[x]? = some true := by
  by_cases e : q = x
  · subst e; rw [List.getElem?_set_self (List.getElem?_eq_some_iff.1 h).1]
  · rw [List.getElem?_set_ne e]; exact h
theorem RS.set {M : PM} {bl0 bl : List Bool} {q : Nat} (r : RS M bl0 bl) (hq : Rch M q) : RS M bl0 (bl.set q true) := by
  refine ⟨by rw [List.length_set]; exact r.len, fun x hx => set_up (r.up x hx), fun x hx => ?_⟩
  by_cases e : q = x
  · subst e; exact hq
  · rw [List.getElem?_set_ne e] at hx; exact r.so x hx
theorem reached45 {h h0 : AH} {u : MoV} {m : Mo} {bl0 : List Bool} {I p n : Nat} {K : Value → AH → Prop} (v : Valid m) (mh : MoH h0 u m) (x0 : Ex h0 h) (hI0 : h0.length ≤ I) (hI : h[I]? = some (.row (flat eBo bl0) true)) (hn : n = m.pm.n) (hp : Rch m.pm p) (rs0 : RS m.pm bl0 bl0)
    (k : ∀ h' bl, Exx I h h' → h'[I]? = some (.row (flat eBo bl) true) → RS m.pm bl0 bl → (∀ i, i < m.pm.pl → bl[m.pm.inn p i]? = some true) → (m.pm.of p = 0 → ∀ j, j < m.pm.cl → bl[m.pm.low p j]? = some true) →
      (m.pm.of p ≠ 0 → ∀ j, j < m.pm.cl → ∀ q : Nat, bl0[q]? = some true → bl[m.pm.ret p j q]? = some true) → K (.tuple #[]) h') :
    callW Try.prog 45 [.agg (moRow u m).toArray, .slice (some ⟨I, 0, none⟩) n n, .int .i64 (p : Nat)] h K := by
  subst hn
  have ok := v.ok
  have hpn := hp.lt ok
  refine c45 ?_
  unfold s45
  refine n_boxv rfl fun h1 x1 l1 g1 => ?_
  have g1' : h1[h.length]? = some (.row (moRow u m) true) := g1
  have xr := Ex.res h1
  have gr := xr.some g1'
  have m1 := mh.ex (x0.trans x1)
  obtain ⟨li, hli, lli, hin⟩ := v.inAt hpn
  obtain ⟨lo, hlo, lo1, lo2⟩ := v.lowAt hpn
  obtain ⟨re, hre, re1, re2⟩ := v.retAt hpn
  obtain ⟨vi, si, ri⟩ := m1.inn
  obtain ⟨wi, hwi, ii⟩ := ri p li hli
  obtain ⟨vl, sl, rl⟩ := m1.low
  obtain ⟨wl, hwl, il⟩ := rl p lo hlo
  refine w_offP (w_rdP gr (v := sv u.vi) rfl (idxV (si.ex xr) hwi fun z hz => w_rd1 hz rfl ?_))
  refine w_offP (w_rdP gr (v := sv u.vl) rfl (idxV (sl.ex xr) hwl fun z hz => w_rd1 hz rfl ?_))
  obtain ⟨ai, ni, ci, rfl⟩ := Sl.isSl ii
  obtain ⟨al, nl, cl, rfl⟩ := Sl.isSl il
  refine w_some (v := [.slice ai ni ci, .slice al nl cl]) (by simp [bldSl, fillL, repL, cellsL, Value.oneCell']) ?_
  refine n_res (n_newv fun h2 x2 l2 g2 => ?_)
  have x12 := x1.trans x2
  have lI := lt_of_get hI
  have pl2 := v.pl.2
  have cl2 := v.cl.2
  have hpl : ((m.pm.pl : Nat) : Int) = m.pl := Int.toNat_of_nonneg v.pl.1
  have hcl : ((m.pm.cl : Nat) : Int) = m.cl := Int.toNat_of_nonneg v.cl.1
  have n2 := v.n2
  have hnn : m.pm.n = m.Of.length := rfl
  have llo : lo.length ≤ 20 := by
    by_cases h0 : m.pm.of p = 0
    · have := (lo2 h0).1; omega
    · rw [lo1 h0]; exact Nat.zero_le _
  have rr : RowsR h2 (.slice (some ⟨h1.length, 0, none⟩) 2 2) [li, lo] := by
    refine ⟨[.slice ai ni ci, .slice al nl cl], ⟨rfl, .inr ⟨_, 0, _, rfl, .inl ⟨by decide, Nat.le_refl _⟩, .inr ⟨_, _, g2, Nat.le_refl _, rfl⟩⟩⟩, fun i l hl => ?_⟩
    match i with
    | 0 => cases hl; exact ⟨_, rfl, Sl.ex ii x2⟩
    | 1 => cases hl; exact ⟨_, rfl, Sl.ex il x2⟩
    | i + 2 => simp at hl
  have lll : (li ++ lo).length ≤ 40 := by rw [List.length_append]; omega
  have fl : [li, lo].flatten = li ++ lo := by simp
  refine conc57 rr (by rw [fl, List.length_append]; omega) (by show 2 ≤ 1000; omega) fun v23 h3 x3 o23 => ?_
  rw [fl] at o23
  refine w_len o23.sl ?_
  have x13 := x12.trans x3
  have g3 := (x2.trans x3).some g1'
  have hI3 := x13.some hI
  have m3 := m1.ex (x2.trans x3)
  have el : ∀ (a : Nat) (x : Int), (li ++ lo)[a]? = some x → ∃ q : Nat, x = (q : Nat) ∧ q < m.pm.n ∧ Rch m.pm q := fun a x hx => by
    by_cases ha : a < li.length
    · rw [List.getElem?_append_left ha] at hx
      have := hin a (by omega)
      rw [hx] at this
      have e := this.1
      injection e with e
      exact ⟨_, e, this.2.1, .inn hp (by omega)⟩
    · rw [List.getElem?_append_right (by omega)] at hx
      have hl := (List.getElem?_eq_some_iff.1 hx).1
      have h00 : m.pm.of p = 0 := by
        by_cases h0 : m.pm.of p = 0
        · exact h0
        · rw [lo1 h0] at hl; simp at hl
      have hla := (lo2 h00).1
      have := (lo2 h00).2 (a - li.length) (by omega)
      rw [hx] at this
      have e := this.1
      injection e with e
      exact ⟨_, e, this.2.1, .low hp h00 (by omega)⟩
  have lI3 := x13.lt lI
  refine loopE_intro (fun mm e h' => ∃ (i : Nat) (bl : List Bool), i ≤ (li ++ lo).length ∧ mm = (li ++ lo).length - i ∧ e 1 = .slice (some ⟨I, 0, none⟩) m.pm.n m.pm.n ∧ e 2 = .int .i64 (p : Nat) ∧ e 3 = .pointer (some ⟨h.length, 0, none⟩) ∧ e 23 = v23 ∧ e 24 = .int .i64 ((li ++ lo).length : Nat) ∧ e 25 = .int .i64 (i : Nat) ∧
      Exx I h3 h' ∧ h'[I]? = some (.row (flat eBo bl) true) ∧ RS m.pm bl0 bl ∧ ∀ (a q : Nat), a < i → (li ++ lo)[a]? = some ((q : Nat) : Int) → bl[q]? = some true) (li ++ lo).length
    ⟨0, bl0, Nat.zero_le _, rfl, rfl, rfl, rfl, rfl, rfl, rfl, Exx.refl _ _, hI3, rs0, fun a q ha => by omega⟩ ?_
  rintro J mm e h4 ⟨i, bl, hi, hmm, e1, e2, e3, e23, e24, e25, x4, hI4, rs, hall⟩ ih
  rw [e1, e23, e24, e25, e3, e2]
  have hne : h.length ≠ I := by omega
  have base : Ex h0 h3 := x0.trans x13
  have i23' : Ints h4 v23 (li ++ lo) := by
    refine (o23.mono (F' := fun _ => True) (fun _ _ _ => trivial) fun j hj hf => x4.get j (o23.on hj).2 ?_).sl
    have := x12.lt lI
    omega
  refine w_lss (c_dec (fun q => ?_) (fun q => ?_))
  · obtain ⟨x, hx⟩ := getElem?_of_lt (l := li ++ lo) (i := i) (by omega)
    obtain ⟨y, rfl, hy, ry⟩ := el i x hx
    refine w_idxN eI_len i23' hx fun z hz => w_rd1 hz rfl (w_ix hy (w_stP hI4 (by rw [flat_eBo_len, rs.len]; exact hy) rfl rfl ?_))
    rw [flat_eBo_set]
    refine w_add (by omega) (by omega) ?_
    refine ih ((li ++ lo).length - (i + 1)) _ _ (by omega) ⟨i + 1, bl.set y true, by omega, rfl, e1, e2, e3, e23, e24, rfl, x4.set _, get_set _ (lt_of_get hI4) _, rs.set ry, fun a q' ha hq' => ?_⟩
    by_cases ea : a = i
    · subst ea
      rw [hx] at hq'
      injection hq' with hq'
      have : q' = y := by omega
      subst this
      rw [List.getElem?_set_self (by rw [rs.len]; exact hy)]
    · exact set_up (hall a q' (by omega) hq')
  · have dn : ∀ (a q : Nat), (li ++ lo)[a]? = some ((q : Nat) : Int) → bl[q]? = some true := fun a q' ha => hall a q' (by have := (List.getElem?_eq_some_iff.1 ha).1; omega) ha
    have d1 : ∀ i, i < m.pm.pl → bl[m.pm.inn p i]? = some true := fun i hi => dn i _ (by rw [List.getElem?_append_left (by omega)]; exact (hin i hi).1)
    have d2 : m.pm.of p = 0 → ∀ j, j < m.pm.cl → bl[m.pm.low p j]? = some true := fun h00 j hj => dn (li.length + j) _ (by rw [List.getElem?_append_right (by omega), Nat.add_sub_cancel_left]; exact ((lo2 h00).2 j hj).1)
    have y4 : Ex h0 h4 := Exx.base base x4 hI0
    have g4 : h4[h.length]? = some (.row (moRow u m) true) := x4.some g3 hne
    have m4 := mh.ex y4
    obtain ⟨vr, sr, rr⟩ := mh.ret
    obtain ⟨wr, hwr, vs, svs, rvs⟩ := rr p re hre
    refine w_offP (w_rdP g4 (v := sv u.vr) rfl (idxV (sr.ex y4) hwr fun z hz => w_rd1 hz rfl (w_len svs ?_)))
    clear ih hall dn
    have lre : re.length ≤ 20 := by
      by_cases h0 : m.pm.of p = 0
      · rw [re1 h0]; exact Nat.zero_le _
      · have := (re2 h0).1; omega
    have rj : ∀ (j : Nat) (l : List Int), re[j]? = some l → m.pm.of p ≠ 0 ∧ j < m.pm.cl ∧ l.length = m.pm.n ∧ ∀ q, q < m.pm.n → l[q]? = some ((m.pm.ret p j q : Nat) : Int) ∧ m.pm.ret p j q < m.pm.n := fun j l hl => by
      have hj := (List.getElem?_eq_some_iff.1 hl).1
      have h0 : m.pm.of p ≠ 0 := fun h0 => by rw [re1 h0] at hj; simp at hj
      have hj' : j < m.pm.cl := by have := (re2 h0).1; omega
      obtain ⟨l', hl', ll, hq⟩ := (re2 h0).2 j hj'
      rw [hl] at hl'
      cases hl'
      exact ⟨h0, hj', ll, fun q hq' => ⟨(hq q hq').1, (hq q hq').2.1⟩⟩
    refine loopE_intro (fun mm e h' => ∃ (j : Nat) (b2 : List Bool), j ≤ re.length ∧ mm = re.length - j ∧ e 1 = .slice (some ⟨I, 0, none⟩) m.pm.n m.pm.n ∧ e 37 = wr ∧ e 38 = .int .i64 (re.length : Nat) ∧ e 39 = .int .i64 (j : Nat) ∧
        Exx I h4 h' ∧ h'[I]? = some (.row (flat eBo b2) true) ∧ RS m.pm bl b2 ∧ ∀ a, a < j → ∀ q : Nat, bl0[q]? = some true → b2[m.pm.ret p a q]? = some true) re.length
      ⟨0, bl, Nat.zero_le _, rfl, e1, rfl, rfl, rfl, Exx.refl _ _, hI4, ⟨rs.len, fun _ h => h, rs.so⟩, fun a ha => by omega⟩ ?_
    clear e1 e2 e3 e23 e24 e25 hmm hi q hz z
    clear e J mm i
    rintro J mm e h5 ⟨j, b2, hj, hmm, e1, e37, e38, e39, x5, hI5, rs2, hall⟩ ih
    rw [e37, e38, e39]
    have x05 : Ex h0 h5 := Exx.base base (x4.trans x5) hI0
    refine w_lss (c_dec (fun q => ?_) (fun q => ?_))
    · obtain ⟨l, hl⟩ := getElem?_of_lt (l := re) (i := j) (by omega)
      obtain ⟨hp0, hjc, ll, hlq⟩ := rj j l hl
      obtain ⟨w, hw, iw⟩ := rvs j l hl
      refine idxV (svs.ex x05) hw fun z hz => w_rd1 hz rfl (w_len iw ?_)
      rw [ll]
      refine loopE_intro (fun mm e' h' => ∃ (i : Nat) (b3 : List Bool), i ≤ m.pm.n ∧ mm = m.pm.n - i ∧ e' 1 = .slice (some ⟨I, 0, none⟩) m.pm.n m.pm.n ∧ e' 37 = wr ∧ e' 38 = .int .i64 (re.length : Nat) ∧ e' 39 = .int .i64 (j : Nat) ∧ e' 43 = w ∧ e' 44 = .int .i64 (m.pm.n : Nat) ∧ e' 45 = .int .i64 (i : Nat) ∧
          Exx I h5 h' ∧ h'[I]? = some (.row (flat eBo b3) true) ∧ RS m.pm b2 b3 ∧ ∀ q : Nat, q < i → bl0[q]? = some true → b3[m.pm.ret p j q]? = some true) m.pm.n
        ⟨0, b2, Nat.zero_le _, rfl, e1, e37, e38, e39, rfl, rfl, rfl, Exx.refl _ _, hI5, ⟨rs2.len, fun _ h => h, rs2.so⟩, fun q' hq' => by omega⟩ ?_
      rintro J2 mm2 e' h6 ⟨i, b3, hi, hmm2, f1, f37, f38, f39, f43, f44, f45, x6, hI6, rs3, hq3⟩ ih2
      rw [f43, f44, f45, f1, f39]
      have iw6 : Ints h6 w l := Sl.ex iw (Exx.base base (x4.trans (x5.trans x6)) hI0)
      refine w_lss (c_dec (fun q2 => ?_) (fun q2 => ?_))
      · obtain ⟨hl1, hl2⟩ := hlq i (by omega)
        obtain ⟨b, hb⟩ := getElem?_of_lt (l := b3) (i := i) (by rw [rs3.len]; omega)
        refine w_idxN eI_len iw6 hl1 fun z hz => w_rd1 hz rfl (w_ix (by omega) (w_rdP hI6 (flat_eBo_get hb) ?_))
        have next : ∀ (e2 : Env) (h' : AH) (b4 : List Bool), e2 1 = .slice (some ⟨I, 0, none⟩) m.pm.n m.pm.n → e2 37 = wr → e2 38 = .int .i64 (re.length : Nat) → e2 39 = .int .i64 (j : Nat) → e2 43 = w → e2 44 = .int .i64 (m.pm.n : Nat) → e2 45 = .int .i64 ((i : Int) + 1) →
            Exx I h5 h' → h'[I]? = some (.row (flat eBo b4) true) → RS m.pm b2 b4 → (∀ x : Nat, b3[x]? = some true → b4[x]? = some true) → (bl0[i]? = some true → b4[m.pm.ret p j i]? = some true) → J2 e2 h' :=
          fun e2 h' b4 t1 t2 t3 t4 t5 t6 t7 y hIb rs4 up4 new => ih2 (m.pm.n - (i + 1)) _ _ (by omega) ⟨i + 1, b4, by omega, rfl, t1, t2, t3, t4, t5, t6, t7, y, hIb, rs4, fun q' hq' hb' => by
            by_cases eq : q' = i
            · subst eq; exact new hb'
            · exact up4 _ (hq3 q' (by omega) hb')⟩
        cases b with
        | true =>
          refine c_t (w_ix hl2 (w_stP hI6 (by rw [flat_eBo_len, rs3.len]; exact hl2) rfl rfl ?_))
          rw [flat_eBo_set]
          refine w_add (by omega) (by omega) ?_
          exact next _ _ _ f1 f37 f38 f39 f43 f44 rfl (x6.set _) (get_set _ (lt_of_get hI6) _) (rs3.set (.ret hp (rs3.so i hb) hp0 hjc)) (fun x hx => set_up hx) fun _ => by rw [List.getElem?_set_self (by rw [rs3.len]; exact hl2)]
        | false =>
          refine c_f (w_add (by omega) (by omega) ?_)
          refine next _ _ b3 f1 f37 f38 f39 f43 f44 rfl x6 hI6 rs3 (fun _ h => h) fun hb' => ?_
          have := rs3.up i (rs2.up i (rs.up i hb'))
          rw [hb] at this
          cases this
      · refine w_add (by omega) (by omega) ?_
        refine ih (re.length - (j + 1)) _ _ (by omega) ⟨j + 1, b3, by omega, rfl, f1, f37, f38, rfl, x5.trans x6, hI6, ⟨rs3.len, fun x hx => rs3.up x (rs2.up x hx), rs3.so⟩, fun a ha q' hq' => ?_⟩
        by_cases ea : a = j
        · subst ea
          exact hq3 q' (by have := (List.getElem?_eq_some_iff.1 (rs3.up _ (rs2.up _ (rs.up _ hq')))).1; have := rs3.len; omega) hq'
        · exact rs3.up _ (hall a (by omega) q' hq')
    · exact k h5 b2 ((Exx.ofEx x13 I).trans (x4.trans x5)) hI5 ⟨rs2.len, fun x hx => rs2.up x (rs.up x hx), rs2.so⟩ (fun i hi => rs2.up _ (d1 i hi)) (fun h00 j hj => rs2.up _ (d2 h00 j hj)) fun h00 a ha q' hq' => hall a (by have := (re2 h00).1; omega) q' hq'
end Go.Proofs.Ytnpbehfhncbjfaa.W
end

section
/- Fold's laws: the code's Reached. Conditions: none. -/
namespace Go.Proofs.Ytnpbehfhncbjfaa.W
open Go Go.AM FoldPM
set_option linter.unusedVariables false
set_option maxRecDepth 100000
def Up (a b : List Bool) : Prop := ∀ x : Nat, a[x]? = some true → b[x]? = some true
theorem Up.tail {x y : Bool} {a b : List Bool} (h : Up (x :: a) (y :: b)) : Up a b := fun i hi => by have := h (i + 1) (by simpa using hi); simpa using this
theorem cnt_le : ∀ (a b : List Bool), a.length = b.length → Up a b → a.countP id ≤ b.countP id
  | [], [], _, _ => Nat.le_refl _
  | [], _ :: _, h, _ => by simp at h
  | _ :: _, [], h, _ => by simp at h
  | x :: a, y :: b, hl, h => by
    have ih := cnt_le a b (by simpa using hl) h.tail
    have h0 := h 0
    simp only [List.countP_cons]
    cases x <;> cases y <;> simp_all <;> omega
theorem cnt_lt : ∀ (a b : List Bool), a.length = b.length → Up a b → a ≠ b → a.countP id < b.countP id
  | [], [], _, _, n => absurd rfl n
  | [], _ :: _, h, _, _ => by simp at h
  | _ :: _, [], h, _, _ => by simp at h
  | x :: a, y :: b, hl, h, n => by
    have hl' : a.length = b.length := by simpa using hl
    have il := cnt_le a b hl' h.tail
    have h0 := h 0
    simp only [List.countP_cons]
    cases x <;> cases y
    · have := cnt_lt a b hl' h.tail (fun e => n (by rw [e])); simpa using this
    · simp; omega
    · simp at h0
    · have := cnt_lt a b hl' h.tail (fun e => n (by rw [e])); simpa using this
theorem up_eq {a b : List Bool} (hl : a.length = b.length) (h : Up a b) (k : Up b a) : a = b := by
  by_cases e : a = b
  · exact e
  · have := cnt_lt a b hl h e
    have := cnt_le b a hl.symm k
    omega
def Clo (M : PM) (bl : List Bool) (p : Nat) : Prop := (∀ i, i < M.pl → bl[M.inn p i]? = some true) ∧ (M.of p = 0 → ∀ j, j < M.cl → bl[M.low p j]? = some true) ∧ (M.of p ≠ 0 → ∀ j, j < M.cl → ∀ q : Nat, bl[q]? = some true → bl[M.ret p j q]? = some true)
def Full (M : PM) (bl : List Bool) : Prop := ∀ x, Rch M x → bl[x]? = some true
theorem full_of {M : PM} {bl : List Bool} (he : ∀ c, c < M.k → bl[M.en c]? = some true) (hc : ∀ p : Nat, bl[p]? = some true → Clo M bl p) : Full M bl := by
  intro x h
  induction h with
  | en h => exact he _ h
  | inn _ hi ih => exact (hc _ ih).1 _ hi
  | low _ h0 hj ih => exact (hc _ ih).2.1 h0 _ hj
  | ret _ _ h0 hj i1 i2 => exact (hc _ i1).2.2 h0 _ hj _ i2
theorem repL_false (k : Nat) : repL [.bool false] k = flat eBo (List.replicate k false) := by
  rw [repL_map, flat_eBo, List.map_replicate, List.map_const', List.length_range]
theorem reached20 {h : AH} {u : MoV} {m : Mo} {K : Value → AH → Prop} (mh : MoH h u m) (kf : ¬ Valid m → ∀ h', Ex h h' → K (.slice none 0 0) h')
    (kt : Valid m → ∀ h' I bl, Ex h h' → h.length ≤ I → h'[I]? = some (.row (flat eBo bl) true) → bl.length = m.pm.n → (∀ x : Nat, bl[x]? = some true ↔ Rch m.pm x) → K (.slice (some ⟨I, 0, none⟩) m.pm.n m.pm.n) h') : callW Try.prog 20 [.agg (moRow u m).toArray] h K := by
  refine c20 ?_
  unfold s20
  refine n_boxv rfl fun h1 x1 l1 g1 => ?_
  have g1' : h1[h.length]? = some (.row (moRow u m) true) := g1
  refine w_rdPA g1' (Nat.le_refl 8) ?_
  refine check15 (mh.ex x1) (fun nv h2 x2 => w_neq (c_tt (by decide) (kf nv _ (x1.trans x2)))) fun v h2 x2 => w_neq (c_ff (by decide) ?_)
  have ok := v.ok
  have x02 := x1.trans x2
  have g2 := x2.some g1'
  have m2 := mh.ex x02
  have n2 := v.n2
  have k2 := v.k2
  have hnn : m.pm.n = m.Of.length := rfl
  have hkk : m.pm.k = m.En.length := rfl
  refine w_offP (w_rdP g2 (v := sv u.vo) rfl (w_len m2.of (w_mk1 (by decide) (by omega) ?_)))
  refine n_newv fun h3 x3 l3 g3 => ?_
  have g3' : h3[h2.length]? = some (.row (flat eBo (List.replicate m.pm.n false)) true) := by rw [← repL_false]; exact g3
  refine w_offP (w_rdP (x3.some g2) (v := sv u.ve) rfl (w_len m2.en ?_))
  refine loopE_intro (fun mm e h' => ∃ (i : Nat) (bl : List Bool), i ≤ m.pm.k ∧ mm = m.pm.k - i ∧ e 1 = .pointer (some ⟨h.length, 0, none⟩) ∧ e 3 = .slice (some ⟨h2.length, 0, none⟩) m.pm.n m.pm.n ∧ e 15 = sv u.ve ∧ e 16 = .int .i64 (m.pm.k : Nat) ∧ e 17 = .int .i64 (i : Nat) ∧
      Ex h2 h' ∧ h'[h2.length]? = some (.row (flat eBo bl) true) ∧ RS m.pm bl bl ∧ ∀ c, c < i → bl[m.pm.en c]? = some true) m.pm.k
    ⟨0, _, Nat.zero_le _, rfl, rfl, rfl, rfl, rfl, rfl, x3, g3', ⟨List.length_replicate, fun _ h => h, fun x hx => by rw [List.getElem?_replicate] at hx; split at hx <;> simp at hx⟩, fun c hc => by omega⟩ ?_
  rintro J mm e h4 ⟨i, bl, hi, hmm, e1, e3, e15, e16, e17, x4, hI, rs, hall⟩ ih
  rw [e15, e16, e17, e3]
  refine w_lss (c_dec (fun q => ?_) (fun q => ?_))
  · have hx := v.enAt (c := i) (by omega)
    refine w_idxN eI_len (m2.ex x4).en hx.1 fun z hz => w_rd1 hz rfl (w_ix hx.2.1 (w_stP hI (by rw [flat_eBo_len, rs.len]; exact hx.2.1) rfl rfl ?_))
    rw [flat_eBo_set]
    refine w_add (by omega) (by omega) ?_
    have rs' := rs.set (q := m.pm.en i) (.en (by omega))
    refine ih (m.pm.k - (i + 1)) _ _ (by omega) ⟨i + 1, bl.set (m.pm.en i) true, by omega, rfl, e1, e3, e15, e16, rfl, x4.set (Nat.le_refl _) _, get_set _ (lt_of_get hI) _, ⟨rs'.len, fun _ h => h, rs'.so⟩, fun c hc => ?_⟩
    by_cases ec : c = i
    · subst ec; rw [List.getElem?_set_self (by rw [rs.len]; exact hx.2.1)]
    · exact set_up (hall c (by omega))
  · have hall' : ∀ c, c < m.pm.k → bl[m.pm.en c]? = some true := fun c hc => hall c (by omega)
    have c1 : 1 ≤ bl.countP id := by
      have := List.one_le_countP_iff (p := id) (l := bl)
      exact this.2 ⟨true, List.mem_of_getElem? (hall' 0 ok.k1), rfl⟩
    refine w_lenSl ?_
    clear ih hall
    refine loopE_intro (fun mm e h' => ∃ (r : Nat) (bl : List Bool), r ≤ m.pm.n ∧ mm = m.pm.n - r ∧ e 1 = .pointer (some ⟨h.length, 0, none⟩) ∧ e 3 = .slice (some ⟨h2.length, 0, none⟩) m.pm.n m.pm.n ∧ e 26 = .int .i64 (m.pm.n : Nat) ∧ e 27 = .int .i64 (r : Nat) ∧
        Ex h2 h' ∧ h'[h2.length]? = some (.row (flat eBo bl) true) ∧ RS m.pm bl bl ∧ (∀ c, c < m.pm.k → bl[m.pm.en c]? = some true) ∧ (Full m.pm bl ∨ r + 1 ≤ bl.countP id)) m.pm.n
      ⟨0, bl, Nat.zero_le _, rfl, e1, e3, rfl, rfl, x4, hI, rs, hall', .inr c1⟩ ?_
    clear e1 e3 e15 e16 e17 hmm hi q x4 hI rs hall' c1
    clear e J mm i bl h4
    rintro J mm e h4 ⟨r, bl1, hr, hmm, e1, e3, e26, e27, x4, hI, rs, hen, hfc⟩ ih
    rw [e26, e27, e3]
    refine w_lss (c_dec (fun q => ?_) (fun q => ?_))
    · refine w_lenSl ?_
      refine loopE_intro (fun mm e' h' => ∃ (p : Nat) (bl : List Bool), p ≤ m.pm.n ∧ mm = m.pm.n - p ∧ e' 1 = .pointer (some ⟨h.length, 0, none⟩) ∧ e' 3 = .slice (some ⟨h2.length, 0, none⟩) m.pm.n m.pm.n ∧ e' 26 = .int .i64 (m.pm.n : Nat) ∧ e' 27 = .int .i64 (r : Nat) ∧ e' 30 = .int .i64 (m.pm.n : Nat) ∧ e' 31 = .int .i64 (p : Nat) ∧
          Ex h2 h' ∧ h'[h2.length]? = some (.row (flat eBo bl) true) ∧ RS m.pm bl1 bl ∧ (bl = bl1 → ∀ p', p' < p → bl1[p']? = some true → Clo m.pm bl1 p')) m.pm.n
        ⟨0, bl1, Nat.zero_le _, rfl, e1, e3, e26, e27, rfl, rfl, x4, hI, rs, fun _ p' hp' => by omega⟩ ?_
      rintro J2 mm2 e' h5 ⟨p, bl, hp, hmm2, f1, f3, f26, f27, f30, f31, x5, hI5, rs2, hcl⟩ ih2
      rw [f30, f31, f3, f1, f27]
      refine w_lss (c_dec (fun q2 => ?_) (fun q2 => ?_))
      · obtain ⟨b, hb⟩ := getElem?_of_lt (l := bl) (i := p) (by rw [rs2.len]; omega)
        refine w_ix (by omega) (w_rdP hI5 (flat_eBo_get hb) ?_)
        have next : ∀ (e2 : Env) (h' : AH) (b4 : List Bool), e2 1 = .pointer (some ⟨h.length, 0, none⟩) → e2 3 = .slice (some ⟨h2.length, 0, none⟩) m.pm.n m.pm.n → e2 26 = .int .i64 (m.pm.n : Nat) → e2 27 = .int .i64 (r : Nat) → e2 30 = .int .i64 (m.pm.n : Nat) → e2 31 = .int .i64 ((p : Int) + 1) →
            Ex h2 h' → h'[h2.length]? = some (.row (flat eBo b4) true) → RS m.pm bl b4 → (b4 = bl → bl[p]? = some true → Clo m.pm bl p) → J2 e2 h' :=
          fun e2 h' b4 t1 t2 t3 t4 t5 t6 y hIb rs4 new => ih2 (m.pm.n - (p + 1)) _ _ (by omega) ⟨p + 1, b4, by omega, rfl, t1, t2, t3, t4, t5, t6, y, hIb, ⟨rs4.len, fun x hx => rs4.up x (rs2.up x hx), rs4.so⟩, fun eb p' hp' hb' => by
            have e0 : bl = bl1 := up_eq (by rw [rs2.len, rs.len]) (fun x hx => eb ▸ rs4.up x hx) (fun x hx => rs2.up x hx)
            by_cases ep : p' = p
            · subst ep
              rw [← e0]
              exact new (eb.trans e0.symm) (e0 ▸ hb')
            · exact hcl e0 p' (by omega) hb'⟩
        cases b with
        | true =>
          refine c_t (w_rdPA (x5.some g2) (Nat.le_refl 8) ?_)
          refine reached45 (h0 := h2) v m2 x5 (Nat.le_refl _) hI5 rfl (rs2.so p hb) ⟨rs2.len, fun _ h => h, rs2.so⟩ fun h6 b4 y hI6 rs4 d1 d2 d3 => ?_
          refine w_add (by omega) (by omega) ?_
          refine next _ _ b4 f1 f3 f26 f27 f30 rfl (Exx.base x5 y (Nat.le_refl _)) hI6 rs4 fun eb _ => ?_
          rw [eb] at d1 d2 d3
          exact ⟨d1, d2, d3⟩
        | false =>
          refine c_f (w_add (by omega) (by omega) ?_)
          refine next _ _ bl f1 f3 f26 f27 f30 rfl x5 hI5 ⟨rs2.len, fun _ h => h, rs2.so⟩ fun _ hb' => ?_
          rw [hb] at hb'
          cases hb'
      · refine w_add (by omega) (by omega) ?_
        refine ih (m.pm.n - (r + 1)) _ _ (by omega) ⟨r + 1, bl, by omega, rfl, f1, f3, f26, rfl, x5, hI5, ⟨rs2.len, fun _ h => h, rs2.so⟩, fun c hc => rs2.up _ (hen c hc), ?_⟩
        by_cases eb : bl = bl1
        · left
          rw [eb]
          exact full_of hen fun p' hp' => hcl eb p' (by have := (List.getElem?_eq_some_iff.1 hp').1; have := rs.len; omega) hp'
        · rcases hfc with hf | hc
          · left
            exact fun x hx => rs2.up x (hf x hx)
          · right
            have := cnt_lt bl1 bl (by rw [rs2.len, rs.len]) rs2.up (fun e => eb e.symm)
            omega
    · have hF : Full m.pm bl1 := by
        rcases hfc with hf | hc
        · exact hf
        · have := List.countP_le_length (p := id) (l := bl1)
          have := rs.len
          omega
      exact kt v _ _ bl1 (x02.trans x4) (by have := x02.len; omega) hI rs.len fun x => ⟨fun hx => rs.so x hx, fun hx => hF x hx⟩
end Go.Proofs.Ytnpbehfhncbjfaa.W
end

section
/- Fold's laws: classes are parted: a step. Conditions: none. -/
namespace Go.Proofs.Ytnpbehfhncbjfaa.W
open Go Go.AM FoldPM
set_option linter.unusedVariables false
set_option maxRecDepth 100000
def eArr (x : Int × Int) : Value := .agg #[.int .i64 x.1, .int .i64 x.2]
theorem keyA0 (a b c d : Int) : keyEq Try.prog 80 (eArr (a, b)) (eArr (c, d)) = sameScals [.int .i64 a, .int .i64 b] [.int .i64 c, .int .i64 d] := by kernel_rfl
theorem same2 (a b c d : Int) : sameScals [.int .i64 a, .int .i64 b] [.int .i64 c, .int .i64 d] = some (decide (a = c ∧ b = d)) := by
  simp only [sameScals, sameScal, if_true]
  by_cases h1 : a = c
  · subst h1
    by_cases h2 : b = d
    · subst h2; simp
    · rw [beq_false_of_ne h2]; simp [h2]
  · rw [beq_false_of_ne h1]; simp [h1]
theorem keyA : KeyOK Try.prog 80 eArr := by
  rintro ⟨a, b⟩ ⟨c, d⟩
  rw [keyA0, same2]
  congr 1
  simp only [Prod.mk.injEq]
theorem und83 : Try.prog.underlying 83 = some (.map 80 3) := by kernel_rfl
theorem zer3 : zeroV Try.prog 3 = some (.int .i64 0) := by kernel_rfl
theorem lookup_ok {α : Type} [DecidableEq α] {P : Program} {t kt et : TypeId} {enc : α → Value} {z : Value} (ht : P.underlying t = some (.map kt et)) (hz : zeroV P et = some z) (hk : KeyOK P kt enc) {h : AH} {id : Nat} {l : List (MEnt α)} {ck : Nat} {x : α} {K : Value → Prop}
    (hm : h[id]? = some (.map (encE enc l) ck)) (k1 : ∀ t ∈ l, t.1 = x → K (.tuple #[t.2.1, .bool true])) (k2 : (∀ t ∈ l, t.1 ≠ x) → K (.tuple #[z, .bool false])) : optW (pLookup P t (.map (some id)) (enc x) true h) K := by
  unfold pLookup
  simp only [ht, hz, entsOf, hm]
  rw [if_pos (hk.self x), findL_enc hk]
  cases hf : findE x l 0 with
  | none => exact k2 (findE_none hf)
  | some r =>
    obtain ⟨j, v⟩ := r
    obtain ⟨_, n, hj⟩ := findE_some hf
    exact k1 _ (List.mem_of_getElem? hj) rfl
structure ExF (F : Nat → Prop) (a b : AH) : Prop where
  len : a.length ≤ b.length
  get : ∀ j, j < a.length → ¬ F j → b[j]? = a[j]?
theorem ExF.refl (F : Nat → Prop) (a : AH) : ExF F a a := ⟨Nat.le_refl _, fun _ _ _ => rfl⟩
theorem ExF.trans {F : Nat → Prop} {a b c : AH} (x : ExF F a b) (y : ExF F b c) : ExF F a c := ⟨Nat.le_trans x.len y.len, fun j hj hf => (y.get j (Nat.lt_of_lt_of_le hj x.len) hf).trans (x.get j hj hf)⟩
theorem ExF.ex {F : Nat → Prop} {a b : AH} (x : Ex a b) : ExF F a b := ⟨x.len, fun j hj _ => x.get j hj⟩
theorem ExF.set {F : Nat → Prop} {a b : AH} {i : Nat} (x : ExF F a b) (hi : F i) (o : AObj) : ExF F a (b.set i o) := ⟨by rw [List.length_set]; exact x.len, fun j hj hf => (get_ne (by intro e; subst e; exact hf hi) _).trans (x.get j hj hf)⟩
theorem ExF.base {F : Nat → Prop} {h a b : AH} (x : Ex h a) (y : ExF F a b) (hF : ∀ j, F j → h.length ≤ j) : Ex h b := ⟨Nat.le_trans x.len y.len, fun j hj => (y.get j (x.lt hj) fun hf => by have := hF j hf; omega).trans (x.get j hj)⟩
theorem ExF.some {F : Nat → Prop} {a b : AH} (x : ExF F a b) {j : Nat} {o : AObj} (h : a[j]? = some o) (hj : ¬ F j) : b[j]? = some o := (x.get j (lt_of_get h) hj).trans h
theorem ExF.new {F : Nat → Prop} {a b : AH} {i : Nat} (x : ExF F a b) (hi : a.length ≤ i) (o : AObj) : ExF F a (b.set i o) := ⟨by rw [List.length_set]; exact x.len, fun j hj hf => (get_ne (by omega) _).trans (x.get j hj hf)⟩
structure Part (h : AH) (X C : Nat) (u : MoV) (m : Mo) (vis vc : Value) (c : List Int) (cnt : Nat) : Prop where
  row : h[X]? = some (.row (moRow u m ++ [vis, vc, .int .i64 (cnt : Nat)]) true)
  cls : OwnG 1 (fun j => j = C) h vc c.length (flat eI c)
  ne : C ≠ X
def XC (X C : Nat) (j : Nat) : Prop := j = X ∨ j = C
theorem Part.ex {h h' : AH} {X C : Nat} {u : MoV} {m : Mo} {vis vc : Value} {c : List Int} {cnt : Nat} (p : Part h X C u m vis vc c cnt) (x : Ex h h') : Part h' X C u m vis vc c cnt :=
  ⟨x.some p.row, p.cls.mono (fun _ _ h => h) fun j hj _ => x.get j (p.cls.on hj).2, p.ne⟩
theorem getD_some {c : List Int} {p : Nat} {x : Int} (h : c[p]? = some x) : c.getD p 0 = x := by rw [List.getD_eq_getElem?_getD, h]; rfl
theorem split52 {h : AH} {X C : Nat} {u : MoV} {m : Mo} {vis vc f : Value} {c : List Int} {cnt cnt0 n : Nat} {R : Nat → Prop} {S : Nat → Nat → Prop} {b : Nat → Int} {K : Value → AH → Prop} (P : Part h X C u m vis vc c cnt0) (Ca : Canon n R S c cnt) (hn : n ≤ 60)
    (rf : ∀ a, S a a) (sy : ∀ a b, S a b → S b a) (tr : ∀ a b c, S a b → S b c → S a c)
    (hf : ∀ (h' : AH) (p : Nat) (K' : Value → AH → Prop), ExF (XC X C) h h' → p < n → R p → K' (.int .i64 (b p)) h' → callV (callW Try.prog) f [.int .i64 (p : Nat)] h' K')
    (k : ∀ h' c' cnt', ExF (XC X C) h h' → Part h' X C u m vis vc c' cnt' → Canon n R (fun p q => S p q ∧ b p = b q) c' cnt' → K (.tuple #[]) h') :
    callW Try.prog 52 [.pointer (some ⟨X, 0, none⟩), f] h K := by
  refine c52 ?_
  unfold s52
  refine n_map0 fun h1 x1 l1 g1 => ?_
  have P1 := P.ex x1
  have lX := lt_of_get P.row
  have hcl := Ca.len
  refine w_nilc (w_offP (w_rdP P1.row (v := vc) rfl (w_len P1.cls.sl ?_)))
  let S' : Nat → Nat → Prop := fun p q => S p q ∧ b p = b q
  have rf' : ∀ a, S' a a := fun a => ⟨rf a, rfl⟩
  have sy' : ∀ a b, S' a b → S' b a := fun a b h => ⟨sy _ _ h.1, h.2.symm⟩
  have tr' : ∀ a b c, S' a b → S' b c → S' a c := fun a b c h k => ⟨tr _ _ _ h.1 k.1, h.2.trans k.2⟩
  refine loopE_intro (fun mm e h' => ∃ (p cnt' ck : Nat) (c' : List Int) (l : List (MEnt (Int × Int))), p ≤ n ∧ mm = n - p ∧ e 0 = .pointer (some ⟨X, 0, none⟩) ∧ e 1 = f ∧ e 4 = .map (some h.length) ∧ e 5 = .int .i64 (cnt' : Nat) ∧ e 15 = vc ∧ e 16 = .int .i64 (n : Nat) ∧ e 17 = .int .i64 (p : Nat) ∧
      ExF (XC X C) h h' ∧ h'[X]? = some (.row (moRow u m ++ [vis, vc, .int .i64 (cnt0 : Nat)]) true) ∧ OwnG 1 (fun j => j = C) h' vc n (flat eI (c' ++ c.drop p)) ∧ Canon p R S' c' cnt' ∧
      h'[h.length]? = some (.map (encE eArr l) ck) ∧ (l.Pairwise fun t u => t.1 ≠ u.1) ∧ (∀ t ∈ l, ∃ q, q < p ∧ R q ∧ t.1 = (c.getD q 0, b q) ∧ t.2.1 = .int .i64 (c'.getD q 0)) ∧ (∀ q, q < p → R q → ∃ t ∈ l, t.1 = (c.getD q 0, b q))) n
    ⟨0, 0, 0, [], [], Nat.zero_le _, rfl, rfl, rfl, rfl, rfl, rfl, by rw [← hcl]; rfl, rfl, .ex x1, P1.row, by rw [List.nil_append, List.drop_zero, ← hcl]; exact P1.cls, Canon.nil _ _, g1, .nil, fun t ht => (by cases ht), fun q hq => (by omega)⟩ ?_
  rintro I mm e h2 ⟨p, cnt', ck, c', l, hp, hmm, e0, e1, e4, e5, e15, e16, e17, x2, rX, oC, Cn, gM, pw, ml, mr⟩ ih
  rw [e15, e16, e17, e0, e1, e4, e5]
  have hl' := Cn.len
  refine w_lss (c_dec (fun q => ?_) (fun q => ?_))
  · have hpn : p < n := by omega
    obtain ⟨x, hx⟩ := getElem?_of_lt (l := c) (i := p) (by omega)
    have hd : c.drop p = x :: c.drop (p + 1) := by
      rw [List.drop_eq_getElem_cons (by omega : p < c.length), ← (List.getElem?_eq_some_iff.1 hx).2]
    have hxx : (c' ++ c.drop p)[p]? = some x := by rw [List.getElem?_append_right (by omega), hl', Nat.sub_self, hd]; rfl
    have oI : Ints h2 vc (c' ++ c.drop p) := by
      have := oC.sl
      have e : (c' ++ c.drop p).length = n := by rw [List.length_append, List.length_drop]; omega
      unfold Ints SlT
      rw [e]
      exact this
    have cx := Ca.le
    have c'n := Cn.le
    refine w_idxN eI_len oI hxx fun z hz => w_rd1 hz rfl (w_lss (c_dec (fun q1 => ?_) (fun q1 => ?_)))
    · have nr : ¬ R p := fun r => by
        obtain ⟨d, _, hd'⟩ := Ca.re p hpn r
        rw [hx] at hd'
        cases hd'
        omega
      have hm1 := Ca.un p hpn nr
      rw [hx] at hm1
      cases hm1
      refine w_add (by omega) (by omega) ?_
      have e1' : c' ++ c.drop p = (c' ++ [-1]) ++ c.drop (p + 1) := by rw [hd]; simp
      refine ih (n - (p + 1)) _ _ (by omega) ⟨p + 1, cnt', ck, c' ++ [-1], l, by omega, rfl, e0, e1, e4, e5, e15, e16, rfl, x2, rX, by rw [← e1']; exact oC, Cn.out nr, gM, pw, fun t ht => ?_, fun q' hq' rq => ?_⟩
      · obtain ⟨q', h1, h2, h3, h4⟩ := ml t ht
        exact ⟨q', by omega, h2, h3, by rw [h4]; congr 1; rw [List.getD_eq_getElem?_getD, List.getD_eq_getElem?_getD, get_snoc hl' h1]⟩
      · have : q' ≠ p := fun e => nr (e ▸ rq)
        exact mr q' (by omega) rq
    · have rp : R p := by
        by_cases r : R p
        · exact r
        · have := Ca.un p hpn r
          rw [hx] at this
          cases this
          omega
      refine hf h2 p _ x2 hpn rp ?_
      refine w_some (v := eArr (x, b p)) rfl ?_
      refine n_var rfl rfl rfl fun h3 x3 l3 g3 => ?_
      refine w_rdPA g3 (Nat.le_refl 2) ?_
      have cpx : c.getD p 0 = x := getD_some hx
      have l2 : h.length < h2.length := lt_of_get gM
      have store : ∀ (y d' : Nat) (l' : List (MEnt (Int × Int))) (ck' : Nat) (h4 : AH) (e' : Value → Value → Env), ExF (XC X C) h h4 → h4[X]? = some (.row (moRow u m ++ [vis, vc, .int .i64 (cnt0 : Nat)]) true) → OwnG 1 (fun j => j = C) h4 vc n (flat eI (c' ++ c.drop p)) →
          Canon (p + 1) R S' (c' ++ [(y : Int)]) d' → h4[h.length]? = some (.map (encE eArr l') ck') → (l'.Pairwise fun t u => t.1 ≠ u.1) → (∀ t ∈ l', ∃ q, q < p + 1 ∧ R q ∧ t.1 = (c.getD q 0, b q) ∧ t.2.1 = .int .i64 ((c' ++ [(y : Int)]).getD q 0)) → (∀ q, q < p + 1 → R q → ∃ t ∈ l', t.1 = (c.getD q 0, b q)) →
          (∀ v w, e' v w 0 = .pointer (some ⟨X, 0, none⟩) ∧ e' v w 1 = f ∧ e' v w 4 = .map (some h.length) ∧ e' v w 5 = .int .i64 (d' : Nat) ∧ e' v w 15 = vc ∧ e' v w 16 = .int .i64 (n : Nat) ∧ e' v w 17 = w) →
          optW (pIdxS 1 vc (.int .i64 (p : Nat))) fun v => optW (pStore 1 v (.int .i64 (y : Nat)) h4) fun h5 => optW (pBin Try.prog .add 3 (.int .i64 (p : Nat)) (.int .i64 1)) fun w => I (e' v w) h5 := by
        intro y d' l' ck' h4 e' x4 rX4 oC4 Cn4 gM4 pw4 ml4 mr4 he
        refine w_stG (K := fun v h5 => optW (pBin Try.prog .add 3 (.int .i64 (p : Nat)) (.int .i64 1)) fun w => I (e' v w) h5) oC4 hpn rfl rfl fun v h5 a1 a2 a3 => ?_
        refine w_add (by omega) (by omega) ?_
        obtain ⟨t0, t1, t4, t5, t15, t16, t17⟩ := he v (.int .i64 ((p : Int) + 1))
        have nM : ∀ j, j ≠ C → h5[j]? = h4[j]? := fun j hj => a3 j fun hh => hj (oC4.on hh).1
        have lC := P.ne
        have hC : C ≠ h.length := fun e => by
          have hon : ∃ j, onId vc j := by
            obtain ⟨_, ⟨_, h0⟩ | ⟨id, cc, hid, hv, _⟩⟩ := P.cls
            · omega
            · exact ⟨id, by rw [hv]; exact rfl⟩
          obtain ⟨j, hj⟩ := hon
          have h1 := P.cls.on hj
          have : j = C := h1.1
          omega
        refine ih (n - (p + 1)) _ _ (by omega) ⟨p + 1, d', ck', c' ++ [(y : Int)], l', by omega, rfl, t0, t1, t4, t5, t15, t16, t17, ⟨by rw [a2]; exact x4.len, fun j hj hf' => (nM j fun e => hf' (.inr e)).trans (x4.get j hj hf')⟩, (nM X (Ne.symm lC)).trans rX4, ?_, Cn4, (nM _ (Ne.symm hC)).trans gM4, pw4, ml4, mr4⟩
        have e6 : flat eI ((c' ++ [(y : Int)]) ++ c.drop (p + 1)) = (flat eI (c' ++ c.drop p)).set p (.int .i64 (y : Nat)) := by
          rw [flat_eI_set, hd]
          congr 1
          rw [List.set_append_right _ _ (by omega), hl', Nat.sub_self]
          simp
        rw [e6]
        exact a1
      have x3' : ExF (XC X C) h h3 := x2.trans (.ex x3)
      have oC3 := oC.mono (F' := fun j => j = C) (h' := h3) (fun _ _ h => h) fun j hj _ => x3.get j (oC.on hj).2
      refine lookup_ok (enc := eArr) (x := (x, b p)) und83 zer3 keyA (x3.some gM) (fun t ht hk => ?_) (fun hno => ?_)
      · obtain ⟨q', hq', rq, t1, t2⟩ := ml t ht
        refine w_some (v := t.2.1) rfl (w_some (v := .bool true) rfl (w_notb (c_f ?_)))
        refine w_nilc (w_offP (w_rdP (x3.some rX) (v := vc) rfl ?_))
        obtain ⟨d, hd1, hd2⟩ := Cn.re q' hq' rq
        rw [t2, getD_some hd2]
        have hS : S' p q' := by
          rw [t1] at hk
          injection hk with hk1 hk2
          have cq : c[q']? = some (c.getD q' 0) := by
            obtain ⟨y, hy⟩ := getElem?_of_lt (l := c) (i := q') (by omega)
            rw [getD_some hy, hy]
          exact ⟨(Ca.eq p q' hpn (by omega) rp rq).1 (by rw [cq, hk1, hx]), hk2.symm⟩
        have Cn' := Cn.old rp sy' tr' rf' hq' rq hS hd2
        refine store d cnt' l ck h3 _ x3' (x3.some rX) oC3 Cn' (x3.some gM) pw (fun t' ht' => ?_) (fun q2 hq2 rq2 => ?_) (fun v w => ⟨e0, e1, e4, e5, e15, e16, rfl⟩)
        · obtain ⟨q3, h1, h2, h3, h4⟩ := ml t' ht'
          exact ⟨q3, by omega, h2, h3, by rw [h4]; congr 1; rw [List.getD_eq_getElem?_getD, List.getD_eq_getElem?_getD, get_snoc hl' h1]⟩
        · by_cases ep : q2 = p
          · subst ep
            exact ⟨t, ht, by rw [hk, cpx]⟩
          · exact mr q2 (by omega) rq2
      · refine w_some (v := .int .i64 0) rfl (w_some (v := .bool false) rfl (w_notb (c_t ?_)))
        refine w_rdPA g3 (Nat.le_refl 2) ?_
        refine upd_rule (enc := eArr) (x := (x, b p)) und83 keyA (x3.some gM) pw fun l' ck' k1 k2 k3 k4 => ?_
        have hno' : ∀ q', q' < p → R q' → ¬ S' p q' := fun q' hq' rq' hS => by
          obtain ⟨t, ht, t1⟩ := mr q' hq' rq'
          refine hno t ht ?_
          rw [t1]
          have := (Ca.eq p q' hpn (by omega) rp rq').2 hS.1
          rw [hx] at this
          rw [getD_some this.symm, hS.2]
        have Cn' := Cn.new rp sy' rf' hno'
        have lM : h.length < h3.length := x3.lt l2
        have hMX : h.length ≠ X := by omega
        have hMC : ∀ j, onId vc j → h.length ≠ j := fun j hj e => by have := (P.cls.on hj).2; omega
        have rX4 : (h3.set h.length (.map (encE eArr l') ck'))[X]? = some (.row (moRow u m ++ [vis, vc, .int .i64 (cnt0 : Nat)]) true) := (get_ne hMX _).trans (x3.some rX)
        refine w_add (by omega) (by omega) (w_nilc (w_offP (w_rdP rX4 (v := vc) rfl ?_)))
        refine store cnt' (cnt' + 1) l' ck' _ _ (x3'.new (Nat.le_refl _) _) rX4 (oC3.mono (fun _ _ h => h) fun j hj _ => get_ne (hMC j hj) _) Cn' (get_set _ lM _) k4 (fun t' ht' => ?_) (fun q2 hq2 rq2 => ?_) (fun v w => ⟨e0, e1, e4, rfl, e15, e16, rfl⟩)
        · rcases k1 t' ht' with ⟨h1, h2⟩ | ⟨h1, h2⟩
          · exact ⟨p, by omega, rp, by rw [h1, cpx], by rw [h2, List.getD_eq_getElem?_getD, get_last hl']; rfl⟩
          · obtain ⟨q3, h1, h2, h3, h4⟩ := ml t' h1
            exact ⟨q3, by omega, h2, h3, by rw [h4]; congr 1; rw [List.getD_eq_getElem?_getD, List.getD_eq_getElem?_getD, get_snoc hl' h1]⟩
        · by_cases ep : q2 = p
          · subst ep
            obtain ⟨t, ht, t1, t2⟩ := k2
            exact ⟨t, ht, by rw [t1, cpx]⟩
          · obtain ⟨t, ht, t1⟩ := mr q2 (by omega) rq2
            exact ⟨t, k3 t ht fun e => hno t ht e, t1⟩
  · have epn : p = n := by omega
    subst epn
    refine w_nilc (w_offP (w_stP rX (by show 0 + 10 < 11; omega) rfl rfl ?_))
    rw [List.drop_eq_nil_of_le (by omega), List.append_nil] at oC
    have lC := P.ne
    refine k _ c' cnt' (x2.set (.inl rfl) _) ⟨get_set _ (lt_of_get rX) _, ?_, lC⟩ Cn
    rw [hl']
    exact oC.mono (fun _ _ h => h) fun j hj hf' => get_ne (by intro e; subst e; exact lC hf'.symm) _
end Go.Proofs.Ytnpbehfhncbjfaa.W
end

section
/- Fold's laws: classes are parted: what is asked of a state; how many; clones. Conditions: none. -/
namespace Go.Proofs.Ytnpbehfhncbjfaa.W
open Go Go.AM FoldPM
set_option linter.unusedVariables false
set_option maxRecDepth 100000
theorem _root_.Go.AM.Sl.keepOn {s : Nat} {h h' : AH} {v : Value} {n : Nat} {cs : List Value} (hv : Sl s h v n cs) (hh : ∀ j, onId v j → h'[j]? = h[j]?) : Sl s h' v n cs := by
  refine ⟨hv.1, ?_⟩
  rcases hv.2 with h1 | ⟨id, off, cap, h1, h2, h3⟩
  · exact .inl h1
  · refine .inr ⟨id, off, cap, h1, h2, ?_⟩
    rcases h3 with h3 | ⟨c, w, h3, h4⟩
    · exact .inl h3
    · exact .inr ⟨c, w, (hh id (by rw [h1]; exact rfl)).trans h3, h4⟩
theorem _root_.FoldPM.Canon.kernel {n cnt : Nat} {R : Nat → Prop} {S : Nat → Nat → Prop} {c : List Int} (C : Canon n R S c cnt) {p q : Nat} (hp : p < n) (hq : q < n) (rp : R p) (rq : R q) : c.getD p 0 = c.getD q 0 ↔ S p q := by
  obtain ⟨a, _, ha⟩ := C.re p hp rp
  obtain ⟨b, _, hb⟩ := C.re q hq rq
  rw [getD_some ha, getD_some hb, ← C.eq p q hp hq rp rq, ha, hb]
  exact ⟨fun h => by rw [h], fun h => by injection h⟩
theorem split52' {h : AH} {X C : Nat} {u : MoV} {m : Mo} {vis vc f : Value} {c : List Int} {cnt cnt0 n : Nat} {R : Nat → Prop} {S : Nat → Nat → Prop} {b : Nat → Int} {K : Value → AH → Prop} (P : Part h X C u m vis vc c cnt0) (Ca : Canon n R S c cnt) (hn : n ≤ 60)
    (hf : ∀ (h' : AH) (p : Nat) (K' : Value → AH → Prop), ExF (XC X C) h h' → p < n → R p → K' (.int .i64 (b p)) h' → callV (callW Try.prog) f [.int .i64 (p : Nat)] h' K')
    (k : ∀ h' c' cnt', ExF (XC X C) h h' → Part h' X C u m vis vc c' cnt' → Canon n R (fun p q => S p q ∧ b p = b q) c' cnt' → K (.tuple #[]) h') :
    callW Try.prog 52 [.pointer (some ⟨X, 0, none⟩), f] h K := by
  refine split52 (S := fun p q => c.getD p 0 = c.getD q 0) P (Ca.congr (fun _ _ => Iff.rfl) fun p q hp hq rp rq => (Ca.kernel hp hq rp rq).symm) hn (fun _ => rfl) (fun _ _ h => h.symm) (fun _ _ _ h k => h.trans k) hf fun h' c' cnt' x P' C' => ?_
  exact k h' c' cnt' x P' (C'.congr (fun _ _ => Iff.rfl) fun p q hp hq rp rq => and_congr_left fun _ => Ca.kernel hp hq rp rq)
structure RC (h : AH) (o b : Nat) (vold : Value) (c : List Int) (u : MoV) (m : Mo) : Prop where
  old : h[o]? = some (.row [vold] true)
  box : h[b]? = some (.row (moRow u m) true)
  oi : Ints h vold c
  mh : MoH h u m
theorem rOld {h : AH} {o b : Nat} {vold : Value} {c : List Int} {u : MoV} {m : Mo} (_ : Valid m) (r : RC h o b vold c u m) (hc : c.length = m.pm.n) {x : Nat} (hx : x < m.pm.n) {K : Value → Prop} (k : K (.int .i64 (c.getD x 0))) : optW (pIdxS 1 vold (.int .i64 (x : Nat))) fun a => optW (rdRow false 1 a h) K := by
  obtain ⟨y, hy⟩ := getElem?_of_lt (l := c) (i := x) (by omega)
  rw [getD_some hy] at k
  exact w_idxN eI_len r.oi hy fun z hz => w_rd1 hz rfl k
section
variable {h : AH} {o b : Nat} {vold : Value} {c : List Int} {u : MoV} {m : Mo} (v : Valid m) (r : RC h o b vold c u m) (hc : c.length = m.pm.n)
include v r
theorem rOf {p : Nat} (hp : p < m.pm.n) {K : Value → Prop} (k : K (.int .i64 (m.pm.of p))) : optW (pOff 2 (.pointer (some ⟨b, 0, none⟩))) fun a => optW (rdRow false 1 a h) fun a => optW (pIdxS 1 a (.int .i64 (p : Nat))) fun a => optW (rdRow false 1 a h) K :=
  w_offP (w_rdP r.box (v := sv u.vo) rfl (w_idxN eI_len r.mh.of (v.ofAt hp) fun z hz => w_rd1 hz rfl k))
theorem rRet {p j x : Nat} (hp : p < m.pm.n) (h0 : m.pm.of p ≠ 0) (hj : j < m.pm.cl) (hx : x < m.pm.n) {K : Value → Prop} (k : K (.int .i64 (m.pm.ret p j x : Nat))) :
    optW (pIdxS 1 (sv u.vr) (.int .i64 (p : Nat))) fun a => optW (rdRow false 1 a h) fun b => optW (pIdxS 1 b (.int .i64 (j : Nat))) fun c => optW (rdRow false 1 c h) fun d => optW (pIdxS 1 d (.int .i64 (x : Nat))) fun e => optW (rdRow false 1 e h) K := by
  obtain ⟨rr, hr, _, h2⟩ := v.retAt hp
  obtain ⟨l, hl, _, h3⟩ := (h2 h0).2 j hj
  obtain ⟨vals, s, rw_⟩ := r.mh.ret
  obtain ⟨w, hw, vs, sv', rv⟩ := rw_ p rr hr
  obtain ⟨w2, hw2, il⟩ := rv j l hl
  exact idxV s hw fun z hz => w_rd1 hz rfl (idxV sv' hw2 fun z hz => w_rd1 hz rfl (w_idxN eI_len il (h3 x hx).1 fun z hz => w_rd1 hz rfl k))
include hc
theorem cls58 {K : Value → AH → Prop} {bi i p : Nat} (g : h[bi]? = some (.row [.int .i64 (i : Nat)] true)) (hp : p < m.pm.n) (hi : i < m.pm.pl) (k : K (.int .i64 (c.getD (m.pm.inn p i) 0)) h) :
    callV (callW Try.prog) (.func (.func 58) #[] #[.pointer (some ⟨o, 0, none⟩), .pointer (some ⟨b, 0, none⟩), .pointer (some ⟨bi, 0, none⟩)]) [.int .i64 (p : Nat)] h K := by
  show callW Try.prog 58 [.int .i64 (p : Nat), .pointer (some ⟨o, 0, none⟩), .pointer (some ⟨b, 0, none⟩), .pointer (some ⟨bi, 0, none⟩)] h K
  refine c58 ?_
  unfold s58
  obtain ⟨l, hl, _, h2⟩ := v.inAt hp
  obtain ⟨vals, s, rr⟩ := r.mh.inn
  obtain ⟨w, hw, il⟩ := rr p l hl
  exact w_rdP r.old rfl (w_offP (w_rdP r.box (v := sv u.vi) rfl (idxV s hw fun z hz => w_rd1 hz rfl (w_rdP g rfl (w_idxN eI_len il (h2 i hi).1 fun z hz => w_rd1 hz rfl (rOld v r hc (h2 i hi).2.1 k))))))
theorem cls59 {K : Value → AH → Prop} {bi i p : Nat} (g : h[bi]? = some (.row [.int .i64 (i : Nat)] true)) (hp : p < m.pm.n) (hi : i < m.pm.cl) (k : K (.int .i64 (if m.pm.of p = 0 then c.getD (m.pm.low p i) 0 else 0)) h) :
    callV (callW Try.prog) (.func (.func 59) #[] #[.pointer (some ⟨b, 0, none⟩), .pointer (some ⟨o, 0, none⟩), .pointer (some ⟨bi, 0, none⟩)]) [.int .i64 (p : Nat)] h K := by
  show callW Try.prog 59 [.int .i64 (p : Nat), .pointer (some ⟨b, 0, none⟩), .pointer (some ⟨o, 0, none⟩), .pointer (some ⟨bi, 0, none⟩)] h K
  refine c59 ?_
  unfold s59
  refine rOf v r hp (w_eql (c_dec (fun q => ?_) (fun q => ?_)))
  · rw [if_pos q] at k
    obtain ⟨l, hl, _, h2⟩ := v.lowAt hp
    obtain ⟨vals, s, rr⟩ := r.mh.low
    obtain ⟨w, hw, il⟩ := rr p l hl
    exact w_rdP r.old rfl (w_offP (w_rdP r.box (v := sv u.vl) rfl (idxV s hw fun z hz => w_rd1 hz rfl (w_rdP g rfl (w_idxN eI_len il ((h2 q).2 i hi).1 fun z hz => w_rd1 hz rfl (rOld v r hc ((h2 q).2 i hi).2.1 k))))))
  · rw [if_neg q] at k
    exact k
theorem cls60 {K : Value → AH → Prop} {bj bq j x p : Nat} (gj : h[bj]? = some (.row [.int .i64 (j : Nat)] true)) (gq : h[bq]? = some (.row [.int .i64 (x : Nat)] true)) (hp : p < m.pm.n) (hj : j < m.pm.cl) (hx : x < m.pm.n) (k : K (.int .i64 (if m.pm.of p = 0 then 0 else c.getD (m.pm.ret p j x) 0)) h) :
    callV (callW Try.prog) (.func (.func 60) #[] #[.pointer (some ⟨b, 0, none⟩), .pointer (some ⟨o, 0, none⟩), .pointer (some ⟨bj, 0, none⟩), .pointer (some ⟨bq, 0, none⟩)]) [.int .i64 (p : Nat)] h K := by
  show callW Try.prog 60 [.int .i64 (p : Nat), .pointer (some ⟨b, 0, none⟩), .pointer (some ⟨o, 0, none⟩), .pointer (some ⟨bj, 0, none⟩), .pointer (some ⟨bq, 0, none⟩)] h K
  refine c60 ?_
  unfold s60
  refine rOf v r hp (w_eql (c_dec (fun q => ?_) (fun q => ?_)))
  · rw [if_pos q] at k
    exact k
  · rw [if_neg q] at k
    obtain ⟨rr, hr, _, h2⟩ := v.retAt hp
    obtain ⟨l, hl, _, h3⟩ := (h2 q).2 j hj
    obtain ⟨vals, s, rw_⟩ := r.mh.ret
    obtain ⟨w, hw, vs, sv', rv⟩ := rw_ p rr hr
    obtain ⟨w2, hw2, il⟩ := rv j l hl
    exact w_rdP r.old rfl (w_offP (w_rdP r.box (v := sv u.vr) rfl (idxV s hw fun z hz => w_rd1 hz rfl (w_rdP gj rfl (idxV sv' hw2 fun z hz => w_rd1 hz rfl (w_rdP gq rfl (w_idxN eI_len il (h3 x hx).1 fun z hz => w_rd1 hz rfl (rOld v r hc (h3 x hx).2.1 k))))))))
theorem cls61 {K : Value → AH → Prop} {bj bq j x p : Nat} (gj : h[bj]? = some (.row [.int .i64 (j : Nat)] true)) (gq : h[bq]? = some (.row [.int .i64 (x : Nat)] true)) (hp : p < m.pm.n) (hj : j < m.pm.cl) (hx : x < m.pm.n) (h0 : m.pm.of x ≠ 0) (k : K (.int .i64 (c.getD (m.pm.ret x j p) 0)) h) :
    callV (callW Try.prog) (.func (.func 61) #[] #[.pointer (some ⟨o, 0, none⟩), .pointer (some ⟨b, 0, none⟩), .pointer (some ⟨bq, 0, none⟩), .pointer (some ⟨bj, 0, none⟩)]) [.int .i64 (p : Nat)] h K := by
  show callW Try.prog 61 [.int .i64 (p : Nat), .pointer (some ⟨o, 0, none⟩), .pointer (some ⟨b, 0, none⟩), .pointer (some ⟨bq, 0, none⟩), .pointer (some ⟨bj, 0, none⟩)] h K
  refine c61 ?_
  unfold s61
  obtain ⟨rr, hr, _, h2⟩ := v.retAt hx
  obtain ⟨l, hl, _, h3⟩ := (h2 h0).2 j hj
  obtain ⟨vals, s, rw_⟩ := r.mh.ret
  obtain ⟨w, hw, vs, sv', rv⟩ := rw_ x rr hr
  obtain ⟨w2, hw2, il⟩ := rv j l hl
  exact w_rdP r.old rfl (w_offP (w_rdP r.box (v := sv u.vr) rfl (w_rdP gq rfl (idxV s hw fun z hz => w_rd1 hz rfl (w_rdP gj rfl (idxV sv' hw2 fun z hz => w_rd1 hz rfl (w_idxN eI_len il (h3 p hp).1 fun z hz => w_rd1 hz rfl (rOld v r hc (h3 p hp).2.1 k))))))))
end
theorem cls53 {h : AH} {b p : Nat} {u : MoV} {m : Mo} {K : Value → AH → Prop} (v : Valid m) (g : h[b]? = some (.row (moRow u m) true)) (mh : MoH h u m) (hp : p < m.pm.n) (k : K (.int .i64 (m.pm.of p)) h) :
    callV (callW Try.prog) (.func (.func 53) #[] #[.pointer (some ⟨b, 0, none⟩)]) [.int .i64 (p : Nat)] h K := by
  show callW Try.prog 53 [.int .i64 (p : Nat), .pointer (some ⟨b, 0, none⟩)] h K
  refine c53 ?_
  unfold s53
  exact w_offP (w_rdP g (v := sv u.vo) rfl (w_idxN eI_len mh.of (v.ofAt hp) fun z hz => w_rd1 hz rfl k))
theorem cls54 {h : AH} {b p : Nat} {u : MoV} {m : Mo} {K : Value → AH → Prop} (v : Valid m) (g : h[b]? = some (.row (moRow u m) true)) (mh : MoH h u m) (hp : p < m.pm.n) (k : K (.int .i64 (if m.pm.fi p = true then 1 else 0)) h) :
    callV (callW Try.prog) (.func (.func 54) #[] #[.pointer (some ⟨b, 0, none⟩)]) [.int .i64 (p : Nat)] h K := by
  show callW Try.prog 54 [.int .i64 (p : Nat), .pointer (some ⟨b, 0, none⟩)] h K
  refine c54 ?_
  unfold s54
  refine w_offP (w_rdP g (v := sv u.vf) rfl (w_idxN eBo_len mh.fi (v.fiAt hp) fun z hz => w_rd1 hz rfl ?_))
  cases hf : m.pm.fi p with
  | true => rw [hf] at k; exact k
  | false => rw [hf] at k; exact k
def RowW (h : AH) (v : Value) : Prop := v = .slice none 0 0 ∨ ∃ id n cap row, v = .slice (some ⟨id, 0, none⟩) n cap ∧ h[id]? = some (.row row true) ∧ n ≤ row.length
theorem RowW.keep {h h' : AH} {v : Value} (r : RowW h v) (hh : ∀ j, onId v j → h'[j]? = h[j]?) : RowW h' v := by
  rcases r with e | ⟨id, n, cap, row, rfl, g, hn⟩
  · exact .inl e
  · exact .inr ⟨id, n, cap, row, rfl, (hh id rfl).trans g, hn⟩
theorem clone_tailW {s : Nat} {z : List Value} (hz : z.length = s) (hs : 0 < s) (hs1 : s = 1) {h : AH} {v : Value} {n : Nat} {cs : List Value} {K : Value → AH → Prop} (hv : Sl s h v n cs) (hn : n < room40)
    (k : ∀ v' h', Ex h h' → Sl s h' v' n cs → (∀ j, onId v' j → h.length ≤ j ∧ j < h'.length) → RowW h' v' → K v' h') :
    optW (bldSl s z 0 []) fun c => newW none (.row c true) h fun i h_1 => appSl s (.slice (some ⟨i, 0, none⟩) 0 0) v h_1 fun v7 h_2 => K v7 h_2 := by
  have hb : bldSl s z 0 [] = some [] := by
    unfold bldSl
    rw [if_pos ⟨hz, by omega, by omega⟩]
    rfl
  refine w_some hb ?_
  refine n_new ?_
  have hx : Ex h (h ++ [AObj.row [] true]) := .app _ _
  refine appSl_sl (hv.ex hx) (.inl ?_)
  have hsrc := srcL_sl hs (hv.ex hx)
  have hroom : 0 + n < room40 := by omega
  by_cases n0 : n = 0
  · subst n0
    have hcs : cs = [] := List.eq_nil_of_length_eq_zero (by have := hv.1; omega)
    subst hcs
    have : pAppS s (.slice (some ⟨h.length, 0, none⟩) 0 0) v (h ++ [AObj.row [] true]) = some (.slice (some ⟨h.length, 0, none⟩) (0 + 0) 0, h ++ [AObj.row [] true]) := by
      unfold pAppS
      simp only [hsrc]
      rw [if_pos hroom, if_pos (by decide)]
      simp [pAppEx, stAt]
    rw [this]
    exact k _ _ hx ⟨by simp, .inr ⟨h.length, 0, 0, rfl, .inl ⟨by decide, Nat.le_refl _⟩, .inl rfl⟩⟩ (fun j hj => by
      have : h.length = j := hj
      simp
      omega) (.inr ⟨h.length, 0, 0, [], rfl, get_new _ _, Nat.le_refl _⟩)
  · have : pAppS s (.slice (some ⟨h.length, 0, none⟩) 0 0) v (h ++ [AObj.row [] true]) = some (.slice (some ⟨(h ++ [AObj.row [] true]).length, 0, none⟩) (0 + n) (openCap + s), (h ++ [AObj.row [] true]) ++ [AObj.row ([] ++ cs) true]) := by
      unfold pAppS
      simp only [hsrc]
      rw [if_pos hroom, if_pos (by decide)]
      simp only [pAppEx]
      rw [if_neg (by omega), Nat.zero_mul]
      simp [firstL]
    rw [this]
    refine k _ _ (hx.trans (.app _ _)) ⟨hv.1, .inr ⟨_, 0, _, by rw [Nat.zero_add], .inr rfl, .inr ⟨cs, true, ?_, by have := hv.1; omega, by rw [← hv.1]; simp⟩⟩⟩ (fun j hj => ?_) (.inr ⟨_, _, _, cs, rfl, ?_, by have := hv.1; subst hs1; omega⟩)
    · rw [List.nil_append]; exact get_new _ _
    · have : (h ++ [AObj.row [] true]).length = j := hj
      simp at this
      simp
      omega
    · rw [List.nil_append]; exact get_new _ _
theorem clone40W {h : AH} {v : Value} {n : Nat} {cs : List Value} {K : Value → AH → Prop} (hv : Sl 1 h v n cs) (hn : n ≤ 100000) (k : ∀ v' h', Ex h h' → Sl 1 h' v' n cs → (∀ j, onId v' j → h.length ≤ j ∧ j < h'.length) → RowW h' v' → K v' h') : callW Try.prog 40 [v] h K := by
  refine c40 ?_
  unfold s40
  obtain ⟨a, cap, e⟩ := hv.shape
  have hv' := hv
  rw [e]
  rw [e] at hv'
  refine w_slnil (e := 3) (by kernel_rfl) ?_
  cases a with
  | none =>
    have n0 : n = 0 := by
      rcases hv'.2 with ⟨e2, h0⟩ | ⟨id, off, cap', e2, _⟩
      · exact h0
      · cases e2
    subst n0
    have : cs = [] := List.eq_nil_of_length_eq_zero (by have := hv.1; omega)
    subst this
    exact c_t (k _ _ (Ex.refl _) ⟨rfl, .inl ⟨rfl, rfl⟩⟩ (fun j hj => hj.elim) (.inl rfl))
  | some ad => exact c_f (clone_tailW rfl (by decide) rfl hv' (by have := bigR; omega) k)
theorem clone40 {h : AH} {v : Value} {n : Nat} {cs : List Value} {K : Value → AH → Prop} (hv : Sl 1 h v n cs) (hn : n ≤ 100000) (k : ∀ v' h', Ex h h' → Sl 1 h' v' n cs → (∀ j, onId v' j → h.length ≤ j ∧ j < h'.length) → K v' h') : callW Try.prog 40 [v] h K :=
  clone40W hv hn fun v' h' x s o _ => k v' h' x s o
theorem res55 (e : Env) (h : AH) : resList Try.prog e h Try.f55.results.toList = (rdRow true 2 (e 2) h).map fun v => [v] := by
  have h1 : Try.f55.results.toList = [.cell 2 80] := by kernel_rfl
  have h2 : ∀ x, pLoad Try.prog 80 x h = rdRow true 2 x h := fun x => by kernel_rfl
  rw [h1]
  show (match pLoad Try.prog 80 (e 2) h with
    | some v => match resList Try.prog e h [] with
      | some vs => some (v :: vs)
      | none => none
    | none => none) = _
  rw [h2]
  cases rdRow true 2 (e 2) h <;> rfl
def up0 (c : List Int) : Nat := c.countP fun x => decide (0 ≤ x)
theorem size55 {h : AH} {X C : Nat} {u : MoV} {m : Mo} {vis vc : Value} {c : List Int} {cnt : Nat} {K : Value → AH → Prop} (P : Part h X C u m vis vc c cnt) (hn : c.length ≤ 1000)
    (k : ∀ h', Ex h h' → K (eArr ((cnt : Nat), (up0 c : Nat))) h') : callW Try.prog 55 [.pointer (some ⟨X, 0, none⟩)] h K := by
  refine c55 ?_
  unfold s55
  refine n_rowv fun h1 x1 l1 g1 => ?_
  have P1 := P.ex x1
  refine w_nilc (w_offP (w_rdP P1.row (v := vc) rfl (w_len P1.cls.sl ?_)))
  refine loopE_intro (fun mm e h' => ∃ i : Nat, i ≤ c.length ∧ mm = c.length - i ∧ e 0 = .pointer (some ⟨X, 0, none⟩) ∧ e 2 = .pointer (some ⟨h.length, 0, none⟩) ∧ e 3 = .int .i64 (up0 (c.take i) : Nat) ∧ e 9 = vc ∧ e 10 = .int .i64 (c.length : Nat) ∧ e 11 = .int .i64 (i : Nat) ∧ h1 = h') c.length
    ⟨0, Nat.zero_le _, rfl, rfl, rfl, rfl, rfl, rfl, rfl, rfl⟩ ?_
  rintro I mm e h2 ⟨i, hi, hmm, e0, e2, e3, e9, e10, e11, rfl⟩ ih
  rw [e9, e10, e11, e0, e2, e3]
  have hle : up0 (c.take i) ≤ i := by
    have := List.countP_le_length (p := fun x : Int => decide (0 ≤ x)) (l := c.take i)
    have := List.length_take_le i c
    unfold up0
    omega
  refine w_lss (c_dec (fun q => ?_) (fun q => ?_))
  · obtain ⟨x, hx⟩ := getElem?_of_lt (l := c) (i := i) (by omega)
    have e5 : up0 (c.take (i + 1)) = up0 (c.take i) + (if 0 ≤ x then 1 else 0) := by
      unfold up0
      rw [take_succ_get hx, List.countP_append]
      congr 1
      rw [List.countP_singleton]
      by_cases h0 : 0 ≤ x <;> simp [h0]
    refine w_idxN eI_len P1.cls.sl hx fun z hz => w_rd1 hz rfl (w_geq (c_dec (fun q2 => ?_) (fun q2 => ?_)))
    · rw [if_pos q2] at e5
      refine w_add (by omega) (by omega) (w_add (by omega) (by omega) ?_)
      exact ih (c.length - (i + 1)) _ _ (by omega) ⟨i + 1, by omega, rfl, e0, e2, by rw [e5]; rfl, e9, e10, rfl, rfl⟩
    · rw [if_neg q2] at e5
      refine w_add (by omega) (by omega) ?_
      exact ih (c.length - (i + 1)) _ _ (by omega) ⟨i + 1, by omega, rfl, e0, e2, by rw [e5]; exact e3, e9, e10, rfl, rfl⟩
  · have hall : c.take i = c := List.take_of_length_le (by omega)
    refine w_nilc (w_offP (w_rdP P1.row (v := .int .i64 (cnt : Nat)) rfl ?_))
    refine w_some (v := eArr ((cnt : Nat), (up0 (c.take i) : Nat))) rfl ?_
    refine w_stPA g1 rfl (Nat.le_refl 2) rfl ?_
    have lt1 := lt_of_get g1
    have g5 : (h1.set h.length (.row (spliceL [.int .i64 0, .int .i64 0] 0 (cellsL (eArr ((cnt : Nat), (up0 (c.take i) : Nat))))) true))[h.length]? = some (.row [.int .i64 (cnt : Nat), .int .i64 (up0 (c.take i) : Nat)] true) := get_set _ lt1 _
    rw [res55]
    refine w_some (v := [eArr ((cnt : Nat), (up0 (c.take i) : Nat))]) ?_ ?_
    · show Option.map _ (rdRow true 2 (e 2) _) = _
      rw [e2]
      have e := hopt (o := rdRow true 2 (.pointer (some ⟨h.length, 0, none⟩)) _) (w_rdPA g5 (Nat.le_refl 2) rfl)
      rw [e]
      rfl
    · have := k _ (x1.set (Nat.le_refl _) (.row (spliceL [.int .i64 0, .int .i64 0] 0 (cellsL (eArr ((cnt : Nat), (up0 (c.take i) : Nat))))) true))
      rw [hall] at this ⊢
      exact this
end Go.Proofs.Ytnpbehfhncbjfaa.W
end

section
/- Fold's laws: classes are parted: a round. Conditions: none. -/
namespace Go.Proofs.Ytnpbehfhncbjfaa.W
open Go Go.AM FoldPM
set_option linter.unusedVariables false
set_option maxRecDepth 100000
def S1 (M : PM) (t i p q : Nat) : Prop := E M t p q ∧ ∀ i', i' < i → E M t (M.inn p i') (M.inn q i')
def JJ (M : PM) (t j p q : Nat) : Prop := (M.of p = 0 → E M t (M.low p j) (M.low q j)) ∧ (M.of p ≠ 0 → ∀ x, Rch M x → E M t (M.ret p j x) (M.ret q j x)) ∧ (∀ x, Rch M x → M.of x ≠ 0 → E M t (M.ret x j p) (M.ret x j q))
def S2 (M : PM) (t j p q : Nat) : Prop := S1 M t M.pl p q ∧ ∀ j', j' < j → JJ M t j' p q
def S3 (M : PM) (t j x p q : Nat) : Prop := S2 M t j p q ∧ (M.of p = 0 → E M t (M.low p j) (M.low q j)) ∧ ∀ x', x' < x → Rch M x' → (M.of p ≠ 0 → E M t (M.ret p j x') (M.ret q j x')) ∧ (M.of x' ≠ 0 → E M t (M.ret x' j p) (M.ret x' j q))
theorem S2.E {M : PM} {t j p q : Nat} (h : S2 M t j p q) : FoldPM.E M t p q := h.1.1
theorem S2.done {M : PM} {t p q : Nat} : S2 M t M.cl p q ↔ FoldPM.E M (t + 1) p q := by
  constructor
  · rintro ⟨⟨h1, h2⟩, h3⟩
    exact ⟨h1, h2, fun h0 j hj => (h3 j hj).1 h0, fun h0 j hj x hx => (h3 j hj).2.1 h0 x hx, fun x hx h0 j hj => (h3 j hj).2.2 x hx h0⟩
  · rintro ⟨h1, h2, h3, h4, h5⟩
    exact ⟨⟨h1, h2⟩, fun j hj => ⟨fun h0 => h3 h0 j hj, fun h0 x hx => h4 h0 j hj x hx, fun x hx h0 => h5 x hx h0 j hj⟩⟩
theorem S3.done {M : PM} (ok : M.OK) {t j p q : Nat} : S3 M t j M.n p q ↔ S2 M t (j + 1) p q := by
  constructor
  · rintro ⟨h1, h2, h3⟩
    refine ⟨h1.1, fun j' hj' => ?_⟩
    by_cases e : j' = j
    · subst e
      exact ⟨h2, fun h0 x hx => (h3 x (hx.lt ok) hx).1 h0, fun x hx h0 => (h3 x (hx.lt ok) hx).2 h0⟩
    · exact h1.2 j' (by omega)
  · rintro ⟨h1, h2⟩
    have := h2 j (by omega)
    exact ⟨⟨h1, fun j' hj' => h2 j' (by omega)⟩, this.1, fun x _ hx => ⟨fun h0 => this.2.1 h0 x hx, fun h0 => this.2.2 x hx h0⟩⟩
theorem round56 {h0 h : AH} {X C t : Nat} {u : MoV} {m : Mo} {vis vc : Value} {c : List Int} {cnt : Nat} {K : Value → AH → Prop} (v : Valid m) (mh0 : MoH h0 u m) (x0 : Ex h0 h) (hX : h0.length ≤ X) (hC : h0.length ≤ C) (lC : C < h.length)
    (P : Part h X C u m vis vc c cnt) (Ca : Canon m.pm.n (Rch m.pm) (E m.pm t) c cnt)
    (k : ∀ h' c' cnt', ExF (XC X C) h h' → Part h' X C u m vis vc c' cnt' → Canon m.pm.n (Rch m.pm) (E m.pm (t + 1)) c' cnt' → K (.tuple #[]) h') : callW Try.prog 56 [.pointer (some ⟨X, 0, none⟩)] h K := by
  have ok := v.ok
  have lX := lt_of_get P.row
  have hcl := Ca.len
  have n2 := v.n2
  have hnn : m.pm.n = m.Of.length := rfl
  have hn60 : m.pm.n ≤ 60 := by omega
  have pl2 := v.pl.2
  have cl2 := v.cl.2
  have hpl : ((m.pm.pl : Nat) : Int) = m.pl := Int.toNat_of_nonneg v.pl.1
  have hcl' : ((m.pm.cl : Nat) : Int) = m.cl := Int.toNat_of_nonneg v.cl.1
  refine c56 ?_
  unfold s56
  refine w_nilc (w_offP (w_rdPA P.row (by show 0 + 8 ≤ 11; omega) ?_))
  refine n_var (v := .agg (moRow u m).toArray) rfl rfl rfl fun h1 x1 l1 g1 => ?_
  have g1' : h1[h.length]? = some (.row (moRow u m) true) := g1
  refine w_nilc (w_offP (w_rdP (x1.some P.row) (v := vc) rfl ?_))
  refine clone40 (P.ex x1).cls.sl (by omega) fun vold h2 x2 i2 on2 => ?_
  obtain ⟨ao, no, co, rfl⟩ := Sl.isSl i2
  refine n_var rfl rfl rfl fun h3 x3 l3 g3 => ?_
  have x03 := (x1.trans x2).trans x3
  have P3 := P.ex x03
  have g3b := (x2.trans x3).some g1'
  have nX : ∀ j, h.length ≤ j → ¬ XC X C j := fun j hj hf => by rcases hf with rfl | rfl <;> omega
  have rc : ∀ h', ExF (XC X C) h3 h' → RC h' h2.length h.length (.slice ao no co) c u m := fun h' y =>
    ⟨y.some g3 (nX _ (by have := x1.len; have := x2.len; omega)), y.some g3b (nX _ (Nat.le_refl _)), by
      have := i2.keepOn (h' := h') fun j hj => (y.get j (by have := (on2 j hj).2; have := x3.len; omega) (nX j (by have := (on2 j hj).1; have := x1.len; omega))).trans (x3.get j (on2 j hj).2)
      exact this, mh0.ex (ExF.base (x0.trans x03) y fun j hj => by rcases hj with rfl | rfl <;> omega)⟩
  have ev : ∀ {a b : Nat}, Rch m.pm a → Rch m.pm b → (c.getD a 0 = c.getD b 0 ↔ E m.pm t a b) := fun ra rb => Ca.kernel (ra.lt ok) (rb.lt ok) ra rb
  have fin : ∀ h' c' cnt', ExF (XC X C) h3 h' → Part h' X C u m vis vc c' cnt' → Canon m.pm.n (Rch m.pm) (E m.pm (t + 1)) c' cnt' → K (.tuple #[]) h' := fun h' c' cnt' y P' C' => k h' c' cnt' ((ExF.ex x03).trans y) P' C'
  have l3b : h.length < h3.length := by have := x1.len; have := x2.len; omega
  clear k
  refine w_offP (w_rdP g3b (v := .int .i64 m.pl) rfl ?_)
  refine loopE_intro (fun mm e h' => ∃ (i cnt' : Nat) (c' : List Int), i ≤ m.pm.pl ∧ mm = m.pm.pl - i ∧ e 0 = .pointer (some ⟨X, 0, none⟩) ∧ e 2 = .pointer (some ⟨h.length, 0, none⟩) ∧ e 3 = .pointer (some ⟨h2.length, 0, none⟩) ∧ e 17 = .int .i64 m.pl ∧ e 18 = .int .i64 (i : Nat) ∧
      ExF (XC X C) h3 h' ∧ Part h' X C u m vis vc c' cnt' ∧ Canon m.pm.n (Rch m.pm) (S1 m.pm t i) c' cnt') m.pm.pl
    ⟨0, cnt, c, Nat.zero_le _, rfl, rfl, rfl, rfl, rfl, rfl, ExF.refl _ _, P3, Ca.congr (fun _ _ => Iff.rfl) fun p q _ _ _ _ => ⟨fun h => ⟨h, fun i hi => by omega⟩, fun h => h.1⟩⟩ ?_
  rintro I mm e h4 ⟨i, cnt', c', hi, hmm, e0, e2, e3, e17, e18, x4, P4, C4⟩ ih
  rw [e17, e18, e0, e3, e2]
  refine w_lss (c_dec (fun q => ?_) (fun q => ?_))
  · have hi' : i < m.pm.pl := by omega
    refine n_var rfl rfl rfl fun h5 x5 l5 g5 => ?_
    have x45 := x4.trans (.ex x5)
    have nb : ¬ XC X C h4.length := nX _ (by have := x4.len; omega)
    refine split52' (b := fun p => c.getD (m.pm.inn p i) 0) (P4.ex x5) C4 hn60 (fun h' p K' y hp rp k' => cls58 v (rc h' (x45.trans y)) hcl (y.some g5 nb) hp hi' k') fun h6 c6 cnt6 x6 P6 C6 => ?_
    refine w_add (by omega) (by omega) ?_
    refine ih (m.pm.pl - (i + 1)) _ _ (by omega) ⟨i + 1, cnt6, c6, by omega, rfl, e0, e2, e3, e17, rfl, x45.trans x6, P6, C6.congr (fun _ _ => Iff.rfl) fun p q hp hq rp rq => ?_⟩
    rw [ev (.inn rp hi') (.inn rq hi')]
    constructor
    · rintro ⟨h1, h2⟩
      refine ⟨h1.1, fun i' hi2 => ?_⟩
      by_cases e : i' = i
      · subst e; exact h2
      · exact h1.2 i' (by omega)
    · rintro ⟨h1, h2⟩
      exact ⟨⟨h1, fun i' hi2 => h2 i' (by omega)⟩, h2 i (by omega)⟩
  · have ei : i = m.pm.pl := by omega
    subst ei
    refine w_offP (w_rdP (rc h4 x4).box (v := .int .i64 m.cl) rfl ?_)
    refine loopE_intro (fun mm e h' => ∃ (j cnt' : Nat) (c' : List Int), j ≤ m.pm.cl ∧ mm = m.pm.cl - j ∧ e 0 = .pointer (some ⟨X, 0, none⟩) ∧ e 2 = .pointer (some ⟨h.length, 0, none⟩) ∧ e 3 = .pointer (some ⟨h2.length, 0, none⟩) ∧ e 26 = .int .i64 m.cl ∧ e 27 = .int .i64 (j : Nat) ∧
        ExF (XC X C) h3 h' ∧ Part h' X C u m vis vc c' cnt' ∧ Canon m.pm.n (Rch m.pm) (S2 m.pm t j) c' cnt') m.pm.cl
      ⟨0, cnt', c', Nat.zero_le _, rfl, e0, e2, e3, rfl, rfl, x4, P4, C4.congr (fun _ _ => Iff.rfl) fun p q _ _ _ _ => ⟨fun h => ⟨h, fun i hi => by omega⟩, fun h => h.1⟩⟩ ?_
    clear ih hmm e0 e2 e3 e17 e18 x4 P4 C4 q hi
    clear e mm I h4 c' cnt'
    rintro I mm e h4 ⟨j, cnt', c', hj, hmm, e0, e2, e3, e26, e27, x4, P4, C4⟩ ih
    rw [e26, e27, e0, e2, e3]
    refine w_lss (c_dec (fun q => ?_) (fun q => ?_))
    · have hj' : j < m.pm.cl := by omega
      refine n_var rfl rfl rfl fun h5 x5 l5 g5 => ?_
      have x45 := x4.trans (.ex x5)
      have nb : ¬ XC X C h4.length := nX _ (by have := x4.len; omega)
      refine split52' (b := fun p => if m.pm.of p = 0 then c.getD (m.pm.low p j) 0 else 0) (P4.ex x5) C4 hn60 (fun h' p K' y hp rp k' => cls59 v (rc h' (x45.trans y)) hcl (y.some g5 nb) hp hj' k') fun h6 c6 cnt6 x6 P6 C6 => ?_
      have x46 := x45.trans x6
      have r6 := rc h6 x46
      refine w_rdP r6.old rfl (w_len r6.oi ?_)
      have g6 : h6[h4.length]? = some (.row [.int .i64 (j : Nat)] true) := x6.some g5 nb
      refine loopE_intro (fun mm e' h' => ∃ (x cnt' : Nat) (c' : List Int), x ≤ m.pm.n ∧ mm = m.pm.n - x ∧ e' 0 = .pointer (some ⟨X, 0, none⟩) ∧ e' 2 = .pointer (some ⟨h.length, 0, none⟩) ∧ e' 3 = .pointer (some ⟨h2.length, 0, none⟩) ∧ e' 5 = .pointer (some ⟨h4.length, 0, none⟩) ∧ e' 26 = .int .i64 m.cl ∧ e' 27 = .int .i64 (j : Nat) ∧ e' 34 = .int .i64 (m.pm.n : Nat) ∧ e' 35 = .int .i64 (x : Nat) ∧
          ExF (XC X C) h6 h' ∧ Part h' X C u m vis vc c' cnt' ∧ Canon m.pm.n (Rch m.pm) (S3 m.pm t j x) c' cnt') m.pm.n
        ⟨0, cnt6, c6, Nat.zero_le _, rfl, e0, e2, e3, rfl, e26, e27, by rw [← hcl]; rfl, rfl, ExF.refl _ _, P6, C6.congr (fun _ _ => Iff.rfl) fun p q hp hq rp rq => ?_⟩ ?_
      · constructor
        · rintro ⟨h1, h2⟩
          have ho := FoldPM.E.of h1.E
          refine ⟨h1, fun h0 => ?_, fun x' hx' => by omega⟩
          rw [if_pos h0, if_pos (ho ▸ h0)] at h2
          exact (ev (.low rp h0 hj') (.low rq (ho ▸ h0) hj')).1 h2
        · rintro ⟨h1, h2, _⟩
          have ho := FoldPM.E.of h1.E
          refine ⟨h1, ?_⟩
          by_cases h0 : m.pm.of p = 0
          · rw [if_pos h0, if_pos (ho ▸ h0)]
            exact (ev (.low rp h0 hj') (.low rq (ho ▸ h0) hj')).2 (h2 h0)
          · rw [if_neg h0, if_neg (ho ▸ h0)]
      rintro I2 mm2 e' h7 ⟨x, cnt7, c7, hx, hmm2, f0, f2, f3, f5, f26, f27, f34, f35, x7, P7, C7⟩ ih2
      rw [f34, f35, f0, f2, f3, f5, f27]
      have x47 := x46.trans x7
      refine w_lss (c_dec (fun q2 => ?_) (fun q2 => ?_))
      · have hx' : x < m.pm.n := by omega
        refine n_var rfl rfl rfl fun h8 x8 l8 g8 => ?_
        have x48 := x47.trans (.ex x8)
        have r8 := rc h8 x48
        have nb7 : ¬ XC X C h7.length := nX _ (by have := x47.len; omega)
        have P8 := P7.ex x8
        have gj8 : h8[h4.length]? = some (.row [.int .i64 (j : Nat)] true) := x8.some (x7.some g6 nb)
        obtain ⟨y0, hy0⟩ := getElem?_of_lt (l := c) (i := x) (by omega)
        refine w_rdP r8.old rfl (w_rdP g8 rfl (w_idxN eI_len r8.oi hy0 fun z hz => w_rd1 hz rfl (w_lss (c_dec (fun q3 => ?_) (fun q3 => ?_)))))
        · have nr : ¬ Rch m.pm x := fun r => by
            obtain ⟨d, _, hd⟩ := Ca.re x hx' r
            rw [hy0] at hd
            cases hd
            omega
          refine w_add (by omega) (by omega) ?_
          refine ih2 (m.pm.n - (x + 1)) _ _ (by omega) ⟨x + 1, cnt7, c7, by omega, rfl, f0, f2, f3, f5, f26, f27, f34, rfl, x7.trans (.ex x8), P8, C7.congr (fun _ _ => Iff.rfl) fun p q hp hq rp rq => ?_⟩
          constructor
          · rintro ⟨h1, h2, h3⟩
            exact ⟨h1, h2, fun x' hx2 rx' => by
              by_cases e : x' = x
              · subst e; exact absurd rx' nr
              · exact h3 x' (by omega) rx'⟩
          · rintro ⟨h1, h2, h3⟩
            exact ⟨h1, h2, fun x' hx2 rx' => h3 x' (by omega) rx'⟩
        · have rx : Rch m.pm x := by
            by_cases r : Rch m.pm x
            · exact r
            · have := Ca.un x hx' r
              rw [hy0] at this
              cases this
              omega
          refine split52' (b := fun p => if m.pm.of p = 0 then 0 else c.getD (m.pm.ret p j x) 0) P8 C7 hn60 (fun h' p K' y hp rp k' => cls60 v (rc h' (x48.trans y)) hcl (y.some gj8 nb) (y.some g8 nb7) hp hj' hx' k') fun h9 c9 cnt9 x9 P9 C9 => ?_
          have x49 := x48.trans x9
          have r9 := rc h9 x49
          have g9 : h9[h7.length]? = some (.row [.int .i64 (x : Nat)] true) := x9.some g8 nb7
          have gj9 : h9[h4.length]? = some (.row [.int .i64 (j : Nat)] true) := x9.some gj8 nb
          have C9' : Canon m.pm.n (Rch m.pm) (fun p q => S3 m.pm t j x p q ∧ (m.pm.of p ≠ 0 → E m.pm t (m.pm.ret p j x) (m.pm.ret q j x))) c9 cnt9 := C9.congr (fun _ _ => Iff.rfl) fun p q hp hq rp rq => by
            refine and_congr_right fun h1 => ?_
            have ho := FoldPM.E.of h1.1.E
            by_cases h0 : m.pm.of p = 0
            · rw [if_pos h0, if_pos (ho ▸ h0)]
              exact ⟨fun _ h => absurd h0 h, fun _ => rfl⟩
            · rw [if_neg h0, if_neg (ho ▸ h0)]
              exact (ev (.ret rp rx h0 hj') (.ret rq rx (ho ▸ h0) hj')).trans ⟨fun h _ => h, fun h => h h0⟩
          refine w_offP (w_rdP r9.box (v := sv u.vo) rfl (w_rdP g9 rfl (w_idxN eI_len r9.mh.of (v.ofAt hx') fun z hz => w_rd1 hz rfl (w_neq (c_dec (fun q4 => ?_) (fun q4 => ?_))))))
          · refine split52' (b := fun p => c.getD (m.pm.ret x j p) 0) P9 C9' hn60 (fun h' p K' y hp rp k' => cls61 v (rc h' (x49.trans y)) hcl (y.some gj9 nb) (y.some g9 nb7) hp hj' hx' q4 k') fun h10 c10 cnt10 x10 P10 C10 => ?_
            refine w_add (by omega) (by omega) ?_
            refine ih2 (m.pm.n - (x + 1)) _ _ (by omega) ⟨x + 1, cnt10, c10, by omega, rfl, f0, f2, f3, f5, f26, f27, f34, rfl, ((x7.trans (.ex x8)).trans x9).trans x10, P10, C10.congr (fun _ _ => Iff.rfl) fun p q hp hq rp rq => ?_⟩
            rw [ev (.ret rx rp q4 hj') (.ret rx rq q4 hj')]
            constructor
            · rintro ⟨⟨⟨h1, h2, h3⟩, h4⟩, h5⟩
              exact ⟨h1, h2, fun x' hx2 rx' => by
                by_cases e : x' = x
                · subst e; exact ⟨h4, fun _ => h5⟩
                · exact h3 x' (by omega) rx'⟩
            · rintro ⟨h1, h2, h3⟩
              have := h3 x (by omega) rx
              exact ⟨⟨⟨h1, h2, fun x' hx2 rx' => h3 x' (by omega) rx'⟩, this.1⟩, this.2 q4⟩
          · refine w_add (by omega) (by omega) ?_
            refine ih2 (m.pm.n - (x + 1)) _ _ (by omega) ⟨x + 1, cnt9, c9, by omega, rfl, f0, f2, f3, f5, f26, f27, f34, rfl, (x7.trans (.ex x8)).trans x9, P9, C9'.congr (fun _ _ => Iff.rfl) fun p q hp hq rp rq => ?_⟩
            constructor
            · rintro ⟨⟨h1, h2, h3⟩, h4⟩
              exact ⟨h1, h2, fun x' hx2 rx' => by
                by_cases e : x' = x
                · subst e; exact ⟨h4, fun h => absurd h q4⟩
                · exact h3 x' (by omega) rx'⟩
            · rintro ⟨h1, h2, h3⟩
              have := h3 x (by omega) rx
              exact ⟨⟨h1, h2, fun x' hx2 rx' => h3 x' (by omega) rx'⟩, this.1⟩
      · have ex : x = m.pm.n := by omega
        subst ex
        refine w_add (by omega) (by omega) ?_
        exact ih (m.pm.cl - (j + 1)) _ _ (by omega) ⟨j + 1, cnt7, c7, by omega, rfl, f0, f2, f3, f26, rfl, x47, P7, C7.congr (fun _ _ => Iff.rfl) fun p q _ _ _ _ => S3.done ok⟩
    · have ej : j = m.pm.cl := by omega
      subst ej
      exact fin _ _ _ x4 P4 (C4.congr (fun _ _ => Iff.rfl) fun p q _ _ _ _ => S2.done)
end Go.Proofs.Ytnpbehfhncbjfaa.W
end

section
/- Fold's laws: the code's classes. Conditions: none. -/
namespace Go.Proofs.Ytnpbehfhncbjfaa.W
open Go Go.AM FoldPM
set_option linter.unusedVariables false
set_option maxRecDepth 100000
theorem neqA0 (a b c d : Int) : pBin Try.prog .neq 80 (eArr (a, b)) (eArr (c, d)) = (sameScals [.int .i64 a, .int .i64 b] [.int .i64 c, .int .i64 d]).map fun b => .bool !b := by kernel_rfl
theorem w_neqA {x y : Int × Int} {K : Value → Prop} (k : K (.bool (decide (¬ x = y)))) : optW (pBin Try.prog .neq 80 (eArr x) (eArr y)) K := by
  obtain ⟨a, b⟩ := x
  obtain ⟨c, d⟩ := y
  refine w_some (v := .bool (decide (¬ (a, b) = (c, d)))) ?_ k
  rw [neqA0, same2]
  simp only [Option.map_some, Prod.mk.injEq, decide_not]
theorem up0_eq {n cnt cnt' : Nat} {R : Nat → Prop} {S S' : Nat → Nat → Prop} {c c' : List Int} (A : Canon n R S c cnt) (B : Canon n R S' c' cnt') : up0 c = up0 c' := by
  have e : c.map (fun x => decide (0 ≤ x)) = c'.map (fun x => decide (0 ≤ x)) := by
    apply List.ext_getElem?
    intro p
    rw [List.getElem?_map, List.getElem?_map]
    by_cases hp : p < n
    · by_cases hr : R p
      · obtain ⟨a, _, ha⟩ := A.re p hp hr
        obtain ⟨b, _, hb⟩ := B.re p hp hr
        rw [ha, hb]
        simp
      · rw [A.un p hp hr, B.un p hp hr]
    · rw [List.getElem?_eq_none (by have := A.len; omega), List.getElem?_eq_none (by have := B.len; omega)]
  have f : ∀ l : List Int, up0 l = (l.map (fun x => decide (0 ≤ x))).countP id := fun l => by
    unfold up0
    rw [List.countP_map]
    rfl
  rw [f, f, e]
theorem classes38 {h : AH} {u : MoV} {m : Mo} {K : Value → AH → Prop} (v : Valid m) (mh : MoH h u m)
    (k : ∀ h' X C vis vc c cnt, Ex h h' → h.length ≤ X → h.length ≤ C → C < h'.length → Part h' X C u m vis vc c cnt → Canon m.pm.n (Rch m.pm) (EE m.pm) c cnt → K (.pointer (some ⟨X, 0, none⟩)) h') : callW Try.prog 38 [.agg (moRow u m).toArray] h K := by
  have ok := v.ok
  have n2 := v.n2
  have hnn : m.pm.n = m.Of.length := rfl
  have hn60 : m.pm.n ≤ 60 := by omega
  refine c38 ?_
  unfold s38
  refine n_boxv rfl fun h1 x1 l1 g1 => ?_
  have g1' : h1[h.length]? = some (.row (moRow u m) true) := g1
  have xr := Ex.res h1
  have lr : (reserve 1 h1).length = h1.length + 1 := by rw [reserve_one]; simp
  have gd : (reserve 1 h1)[h1.length]? = some .dead := by rw [reserve_one]; exact get_new _ _
  refine w_rdPA (xr.some g1') (Nat.le_refl 8) (w_rdPA (xr.some g1') (Nat.le_refl 8) ?_)
  refine reached20 (mh.ex (x1.trans xr)) (fun nv => absurd v nv) fun _ h2 I bl x2 hI gI hbl hrch => ?_
  refine ⟨ptr_id (x2.get _ (by omega)), ?_⟩
  refine w_some (v := .agg (moRow u m ++ ([Value.slice (some ⟨I, 0, none⟩) m.pm.n m.pm.n, Value.slice none 0 0, Value.int .i64 0] : List Value)).toArray) rfl ?_
  refine ⟨rfl, n_slot ?_⟩
  have lt2 := lt_of_get (x2.some gd)
  have gX : (h2.set h1.length (.row (cellsL (.agg (moRow u m ++ ([Value.slice (some ⟨I, 0, none⟩) m.pm.n m.pm.n, Value.slice none 0 0, Value.int .i64 0] : List Value)).toArray)) true))[h1.length]? = some (.row (moRow u m ++ [.slice (some ⟨I, 0, none⟩) m.pm.n m.pm.n, .slice none 0 0, .int .i64 (0 : Nat)]) true) := get_set _ lt2 _
  have x13 : Ex h1 (h2.set h1.length (.row (cellsL (.agg (moRow u m ++ ([Value.slice (some ⟨I, 0, none⟩) m.pm.n m.pm.n, Value.slice none 0 0, Value.int .i64 0] : List Value)).toArray)) true)) := (xr.trans x2).set (Nat.le_refl _) _
  have gI3 : (h2.set h1.length (.row (cellsL (.agg (moRow u m ++ ([Value.slice (some ⟨I, 0, none⟩) m.pm.n m.pm.n, Value.slice none 0 0, Value.int .i64 0] : List Value)).toArray)) true))[I]? = some (.row (flat eBo bl) true) := (get_ne (by omega) _).trans gI
  generalize h2.set h1.length (.row (cellsL (.agg (moRow u m ++ ([Value.slice (some ⟨I, 0, none⟩) m.pm.n m.pm.n, Value.slice none 0 0, Value.int .i64 0] : List Value)).toArray)) true) = h3 at gX x13 gI3 ⊢
  have lX3 := lt_of_get gX
  have lI3 := lt_of_get gI3
  have isl : ∀ {h' : AH}, h'[I]? = some (.row (flat eBo bl) true) → SlT 1 eBo h' (.slice (some ⟨I, 0, none⟩) m.pm.n m.pm.n) bl := fun g => by
    have oc60 : (60 : Nat) < openCap := by decide
    refine ⟨by rw [flat_eBo_len]; omega, .inr ⟨I, 0, _, by rw [hbl], .inl ⟨by omega, by omega⟩, .inr ⟨_, _, g, by rw [flat_eBo_len]; omega, by rw [List.drop_zero, Nat.mul_one, ← flat_eBo_len, List.take_length]⟩⟩⟩
  refine w_nilc (w_offP (w_rdP gX (v := .slice (some ⟨I, 0, none⟩) m.pm.n m.pm.n) rfl (w_lenSl ?_)))
  refine loopE_intro (fun mm e h' => ∃ (i : Nat) (c : List Int) (vc : Value), i ≤ m.pm.n ∧ mm = m.pm.n - i ∧ e 1 = .pointer (some ⟨h.length, 0, none⟩) ∧ e 3 = .pointer (some ⟨h1.length, 0, none⟩) ∧ e 15 = .slice (some ⟨I, 0, none⟩) m.pm.n m.pm.n ∧ e 16 = .int .i64 (m.pm.n : Nat) ∧ e 17 = .int .i64 (i : Nat) ∧
      ExF (fun j => j = h1.length) h3 h' ∧ h'[h1.length]? = some (.row (moRow u m ++ [.slice (some ⟨I, 0, none⟩) m.pm.n m.pm.n, vc, .int .i64 (0 : Nat)]) true) ∧ OwnG 1 (fun j => h3.length ≤ j) h' vc i (flat eI c) ∧ c.length = i ∧ (∀ p, p < i → (Rch m.pm p → c[p]? = some 0) ∧ (¬ Rch m.pm p → c[p]? = some (-1)))) m.pm.n
    ⟨0, [], .slice none 0 0, Nat.zero_le _, rfl, rfl, rfl, rfl, rfl, rfl, ExF.refl _ _, gX, OwnG.nil _ _ _, rfl, fun p hp => by omega⟩ ?_
  rintro J mm e h4 ⟨i, c, vc, hi, hmm, e1, e3, e15, e16, e17, x4, gX4, oc, hc, hall⟩ ih
  rw [e15, e16, e17, e3, e1]
  have gI4 := x4.some gI3 (by omega)
  refine w_lss (c_dec (fun q => ?_) (fun q => ?_))
  · obtain ⟨b, hb⟩ := getElem?_of_lt (l := bl) (i := i) (by omega)
    refine w_idxN eBo_len (isl gI4) hb fun z hz => w_rd1 hz rfl ?_
    refine w_nilc (w_offP (w_rdP gX4 (v := vc) rfl (bldT rfl (by decide) rfl rfl ?_)))
    refine n_newv fun h5 x5 l5 g5 => ?_
    have oc5 := oc.mono (F' := fun j => h3.length ≤ j) (h' := h5) (fun _ _ h => h) fun j hj _ => x5.get j (oc.on hj).2
    refine appSl_of (app_g (by decide) oc5 (srcL_new (n := 1) (s := 1) g5 (by decide) rfl) rfl (by have := bigR; omega) fun v' h6 a1 a2 a3 a4 => ?_)
    have nX : ¬ onId vc h1.length := fun hh => by have := (oc.on hh).1; omega
    have gX6 : h6[h1.length]? = some (.row (moRow u m ++ [.slice (some ⟨I, 0, none⟩) m.pm.n m.pm.n, vc, .int .i64 (0 : Nat)]) true) := (a3 _ (by have := x4.len; have := x5.len; omega) nX).trans (x5.some gX4)
    obtain ⟨av, nv, cv, rfl⟩ := Sl.isSl a1.sl
    refine w_nilc (w_offP (w_stP gX6 (by show 0 + 9 < 11; omega) rfl rfl ?_))
    have lX6 := lt_of_get gX6
    have gX7 : (h6.set h1.length (.row ((moRow u m ++ [.slice (some ⟨I, 0, none⟩) m.pm.n m.pm.n, vc, .int .i64 (0 : Nat)]).set (0 + 9) (.slice av nv cv)) true))[h1.length]? = some (.row (moRow u m ++ [.slice (some ⟨I, 0, none⟩) m.pm.n m.pm.n, .slice av nv cv, .int .i64 (0 : Nat)]) true) := get_set _ lX6 _
    have x47 : ExF (fun j => j = h1.length) h3 (h6.set h1.length (.row ((moRow u m ++ [.slice (some ⟨I, 0, none⟩) m.pm.n m.pm.n, vc, .int .i64 (0 : Nat)]).set (0 + 9) (.slice av nv cv)) true)) := by
      refine ExF.set (F := fun j => j = h1.length) (a := h3) (b := h6) ⟨by have := x4.len; have := x5.len; omega, fun j hj hf => ?_⟩ rfl _
      rw [a3 j (by have := x4.len; have := x5.len; omega) fun hh => by have := (oc.on hh).1; omega, x5.get j (by have := x4.len; omega)]
      exact x4.get j hj hf
    have oc7 : OwnG 1 (fun j => h3.length ≤ j) (h6.set h1.length (.row ((moRow u m ++ [.slice (some ⟨I, 0, none⟩) m.pm.n m.pm.n, vc, .int .i64 (0 : Nat)]).set (0 + 9) (.slice av nv cv)) true)) (.slice av nv cv) (i + 1) (flat eI (c ++ [-1])) := by
      rw [flat_append]
      exact OwnG.mono a1 (fun j _ hj => hj.elim id fun e => by have := x4.len; have := x5.len; show h3.length ≤ j; omega) fun j hj hf => get_ne (by
        intro e
        subst e
        rcases hf with hf | hf
        · have : h3.length ≤ h1.length := hf
          omega
        · have := x4.len; have := x5.len; omega) _
    generalize h6.set h1.length (.row ((moRow u m ++ [.slice (some ⟨I, 0, none⟩) m.pm.n m.pm.n, vc, .int .i64 (0 : Nat)]).set (0 + 9) (.slice av nv cv)) true) = h7 at gX7 x47 oc7 ⊢
    have hlast : (c ++ [-1])[i]? = some (-1) := by rw [← hc]; simp
    have next : ∀ (e' : Env) (h' : AH) (c' : List Int), e' 1 = .pointer (some ⟨h.length, 0, none⟩) → e' 3 = .pointer (some ⟨h1.length, 0, none⟩) → e' 15 = .slice (some ⟨I, 0, none⟩) m.pm.n m.pm.n → e' 16 = .int .i64 (m.pm.n : Nat) → e' 17 = .int .i64 ((i : Int) + 1) →
        ExF (fun j => j = h1.length) h3 h' → h'[h1.length]? = some (.row (moRow u m ++ [.slice (some ⟨I, 0, none⟩) m.pm.n m.pm.n, .slice av nv cv, .int .i64 (0 : Nat)]) true) → OwnG 1 (fun j => h3.length ≤ j) h' (.slice av nv cv) (i + 1) (flat eI c') → c'.length = i + 1 → (∀ p, p < i → c'[p]? = c[p]?) → ((Rch m.pm i → c'[i]? = some 0) ∧ (¬ Rch m.pm i → c'[i]? = some (-1))) → J e' h' :=
      fun e' h' c' t1 t3 t15 t16 t17 y gy oy ly hy1 hy2 => ih (m.pm.n - (i + 1)) _ _ (by omega) ⟨i + 1, c', _, by omega, rfl, t1, t3, t15, t16, t17, y, gy, oy, ly, fun p hp => by
        by_cases ep : p = i
        · subst ep; exact hy2
        · rw [hy1 p (by omega)]; exact hall p (by omega)⟩
    have old : ∀ p, p < i → (c ++ [-1])[p]? = c[p]? := fun p hp => List.getElem?_append_left (by omega)
    cases b with
    | true =>
      have ri : Rch m.pm i := (hrch i).1 hb
      refine c_t (w_nilc (w_offP (w_rdP gX7 (v := .slice av nv cv) rfl (w_nilc (w_offP (w_rdP gX7 (v := .slice av nv cv) rfl ?_))))))
      refine w_len oc7.sl (w_sub (by omega) (by omega) ?_)
      have e5 : (((i + 1 : Nat) : Int)) - 1 = ((i : Nat) : Int) := by omega
      rw [e5]
      refine w_stG (K := fun v41 h_8 => optW (pBin Try.prog .add 3 (.int .i64 (i : Nat)) (.int .i64 1)) fun v42 => J _ h_8) oc7 (by omega) rfl rfl fun q8 h8 s1 s2 s3 => ?_
      refine w_add (by omega) (by omega) ?_
      rw [flat_eI_set] at s1
      refine next _ _ _ e1 e3 e15 e16 rfl ⟨by rw [s2]; exact x47.len, fun j hj hf => (s3 j fun hh => by have := (oc7.on hh).1; omega).trans (x47.get j hj hf)⟩ ((s3 _ fun hh => by have := (oc7.on hh).1; omega).trans gX7) s1 (by rw [List.length_set, List.length_append, hc]; rfl) (fun p hp => by rw [List.getElem?_set_ne (by omega)]; exact old p hp) ⟨fun _ => by rw [List.getElem?_set_self (by rw [List.length_append, hc]; simp)], fun h => absurd ri h⟩
    | false =>
      have nri : ¬ Rch m.pm i := fun r => by rw [(hrch i).2 r] at hb; cases hb
      refine c_f (w_add (by omega) (by omega) ?_)
      exact next _ _ _ e1 e3 e15 e16 rfl x47 gX7 oc7 (by rw [List.length_append, hc]; rfl) old ⟨fun h => absurd h nri, fun _ => hlast⟩
  · have ei : i = m.pm.n := by omega
    subst ei
    obtain ⟨C, hC, hP⟩ : ∃ C, h3.length ≤ C ∧ OwnG 1 (fun j => j = C) h4 vc c.length (flat eI c) := by
      obtain ⟨hl, ⟨_, h0⟩ | ⟨id, cc, hid, hv, hg⟩⟩ := oc
      · have := ok.n1; omega
      · exact ⟨id, hid, by rw [hc]; exact hl, .inr ⟨id, cc, rfl, by rw [hc]; exact hv, by rw [hc]; exact hg⟩⟩
    have lC4 : C < h4.length := by
      have hon : onId vc C := by
        obtain ⟨_, ⟨_, h0⟩ | ⟨id, cc, hid, hv, hg⟩⟩ := hP
        · have := ok.n1; omega
        · have : id = C := hid
          subst this
          rw [hv]; exact rfl
      exact (hP.on hon).2
    have P4 : Part h4 h1.length C u m (.slice (some ⟨I, 0, none⟩) m.pm.n m.pm.n) vc c 0 := ⟨gX4, hP, by omega⟩
    have C4 : Canon m.pm.n (Rch m.pm) (fun _ _ => True) c 1 := by
      refine ⟨hc, fun p hp h => (hall p hp).2 h, fun p hp h => ⟨0, by omega, (hall p hp).1 h⟩, fun p q hp hq rp rq => ⟨fun _ => trivial, fun _ => by rw [(hall p hp).1 rp, (hall q hq).1 rq]⟩, fun p d hp h e he => ?_, fun d hd => ?_⟩
      · by_cases rp : Rch m.pm p
        · rw [(hall p hp).1 rp] at h
          injection h with h
          omega
        · rw [(hall p hp).2 rp] at h
          injection h with h
          omega
      · have := ok.en 0 ok.k1
        exact ⟨m.pm.en 0, this.1, by rw [(hall _ this.1).1 (.en ok.k1)]; congr 1; omega⟩
    have x14 : Ex h1 h4 := ExF.base x13 x4 fun j hj => by omega
    have x04 := x1.trans x14
    have gb4 : h4[h.length]? = some (.row (moRow u m) true) := x14.some g1'
    have nb : ¬ XC h1.length C h.length := fun hf => by rcases hf with hf | hf <;> omega
    have hF : ∀ j, XC h1.length C j → h.length ≤ j := fun j hj => by rcases hj with rfl | rfl <;> omega
    refine split52' (b := fun p => m.pm.of p) P4 C4 hn60 (fun h' p K' y hp rp k' => cls53 v (y.some gb4 nb) (mh.ex (ExF.base x04 y hF)) hp k') fun h5 c5 cnt5 x5 P5 C5 => ?_
    refine split52' (b := fun p => if m.pm.fi p = true then 1 else 0) P5 C5 hn60 (fun h' p K' y hp rp k' => cls54 v (y.some (x5.some gb4 nb) nb) (mh.ex (ExF.base x04 (x5.trans y) hF)) hp k') fun h6 c6 cnt6 x6 P6 C6 => ?_
    have C6' : Canon m.pm.n (Rch m.pm) (E m.pm 0) c6 cnt6 := C6.congr (fun _ _ => Iff.rfl) fun p q _ _ _ _ => by
      constructor
      · rintro ⟨⟨_, h1⟩, h2⟩
        refine ⟨h1, ?_⟩
        cases hp : m.pm.fi p <;> cases hq : m.pm.fi q <;> simp_all
      · rintro ⟨h1, h2⟩
        exact ⟨⟨trivial, h1⟩, by rw [h2]⟩
    have x46 := x5.trans x6
    refine w_some (v := eArr (0, 0)) rfl ?_
    refine n_var rfl rfl rfl fun h7 x7 l7 g7 => ?_
    have x47 := x46.trans (.ex x7)
    have l46 := x46.len
    refine loopE_intro (fun mm e' h' => ∃ (t w1 w2 W cnt : Nat) (c : List Int), mm = m.pm.n + 2 - w1 ∧ e' 3 = .pointer (some ⟨h1.length, 0, none⟩) ∧ e' 6 = .pointer (some ⟨W, 0, none⟩) ∧ h4.length ≤ W ∧ h'[W]? = some (.row [.int .i64 (w1 : Nat), .int .i64 (w2 : Nat)] true) ∧
        ExF (XC h1.length C) h4 h' ∧ Part h' h1.length C u m (.slice (some ⟨I, 0, none⟩) m.pm.n m.pm.n) vc c cnt ∧ Canon m.pm.n (Rch m.pm) (E m.pm t) c cnt ∧ (w1 = 0 ∨ ∃ t' c', t = t' + 1 ∧ Canon m.pm.n (Rch m.pm) (E m.pm t') c' w1 ∧ w2 = up0 c')) (m.pm.n + 2)
      ⟨0, 0, 0, h6.length, cnt6, c6, rfl, e3, rfl, l46, g7, x47, P6.ex x7, C6', .inl rfl⟩ ?_
    clear ih hmm e1 e3 e15 e16 e17 q
    clear e mm J
    rintro J mm e h8 ⟨t, w1, w2, W, cnt, c8, hmm, e3, e6, hW, gW, x8, P8, C8, hw⟩ ih
    rw [e3, e6]
    have hc8 := C8.len
    have c1 : 1 ≤ cnt := by
      obtain ⟨d, hd, _⟩ := C8.re (m.pm.en 0) (ok.en 0 ok.k1).1 (.en ok.k1)
      omega
    have cn := C8.le
    refine w_rdPA gW (Nat.le_refl 2) ?_
    refine size55 P8 (by omega) fun h9 x9 => ?_
    refine ⟨ptr_id (x9.get _ (lt_of_get gW)), ?_⟩
    show optW (pBin Try.prog .neq 80 (eArr ((w1 : Nat), (w2 : Nat))) (eArr ((cnt : Nat), (up0 c8 : Nat)))) _
    refine w_neqA (c_dec (fun q => ?_) (fun q => ?_))
    · have lt : w1 < cnt := by
        rcases hw with h0 | ⟨t', c', et, C', ew⟩
        · omega
        · subst et
          have := (C'.mono C8 fun p q _ _ _ _ h => h.1).1
          have eu := up0_eq C' C8
          by_cases e : w1 = cnt
          · exact absurd (by rw [e, ew, eu]) q
          · omega
      refine size55 (P8.ex x9) (by omega) fun h10 x10 => ?_
      have x810 := x9.trans x10
      refine w_stPA (x810.some gW) rfl (Nat.le_refl 2) rfl ?_
      have lW := lt_of_get (x810.some gW)
      have nW : ∀ j, XC h1.length C j → j ≠ W := fun j hj => by rcases hj with rfl | rfl <;> (have := x4.len; omega)
      have gW11 : (h10.set W (.row (spliceL [.int .i64 (w1 : Nat), .int .i64 (w2 : Nat)] 0 (cellsL (eArr ((cnt : Nat), (up0 c8 : Nat))))) true))[W]? = some (.row [.int .i64 (cnt : Nat), .int .i64 (up0 c8 : Nat)] true) := get_set _ lW _
      have x11 : ExF (XC h1.length C) h4 (h10.set W (.row (spliceL [.int .i64 (w1 : Nat), .int .i64 (w2 : Nat)] 0 (cellsL (eArr ((cnt : Nat), (up0 c8 : Nat))))) true)) := ExF.new (x8.trans (.ex x810)) hW _
      have P11 : Part (h10.set W (.row (spliceL [.int .i64 (w1 : Nat), .int .i64 (w2 : Nat)] 0 (cellsL (eArr ((cnt : Nat), (up0 c8 : Nat))))) true)) h1.length C u m (.slice (some ⟨I, 0, none⟩) m.pm.n m.pm.n) vc c8 cnt := by
        have P10 := P8.ex x810
        exact ⟨(get_ne (Ne.symm (nW _ (.inl rfl))) _).trans P10.row, P10.cls.mono (fun _ _ h => h) fun j hj hf => get_ne (Ne.symm (nW j (.inr hf))) _, P10.ne⟩
      generalize h10.set W (.row (spliceL [.int .i64 (w1 : Nat), .int .i64 (w2 : Nat)] 0 (cellsL (eArr ((cnt : Nat), (up0 c8 : Nat))))) true) = h11 at gW11 x11 P11 ⊢
      refine round56 v mh (ExF.base x04 x11 hF) (by omega) (by omega) (by have := x11.len; omega) P11 C8 fun h12 c12 cnt12 x12 P12 C12 => ?_
      have gW12 := x12.some gW11 fun hf => nW _ hf rfl
      refine w_rdPA gW12 (Nat.le_refl 2) ?_
      refine n_var rfl rfl rfl fun h13 x13' l13 g13 => ?_
      exact ih (m.pm.n + 2 - cnt) _ _ (by omega) ⟨t + 1, cnt, up0 c8, h12.length, cnt12, c12, rfl, e3, rfl, by have := x11.len; have := x12.len; omega, g13, (x11.trans x12).trans (.ex x13'), P12.ex x13', C12, .inr ⟨t, c8, rfl, C8, rfl⟩⟩
    · have q' := Decidable.not_not.1 q
      injection q' with q1 q2
      rcases hw with h0 | ⟨t', c', et, C', ew⟩
      · omega
      · subst et
        have e1 : w1 = cnt := by omega
        have st := (C'.mono C8 fun p q _ _ _ _ h => h.1).2 e1
        have stable : ∀ p q, Rch m.pm p → Rch m.pm q → E m.pm t' p q → E m.pm (t' + 1) p q := fun p q rp rq h => st p q (rp.lt ok) (rq.lt ok) rp rq h
        refine k h9 h1.length C _ vc c8 cnt ((ExF.base x04 x8 hF).trans x9) (by omega) (by omega) (by have := x8.len; have := x9.len; omega) (P8.ex x9) (C8.congr (fun _ _ => Iff.rfl) fun p q hp hq rp rq => ⟨fun h => EE.of_stable stable rp rq h.1, fun h => h _⟩)
theorem classes24 {h : AH} {u : MoV} {m : Mo} {K : Value → AH → Prop} (mh : MoH h u m) (kf : ¬ Valid m → ∀ h', Ex h h' → K (.slice none 0 0) h')
    (kt : Valid m → ∀ h' vc c cnt, Ex h h' → OwnG 1 (fun j => h.length ≤ j) h' vc c.length (flat eI c) → Canon m.pm.n (Rch m.pm) (EE m.pm) c cnt → K vc h') : callW Try.prog 24 [.agg (moRow u m).toArray] h K := by
  refine c24 ?_
  unfold s24
  refine n_boxv rfl fun h1 x1 l1 g1 => ?_
  have g1' : h1[h.length]? = some (.row (moRow u m) true) := g1
  refine w_rdPA g1' (Nat.le_refl 8) ?_
  refine check15 (mh.ex x1) (fun nv h2 x2 => w_neq (c_tt (by decide) (kf nv _ (x1.trans x2)))) fun v h2 x2 => w_neq (c_ff (by decide) ?_)
  refine w_rdPA (x2.some g1') (Nat.le_refl 8) ?_
  refine classes38 v (mh.ex (x1.trans x2)) fun h3 X C vis vc c cnt x3 hX hC lC P Ca => ?_
  refine w_nilc (w_offP (w_rdP P.row (v := vc) rfl ?_))
  exact kt v _ _ c cnt ((x1.trans x2).trans x3) (P.cls.mono (fun j _ hj => by have := x1.len; have := x2.len; have : j = C := hj; show h.length ≤ j; omega) fun _ _ _ => rfl) Ca
end Go.Proofs.Ytnpbehfhncbjfaa.W
end

section
/- Fold's laws: the small machine: its parts. Conditions: none. -/
namespace Go.Proofs.Ytnpbehfhncbjfaa.W
open Go Go.AM FoldPM
set_option linter.unusedVariables false
set_option maxRecDepth 100000
theorem cloneG {e tt : Nat} {z : Value} {h : AH} {v : Value} {n : Nat} {cs : List Value} {K : Value → AH → Prop} (ht : Try.prog.underlying tt = some (.slice e)) (hv : Sl 1 h v n cs) (hn : n ≤ 100000) (k : ∀ v' h', Ex h h' → Sl 1 h' v' n cs → (∀ j, onId v' j → h.length ≤ j ∧ j < h'.length) → K v' h') :
    optW (pBin Try.prog .eql tt v (.slice none 0 0)) fun v4 => condW v4 (K (.slice none 0 0) h) (optW (bldSl 1 [z] 0 []) fun c => newW none (.row c true) h fun i h_1 => appSl 1 (.slice (some ⟨i, 0, none⟩) 0 0) v h_1 fun v7 h_2 => K v7 h_2) := by
  obtain ⟨a, cap, e⟩ := hv.shape
  have hv' := hv
  rw [e]
  rw [e] at hv'
  refine w_slnil ht ?_
  cases a with
  | none =>
    have n0 : n = 0 := by
      rcases hv'.2 with ⟨e2, h0⟩ | ⟨id, off, cap', e2, _⟩
      · exact h0
      · cases e2
    subst n0
    have : cs = [] := List.eq_nil_of_length_eq_zero (by have := hv.1; omega)
    subst this
    exact c_t (k _ _ (Ex.refl _) ⟨rfl, .inl ⟨rfl, rfl⟩⟩ fun j hj => hj.elim)
  | some ad => exact c_f (clone_tail (s := 1) (z := [z]) rfl Nat.zero_lt_one hv' (by have := bigR; omega) k)
theorem clone41 {h : AH} {v : Value} {n : Nat} {cs : List Value} {K : Value → AH → Prop} (hv : Sl 1 h v n cs) (hn : n ≤ 100000) (k : ∀ v' h', Ex h h' → Sl 1 h' v' n cs → (∀ j, onId v' j → h.length ≤ j ∧ j < h'.length) → K v' h') : callW Try.prog 41 [v] h K := by
  refine c41 ?_
  unfold s41
  exact cloneG (e := 22) (by kernel_rfl) hv hn k
theorem clone42 {h : AH} {v : Value} {n : Nat} {cs : List Value} {K : Value → AH → Prop} (hv : Sl 1 h v n cs) (hn : n ≤ 100000) (k : ∀ v' h', Ex h h' → Sl 1 h' v' n cs → (∀ j, onId v' j → h.length ≤ j ∧ j < h'.length) → K v' h') : callW Try.prog 42 [v] h K := by
  refine c42 ?_
  unfold s42
  exact cloneG (e := 4) (by kernel_rfl) hv hn k
theorem clone43 {h : AH} {v : Value} {n : Nat} {cs : List Value} {K : Value → AH → Prop} (hv : Sl 1 h v n cs) (hn : n ≤ 100000) (k : ∀ v' h', Ex h h' → Sl 1 h' v' n cs → (∀ j, onId v' j → h.length ≤ j ∧ j < h'.length) → K v' h') : callW Try.prog 43 [v] h K := by
  refine c43 ?_
  unfold s43
  exact cloneG (e := 25) (by kernel_rfl) hv hn k
def cOf (c : List Int) (x : Int) : Int := c.getD x.toNat 0
theorem to39W {h : AH} {v : Value} {l c : List Int} {P X C cnt : Nat} {u : MoV} {m : Mo} {vis vc : Value} {K : Value → AH → Prop} (hl : Ints h v l) (sz : l.length ≤ 1000) (gP : h[P]? = some (.row [.pointer (some ⟨X, 0, none⟩)] true)) (Pa : Part h X C u m vis vc c cnt) (el : ∀ x ∈ l, 0 ≤ x ∧ x.toNat < c.length)
    (k : ∀ v' h', Ex h h' → Ints h' v' (l.map (cOf c)) → (∀ j, onId v' j → h.length ≤ j ∧ j < h'.length) → RowW h' v' → K v' h') : callW Try.prog 39 [v, .pointer (some ⟨P, 0, none⟩)] h K := by
  refine c39 ?_
  unfold s39
  refine w_len hl ?_
  refine loopE_intro (fun mm e h' => ∃ i : Nat, i ≤ l.length ∧ mm = l.length - i ∧ e 1 = .pointer (some ⟨P, 0, none⟩) ∧ e 7 = v ∧ e 8 = .int .i64 (l.length : Nat) ∧ e 9 = .int .i64 (i : Nat) ∧ Ex h h' ∧ OwnG 1 (fun j => h.length ≤ j) h' (e 4) i (flat eI ((l.take i).map (cOf c)))) l.length
    ⟨0, Nat.zero_le _, rfl, rfl, rfl, rfl, rfl, Ex.refl _, OwnG.nil _ _ _⟩ ?_
  rintro I mm e h1 ⟨i, hi, hmm, e1, e7, e8, e9, x1, o1⟩ ih
  rw [e7, e8, e9, e1]
  refine w_lss (c_dec (fun q => ?_) (fun q => ?_))
  · obtain ⟨x, hx⟩ := getElem?_of_lt (l := l) (i := i) (by omega)
    obtain ⟨x0, xn⟩ := el x (List.mem_of_getElem? hx)
    obtain ⟨y, hy⟩ := getElem?_of_lt (l := c) (i := x.toNat) xn
    have P1 := Pa.ex x1
    refine w_idxN eI_len (Sl.ex hl x1) hx fun z hz => w_rd1 hz rfl ?_
    refine w_rdP (x1.some gP) rfl (w_nilc (w_offP (w_rdP P1.row (v := vc) rfl ?_)))
    refine w_idxT eI_len P1.cls.sl x0 hy fun z hz => w_rd1 hz rfl ?_
    refine bldT rfl (by decide) rfl rfl (n_newv fun h2 x2 l2 g2 => appSl_of ?_)
    have o2 := o1.mono (F' := fun j => h.length ≤ j) (h' := h2) (fun _ _ h => h) fun j hj _ => x2.get j (o1.on hj).2
    refine app_g (by decide) o2 (srcL_new (n := 1) (s := 1) g2 (by decide) rfl) rfl (by have := bigR; omega) fun v' h3 a1 a2 a3 a4 => ?_
    refine w_add (by omega) (by omega) ?_
    have e5 : (l.take (i + 1)).map (cOf c) = (l.take i).map (cOf c) ++ [y] := by
      rw [take_succ_get hx, List.map_append]
      congr 1
      show [cOf c x] = [y]
      unfold cOf
      rw [getD_some hy]
    refine ih (l.length - (i + 1)) _ _ (by omega) ⟨i + 1, by omega, rfl, e1, e7, e8, rfl, (x1.trans x2).below a2 fun j hj => a3 j (by have := x1.len; have := x2.len; omega) fun hh => by have := (o1.on hh).1; omega, ?_⟩
    show OwnG 1 (fun j => h.length ≤ j) h3 v' _ _
    rw [e5, flat_append]
    exact OwnG.mono a1 (fun j _ hj => hj.elim id fun e => by have := x1.len; have := x2.len; show h.length ≤ j; omega) fun _ _ _ => rfl
  · have hall : l.take i = l := List.take_of_length_le (by omega)
    rw [hall] at o1
    refine clone40W o1.sl (by omega) fun v' h2 x2 s2 on2 w2 => ?_
    refine k _ _ (x1.trans x2) ?_ (fun j hj => ⟨by have := (on2 j hj).1; have := x1.len; omega, (on2 j hj).2⟩) w2
    have e : i = (l.map (cOf c)).length := by rw [List.length_map]; omega
    rw [e] at s2
    exact s2
theorem to39 {h : AH} {v : Value} {l c : List Int} {P X C cnt : Nat} {u : MoV} {m : Mo} {vis vc : Value} {K : Value → AH → Prop} (hl : Ints h v l) (sz : l.length ≤ 1000) (gP : h[P]? = some (.row [.pointer (some ⟨X, 0, none⟩)] true)) (Pa : Part h X C u m vis vc c cnt) (el : ∀ x ∈ l, 0 ≤ x ∧ x.toNat < c.length)
    (k : ∀ v' h', Ex h h' → Ints h' v' (l.map (cOf c)) → (∀ j, onId v' j → h.length ≤ j ∧ j < h'.length) → K v' h') : callW Try.prog 39 [v, .pointer (some ⟨P, 0, none⟩)] h K :=
  to39W hl sz gP Pa el fun v' h' x i o _ => k v' h' x i o
structure SMs (h : AH) (T : Nat) (v : Nat → Value) (cs : Nat → List Value) (Z : Nat → Prop) : Prop where
  sl : SL h T v cs
  z : ∀ j, Z j → T < j ∧ j < h.length ∧ ∀ i, i < 11 → ¬ onId (v i) j
theorem SMs.ex {h h' : AH} {T : Nat} {v : Nat → Value} {cs : Nat → List Value} {Z : Nat → Prop} (s : SMs h T v cs Z) (x : Ex h h') : SMs h' T v cs Z := ⟨s.sl.ex x, fun j hj => ⟨(s.z j hj).1, x.lt (s.z j hj).2.1, (s.z j hj).2.2⟩⟩
theorem SMs.exT {h h' : AH} {T : Nat} {v : Nat → Value} {cs : Nat → List Value} {Z : Nat → Prop} (s : SMs h T v cs Z) (hl : h.length ≤ h'.length) (hh : ∀ j, T < j → j < h.length → h'[j]? = h[j]?) : SMs h' T v cs Z := ⟨s.sl.keep hh, fun j hj => ⟨(s.z j hj).1, by have := (s.z j hj).2.1; omega, (s.z j hj).2.2⟩⟩
theorem SMs.addZ {h h' : AH} {T : Nat} {v : Nat → Value} {cs : Nat → List Value} {Z : Nat → Prop} {W : Nat → Prop} (s : SMs h T v cs Z) (x : Ex h h') (hT : T < h.length) (hW : ∀ j, W j → h.length ≤ j ∧ j < h'.length) : SMs h' T v cs (fun j => Z j ∨ W j) := by
  refine ⟨s.sl.ex x, fun j hj => ?_⟩
  rcases hj with hj | hj
  · exact (s.ex x).z j hj
  · have := hW j hj
    exact ⟨by omega, this.2, fun i hi hh => by have := (s.sl.on hi hh).2; omega⟩
theorem SMs.reset {h : AH} {T : Nat} {v : Nat → Value} {cs : Nat → List Value} {Z : Nat → Prop} (s : SMs h T v cs Z) (i : Nat) : SMs h T (updV v i (.slice none 0 0)) (updC cs i []) Z := by
  refine ⟨s.sl.reset i, fun j hj => ⟨(s.z j hj).1, (s.z j hj).2.1, fun k hk hh => ?_⟩⟩
  unfold updV at hh
  by_cases e : k = i
  · rw [if_pos e] at hh; exact hh
  · rw [if_neg e] at hh; exact (s.z j hj).2.2 k hk hh
theorem SMs.app {hk : AH} {T r i : Nat} {v : Nat → Value} {cs : Nat → List Value} {Z : Nat → Prop} {x z w : Value} {Q : List Value → Nat → Value → AH → Prop} (s : SMs hk T v cs Z) (hi : i < 11) (hT : T < r) (hr : hk[r]? = some .dead) (hz : ¬ Z r) (hw : w = v i) (hx : cellsL x = [x]) (h1 : x.oneCell' = true) (hn : (cs i).length ≤ 1000)
    (k : ∀ c j v' h', SMs h' T (updV v i v') (updC cs i (cs i ++ [x])) Z → (∃ a n c, v' = .slice a n c) → hk.length ≤ h'.length → (∀ j, j ≤ T → h'[j]? = hk[j]?) → (∀ j, Z j → h'[j]? = hk[j]?) → Q c j v' h') :
    optW (bldSl 1 [z] 1 [(0, x)]) fun c => newW (some r) (.row c true) hk fun j h15 => appSl 1 w (.slice (some ⟨j, 0, none⟩) 1 1) h15 fun v' h' => Q c j v' h' := by
  subst hw
  refine bldT rfl (by decide) (by rw [hx]; rfl) (by rw [hx]; simp [h1]) (n_slot ?_)
  rw [hx]
  have lr := lt_of_get hr
  have nr : ∀ i, i < 11 → ¬ onId (v i) r := fun i hi hh => by
    obtain ⟨_, ⟨hv, _⟩ | ⟨id, c, _, hv, g, _⟩⟩ := s.sl.own i hi
    · rw [hv] at hh; exact hh
    · rw [hv] at hh
      have : id = r := hh
      subst this
      rw [hr] at g
      cases g
  have s1 : SL (hk.set r (.row [x] true)) T v cs := ⟨fun i hi => (s.sl.own i hi).mono (fun _ _ h => h) fun j hj _ => get_ne (by intro e; subst e; exact nr i hi hj) _, s.sl.ap⟩
  refine s1.app i hi (get_set _ lr _) (by rw [List.length_set]; omega) nr (by have := bigR; omega) fun v' h' a1 a2 a3 a4 a5 => ?_
  rw [List.length_set] at a3 a4 a5
  obtain ⟨ad, nd, cd, ev⟩ : ∃ a n c, v' = .slice a n c := by
    have := (a1.own i hi)
    unfold updV at this
    rw [if_pos rfl] at this
    obtain ⟨a, n, c, e⟩ := Sl.isSl this.sl
    exact ⟨a, n, c, e⟩
  have hZ : ∀ j, Z j → h'[j]? = hk[j]? := fun j hj => by
    have := s.z j hj
    rw [a4 j this.2.1 this.2.2]
    exact get_ne (by intro e; subst e; exact hz hj) _
  refine k _ _ v' h' ⟨a1, fun j hj => ⟨(s.z j hj).1, by have := (s.z j hj).2.1; omega, fun b hb hh => ?_⟩⟩ ⟨ad, nd, cd, ev⟩ a3 (fun j hj => by rw [a2 j hj]; exact get_ne (by omega) _) hZ
  unfold updV at hh
  by_cases e : b = i
  · rw [if_pos e] at hh
    rcases a5 j hh with h | h
    · exact (s.z j hj).2.2 i hi h
    · have := (s.z j hj).2.1; omega
  · rw [if_neg e] at hh
    exact (s.z j hj).2.2 b hb hh
def RowsZ (h : AH) (Z : Nat → Prop) (vals : List Value) (ls : List (List Int)) : Prop := vals.length = ls.length ∧ ∀ (i : Nat) (l : List Int), ls[i]? = some l → ∃ w, vals[i]? = some w ∧ Ints h w l ∧ ∀ j, onId w j → Z j
def RetsZ (h : AH) (Z : Nat → Prop) (vals : List Value) (rs : List (List (List Int))) : Prop := vals.length = rs.length ∧ ∀ (i : Nat) (r : List (List Int)), rs[i]? = some r → ∃ w vs, vals[i]? = some w ∧ Sl 1 h w r.length vs ∧ (∀ j, onId w j → Z j) ∧ RowsZ h Z vs r
theorem RowsZ.nil (h : AH) (Z : Nat → Prop) : RowsZ h Z [] [] := ⟨rfl, fun i l hl => by simp at hl⟩
theorem RetsZ.nil (h : AH) (Z : Nat → Prop) : RetsZ h Z [] [] := ⟨rfl, fun i l hl => by simp at hl⟩
theorem RowsZ.to {h h' : AH} {Z Z' : Nat → Prop} {vals : List Value} {ls : List (List Int)} (r : RowsZ h Z vals ls) (hz : ∀ j, Z j → Z' j) (hh : ∀ j, Z j → h'[j]? = h[j]?) : RowsZ h' Z' vals ls :=
  ⟨r.1, fun i l hl => by obtain ⟨w, h1, h2, h3⟩ := r.2 i l hl; exact ⟨w, h1, Sl.keepOn h2 fun j hj => hh j (h3 j hj), fun j hj => hz j (h3 j hj)⟩⟩
theorem RetsZ.to {h h' : AH} {Z Z' : Nat → Prop} {vals : List Value} {rs : List (List (List Int))} (r : RetsZ h Z vals rs) (hz : ∀ j, Z j → Z' j) (hh : ∀ j, Z j → h'[j]? = h[j]?) : RetsZ h' Z' vals rs :=
  ⟨r.1, fun i l hl => by obtain ⟨w, vs, h1, h2, h3, h4⟩ := r.2 i l hl; exact ⟨w, vs, h1, Sl.keepOn h2 fun j hj => hh j (h3 j hj), fun j hj => hz j (h3 j hj), h4.to hz hh⟩⟩
theorem RowsZ.snoc {h : AH} {Z : Nat → Prop} {vals : List Value} {ls : List (List Int)} {v : Value} {l : List Int} (r : RowsZ h Z vals ls) (hv : Ints h v l) (hz : ∀ j, onId v j → Z j) : RowsZ h Z (vals ++ [v]) (ls ++ [l]) := by
  refine ⟨by simp [r.1], fun i l' hl => ?_⟩
  rcases getElem?_snoc hl with hl | ⟨rfl, rfl⟩
  · obtain ⟨w, h1, h2⟩ := r.2 i l' hl
    exact ⟨w, by rw [List.getElem?_append_left (List.getElem?_eq_some_iff.1 h1).1]; exact h1, h2⟩
  · exact ⟨v, by rw [← r.1]; simp, hv, hz⟩
theorem RetsZ.snoc {h : AH} {Z : Nat → Prop} {vals : List Value} {rs : List (List (List Int))} {v : Value} {vs : List Value} {r' : List (List Int)} (r : RetsZ h Z vals rs) (hv : Sl 1 h v r'.length vs) (hz : ∀ j, onId v j → Z j) (hr : RowsZ h Z vs r') : RetsZ h Z (vals ++ [v]) (rs ++ [r']) := by
  refine ⟨by simp [r.1], fun i l' hl => ?_⟩
  rcases getElem?_snoc hl with hl | ⟨rfl, rfl⟩
  · obtain ⟨w, ws, h1, h2⟩ := r.2 i l' hl
    exact ⟨w, ws, by rw [List.getElem?_append_left (List.getElem?_eq_some_iff.1 h1).1]; exact h1, h2⟩
  · exact ⟨v, vs, by rw [← r.1]; simp, hv, hz, hr⟩
theorem RowsZ.rows {h : AH} {Z : Nat → Prop} {v : Value} {vals : List Value} {ls : List (List Int)} (r : RowsZ h Z vals ls) (hv : Sl 1 h v ls.length vals) : RowsR h v ls := ⟨vals, hv, fun i l hl => by obtain ⟨w, h1, h2, _⟩ := r.2 i l hl; exact ⟨w, h1, h2⟩⟩
theorem RetsZ.rets {h : AH} {Z : Nat → Prop} {v : Value} {vals : List Value} {rs : List (List (List Int))} (r : RetsZ h Z vals rs) (hv : Sl 1 h v rs.length vals) : RetsR h v rs := ⟨vals, hv, fun i l hl => by obtain ⟨w, vs, h1, h2, _, h4⟩ := r.2 i l hl; exact ⟨w, h1, h4.rows h2⟩⟩
def Fst (c : List Int) (d p : Nat) : Prop := c[p]? = some (d : Int) ∧ ∀ q, q < p → c[q]? ≠ some (d : Int)
theorem Fst.uniq {c : List Int} {d p q : Nat} (h : Fst c d p) (k : Fst c d q) : p = q := by
  rcases Nat.lt_trichotomy p q with h1 | h1 | h1
  · exact absurd h.1 (k.2 p h1)
  · exact h1
  · exact absurd k.1 (h.2 q h1)
def smOf (m : Mo) (f : Nat → Nat) (d : Nat) : List Int := (List.range d).map fun e => m.Of.getD (f e) 0
def smFi (m : Mo) (f : Nat → Nat) (d : Nat) : List Bool := (List.range d).map fun e => m.Fi.getD (f e) false
def smIn (m : Mo) (c : List Int) (f : Nat → Nat) (d : Nat) : List (List Int) := (List.range d).map fun e => (m.In.getD (f e) []).map (cOf c)
def smLow (m : Mo) (c : List Int) (f : Nat → Nat) (d : Nat) : List (List Int) := (List.range d).map fun e => (m.Low.getD (f e) []).map (cOf c)
def smRow (c : List Int) (f : Nat → Nat) (l : List Int) (d : Nat) : List Int := (List.range d).map fun e => cOf c (l.getD (f e) 0)
def smRet (m : Mo) (c : List Int) (cnt : Nat) (f : Nat → Nat) (d : Nat) : List (List (List Int)) := (List.range d).map fun e => (m.Ret.getD (f e) []).map fun l => smRow c f l cnt
def sm (m : Mo) (c : List Int) (cnt : Nat) (f : Nat → Nat) : Mo := ⟨m.pl, m.cl, smOf m f cnt, m.En.map (cOf c), smFi m f cnt, smIn m c f cnt, smLow m c f cnt, smRet m c cnt f cnt⟩
theorem range_succ {α : Type} (g : Nat → α) (d : Nat) : (List.range (d + 1)).map g = (List.range d).map g ++ [g d] := by rw [List.range_succ, List.map_append]; rfl
theorem map_congr {α : Type} {g g' : Nat → α} {d : Nat} (h : ∀ e, e < d → g e = g' e) : (List.range d).map g = (List.range d).map g' := List.map_congr_left fun e he => h e (List.mem_range.1 he)
theorem sm_congr {m : Mo} {c : List Int} {cnt : Nat} {f f' : Nat → Nat} (h : ∀ d, d < cnt → f d = f' d) : sm m c cnt f = sm m c cnt f' := by
  have hr : ∀ l, smRow c f l cnt = smRow c f' l cnt := fun l => map_congr fun e he => by rw [h e he]
  unfold sm
  congr 1
  · exact map_congr fun e he => by rw [h e he]
  · exact map_congr fun e he => by rw [h e he]
  · exact map_congr fun e he => by rw [h e he]
  · exact map_congr fun e he => by rw [h e he]
  · exact map_congr fun e he => by rw [h e he]; exact List.map_congr_left fun l _ => hr l
end Go.Proofs.Ytnpbehfhncbjfaa.W
end

section
/- Fold's laws: the small machine under way: steps. Conditions: none. -/
namespace Go.Proofs.Ytnpbehfhncbjfaa.W
open Go Go.AM FoldPM
set_option linter.unusedVariables false
set_option maxRecDepth 100000
theorem n_unres {o : AObj} {h : AH} {K : Nat → AH → Prop} (k : newW (some h.length) o (reserve 1 h) K) : newW none o h K := by
  have : K h.length ((reserve 1 h).set h.length o) := k
  rw [reserve_set] at this
  exact this
theorem SMs.appF {hk : AH} {T r i f : Nat} {v : Nat → Value} {cs : Nat → List Value} {Z : Nat → Prop} {row : List Value} {x z w : Value} {Q : List Value → Nat → Value → Value → AH → Prop} (s : SMs hk T v cs Z) (hi : i < 11) (hT : T < r) (hr : hk[r]? = some .dead) (hz : ¬ Z r) (hw : w = v i) (hx : cellsL x = [x]) (h1 : x.oneCell' = true) (hn : (cs i).length ≤ 1000)
    (gT : hk[T]? = some (.row row true)) (hf : f < row.length)
    (k : ∀ c j v' q h', SMs h' T (updV v i v') (updC cs i (cs i ++ [x])) Z → h'[T]? = some (.row (row.set f v') true) → hk.length ≤ h'.length → (∀ j, j < T → h'[j]? = hk[j]?) → (∀ j, Z j → h'[j]? = hk[j]?) → Q c j v' q h') :
    optW (bldSl 1 [z] 1 [(0, x)]) fun c => newW (some r) (.row c true) hk fun j h15 => appSl 1 w (.slice (some ⟨j, 0, none⟩) 1 1) h15 fun v' h16 => optW (pOff f (.pointer (some ⟨T, 0, none⟩))) fun q => optW (pStore 1 q v' h16) fun h' => Q c j v' q h' := by
  refine s.app (Q := fun c j v' h16 => optW (pOff f (.pointer (some ⟨T, 0, none⟩))) fun q => optW (pStore 1 q v' h16) fun h' => Q c j v' q h') hi hT hr hz hw hx h1 hn fun c j v' h16 s' ⟨a, n, cc, ev⟩ l1 hTs hZs => ?_
  subst ev
  have g16 := (hTs T (Nat.le_refl _)).trans gT
  refine w_offP (w_stP g16 (by rw [Nat.zero_add]; exact hf) rfl rfl ?_)
  rw [Nat.zero_add]
  refine k _ _ _ _ _ (s'.exT (by rw [List.length_set]; omega) fun j hj _ => get_ne (by omega) _) (get_set _ (lt_of_get g16) _) (by rw [List.length_set]; exact l1) (fun j hj => (get_ne (by omega) _).trans (hTs j (by omega))) fun j hj => (get_ne (by have := (s.z j hj).1; omega) _).trans (hZs j hj)
structure SmI (hA h : AH) (T : Nat) (pc : Value × Value) (v61 : Value) (ce : List Int) (v : Nat → Value) (cs : Nat → List Value) (Z : Nat → Prop) (a0 : List Int) (a1 : List Bool) (a2 a3 : List (List Int)) (a4 : List (List (List Int))) (a5 : List (List Int)) (a6 : List Int) : Prop where
  ex : Ex hA h
  tl : T = hA.length
  box : h[T]? = some (.row [pc.1, pc.2, v 0, v61, v 1, v 2, v 3, v 4] true)
  s : SMs h T v cs Z
  en : Ints h v61 ce
  ez : ∀ j, onId v61 j → Z j
  c0 : cs 0 = flat eI a0
  c1 : cs 1 = flat eBo a1
  c2 : RowsZ h Z (cs 2) a2
  c3 : RowsZ h Z (cs 3) a3
  c4 : RetsZ h Z (cs 4) a4
  c5 : RowsZ h Z (cs 5) a5
  c6 : cs 6 = flat eI a6
  w2 : ∀ w ∈ cs 2, RowW h w ∧ ∀ j, onId w j → Z j
section
variable {hA h : AH} {T : Nat} {pc : Value × Value} {v61 : Value} {ce : List Int} {v : Nat → Value} {cs : Nat → List Value} {Z : Nat → Prop} {a0 : List Int} {a1 : List Bool} {a2 a3 : List (List Int)} {a4 : List (List (List Int))} {a5 : List (List Int)} {a6 : List Int}
theorem SmI.w2to {h' : AH} {Z' : Nat → Prop} (s : SmI hA h T pc v61 ce v cs Z a0 a1 a2 a3 a4 a5 a6) (hh : ∀ j, Z j → h'[j]? = h[j]?) (hz : ∀ j, Z j → Z' j) : ∀ w ∈ cs 2, RowW h' w ∧ ∀ j, onId w j → Z' j :=
  fun w hw => ⟨(s.w2 w hw).1.keep fun j hj => hh j ((s.w2 w hw).2 j hj), fun j hj => hz j ((s.w2 w hw).2 j hj)⟩
theorem SmI.lt (s : SmI hA h T pc v61 ce v cs Z a0 a1 a2 a3 a4 a5 a6) : T < h.length := lt_of_get s.box
theorem SmI.exx {h' : AH} (s : SmI hA h T pc v61 ce v cs Z a0 a1 a2 a3 a4 a5 a6) (x : Ex h h') : SmI hA h' T pc v61 ce v cs Z a0 a1 a2 a3 a4 a5 a6 := by
  have hz : ∀ j, Z j → h'[j]? = h[j]? := fun j hj => x.get j (s.s.z j hj).2.1
  exact ⟨s.ex.trans x, s.tl, x.some s.box, s.s.ex x, Sl.ex s.en x, s.ez, s.c0, s.c1, s.c2.to (fun _ h => h) hz, s.c3.to (fun _ h => h) hz, s.c4.to (fun _ h => h) hz, s.c5.to (fun _ h => h) hz, s.c6, s.w2to hz fun _ h => h⟩
theorem SmI.addZ {h' : AH} {W : Nat → Prop} (s : SmI hA h T pc v61 ce v cs Z a0 a1 a2 a3 a4 a5 a6) (x : Ex h h') (hW : ∀ j, W j → h.length ≤ j ∧ j < h'.length) : SmI hA h' T pc v61 ce v cs (fun j => Z j ∨ W j) a0 a1 a2 a3 a4 a5 a6 := by
  have hz : ∀ j, Z j → h'[j]? = h[j]? := fun j hj => x.get j (s.s.z j hj).2.1
  exact ⟨s.ex.trans x, s.tl, x.some s.box, s.s.addZ x s.lt hW, Sl.ex s.en x, fun j hj => .inl (s.ez j hj), s.c0, s.c1, s.c2.to (fun _ h => .inl h) hz, s.c3.to (fun _ h => .inl h) hz, s.c4.to (fun _ h => .inl h) hz, s.c5.to (fun _ h => .inl h) hz, s.c6, s.w2to hz fun _ h => .inl h⟩
theorem SmI.reset5 (s : SmI hA h T pc v61 ce v cs Z a0 a1 a2 a3 a4 a5 a6) : SmI hA h T pc v61 ce (updV v 5 (.slice none 0 0)) (updC cs 5 []) Z a0 a1 a2 a3 a4 [] a6 :=
  ⟨s.ex, s.tl, s.box, s.s.reset 5, s.en, s.ez, s.c0, s.c1, s.c2, s.c3, s.c4, RowsZ.nil _ _, s.c6, s.w2⟩
theorem SmI.reset6 (s : SmI hA h T pc v61 ce v cs Z a0 a1 a2 a3 a4 a5 a6) : SmI hA h T pc v61 ce (updV v 6 (.slice none 0 0)) (updC cs 6 []) Z a0 a1 a2 a3 a4 a5 [] :=
  ⟨s.ex, s.tl, s.box, s.s.reset 6, s.en, s.ez, s.c0, s.c1, s.c2, s.c3, s.c4, s.c5, rfl, s.w2⟩
theorem SmI.after {h' : AH} {v' : Nat → Value} {cs' : Nat → List Value} (s : SmI hA h T pc v61 ce v cs Z a0 a1 a2 a3 a4 a5 a6) (l : h.length ≤ h'.length) (hT : ∀ j, j < T → h'[j]? = h[j]?) (hZ : ∀ j, Z j → h'[j]? = h[j]?) (sm : SMs h' T v' cs' Z) :
    Ex hA h' ∧ Ints h' v61 ce ∧ RowsZ h' Z (cs 2) a2 ∧ RowsZ h' Z (cs 3) a3 ∧ RetsZ h' Z (cs 4) a4 ∧ RowsZ h' Z (cs 5) a5 :=
  ⟨s.ex.below l fun j hj => hT j (by have := s.tl; omega), Sl.keepOn s.en fun j hj => hZ j (s.ez j hj), s.c2.to (fun _ h => h) hZ, s.c3.to (fun _ h => h) hZ, s.c4.to (fun _ h => h) hZ, s.c5.to (fun _ h => h) hZ⟩
variable {z : Value} {r : Nat} {Q : List Value → Nat → Value → Value → AH → Prop} {Q' : List Value → Nat → Value → AH → Prop}
theorem SmI.app0 {x : Int} (s : SmI hA h T pc v61 ce v cs Z a0 a1 a2 a3 a4 a5 a6) (hT : T < r) (hr : h[r]? = some .dead) (hz : ¬ Z r) (hn : a0.length ≤ 1000)
    (k : ∀ c j v' q h', h.length ≤ h'.length → SmI hA h' T pc v61 ce (updV v 0 v') (updC cs 0 (cs 0 ++ [.int .i64 x])) Z (a0 ++ [x]) a1 a2 a3 a4 a5 a6 → Q c j v' q h') :
    optW (bldSl 1 [z] 1 [(0, .int .i64 x)]) fun c => newW (some r) (.row c true) h fun j h15 => appSl 1 (v 0) (.slice (some ⟨j, 0, none⟩) 1 1) h15 fun v' h16 => optW (pOff 2 (.pointer (some ⟨T, 0, none⟩))) fun q => optW (pStore 1 q v' h16) fun h' => Q c j v' q h' := by
  refine s.s.appF (i := 0) (by decide) hT hr hz rfl rfl rfl (by rw [s.c0, flat_eI_len]; exact hn) s.box (by show 2 < 8; decide) fun c j v' q h' s' b l hTs hZs => ?_
  obtain ⟨x1, x2, x3, x4, x5, x6⟩ := s.after l hTs hZs s'
  exact k _ _ _ _ _ l ⟨x1, s.tl, b, s', x2, s.ez, by show cs 0 ++ [_] = _; rw [s.c0, flat_append]; rfl, s.c1, x3, x4, x5, x6, s.c6, s.w2to hZs fun _ h => h⟩
theorem SmI.app1 {x : Bool} (s : SmI hA h T pc v61 ce v cs Z a0 a1 a2 a3 a4 a5 a6) (hT : T < r) (hr : h[r]? = some .dead) (hz : ¬ Z r) (hn : a1.length ≤ 1000)
    (k : ∀ c j v' q h', h.length ≤ h'.length → SmI hA h' T pc v61 ce (updV v 1 v') (updC cs 1 (cs 1 ++ [.bool x])) Z a0 (a1 ++ [x]) a2 a3 a4 a5 a6 → Q c j v' q h') :
    optW (bldSl 1 [z] 1 [(0, .bool x)]) fun c => newW (some r) (.row c true) h fun j h15 => appSl 1 (v 1) (.slice (some ⟨j, 0, none⟩) 1 1) h15 fun v' h16 => optW (pOff 4 (.pointer (some ⟨T, 0, none⟩))) fun q => optW (pStore 1 q v' h16) fun h' => Q c j v' q h' := by
  refine s.s.appF (i := 1) (by decide) hT hr hz rfl rfl rfl (by rw [s.c1, flat_eBo_len]; exact hn) s.box (by show 4 < 8; decide) fun c j v' q h' s' b l hTs hZs => ?_
  obtain ⟨x1, x2, x3, x4, x5, x6⟩ := s.after l hTs hZs s'
  exact k _ _ _ _ _ l ⟨x1, s.tl, b, s', x2, s.ez, s.c0, by show cs 1 ++ [_] = _; rw [s.c1, flat_append]; rfl, x3, x4, x5, x6, s.c6, s.w2to hZs fun _ h => h⟩
theorem SmI.app2 {w : Value} {l : List Int} (s : SmI hA h T pc v61 ce v cs Z a0 a1 a2 a3 a4 a5 a6) (hw : Ints h w l) (hq : RowW h w) (wz : ∀ j, onId w j → Z j) (hT : T < r) (hr : h[r]? = some .dead) (hz : ¬ Z r) (hn : a2.length ≤ 1000)
    (k : ∀ c j v' q h', h.length ≤ h'.length → SmI hA h' T pc v61 ce (updV v 2 v') (updC cs 2 (cs 2 ++ [w])) Z a0 a1 (a2 ++ [l]) a3 a4 a5 a6 → Q c j v' q h') :
    optW (bldSl 1 [z] 1 [(0, w)]) fun c => newW (some r) (.row c true) h fun j h15 => appSl 1 (v 2) (.slice (some ⟨j, 0, none⟩) 1 1) h15 fun v' h16 => optW (pOff 5 (.pointer (some ⟨T, 0, none⟩))) fun q => optW (pStore 1 q v' h16) fun h' => Q c j v' q h' := by
  obtain ⟨a, n, cc, ew⟩ := Sl.isSl hw
  refine s.s.appF (i := 2) (by decide) hT hr hz rfl (by rw [ew]; rfl) (by rw [ew]; rfl) (by rw [s.c2.1]; exact hn) s.box (by show 5 < 8; decide) fun c j v' q h' s' b l' hTs hZs => ?_
  obtain ⟨x1, x2, x3, x4, x5, x6⟩ := s.after l' hTs hZs s'
  exact k _ _ _ _ _ l' ⟨x1, s.tl, b, s', x2, s.ez, s.c0, s.c1, x3.snoc (Sl.keepOn hw fun j hj => hZs j (wz j hj)) wz, x4, x5, x6, s.c6, fun w' hw' => (List.mem_append.1 hw').elim (s.w2to hZs (fun _ h => h) w') fun e => by rw [List.mem_singleton.1 e]; exact ⟨hq.keep fun j hj => hZs j (wz j hj), wz⟩⟩
theorem SmI.app3 {w : Value} {l : List Int} (s : SmI hA h T pc v61 ce v cs Z a0 a1 a2 a3 a4 a5 a6) (hw : Ints h w l) (wz : ∀ j, onId w j → Z j) (hT : T < r) (hr : h[r]? = some .dead) (hz : ¬ Z r) (hn : a3.length ≤ 1000)
    (k : ∀ c j v' q h', h.length ≤ h'.length → SmI hA h' T pc v61 ce (updV v 3 v') (updC cs 3 (cs 3 ++ [w])) Z a0 a1 a2 (a3 ++ [l]) a4 a5 a6 → Q c j v' q h') :
    optW (bldSl 1 [z] 1 [(0, w)]) fun c => newW (some r) (.row c true) h fun j h15 => appSl 1 (v 3) (.slice (some ⟨j, 0, none⟩) 1 1) h15 fun v' h16 => optW (pOff 6 (.pointer (some ⟨T, 0, none⟩))) fun q => optW (pStore 1 q v' h16) fun h' => Q c j v' q h' := by
  obtain ⟨a, n, cc, ew⟩ := Sl.isSl hw
  refine s.s.appF (i := 3) (by decide) hT hr hz rfl (by rw [ew]; rfl) (by rw [ew]; rfl) (by rw [s.c3.1]; exact hn) s.box (by show 6 < 8; decide) fun c j v' q h' s' b l' hTs hZs => ?_
  obtain ⟨x1, x2, x3, x4, x5, x6⟩ := s.after l' hTs hZs s'
  exact k _ _ _ _ _ l' ⟨x1, s.tl, b, s', x2, s.ez, s.c0, s.c1, x3, x4.snoc (Sl.keepOn hw fun j hj => hZs j (wz j hj)) wz, x5, x6, s.c6, s.w2to hZs fun _ h => h⟩
theorem SmI.app4 {w : Value} {vs : List Value} {l : List (List Int)} (s : SmI hA h T pc v61 ce v cs Z a0 a1 a2 a3 a4 a5 a6) (hw : Sl 1 h w l.length vs) (wz : ∀ j, onId w j → Z j) (wr : RowsZ h Z vs l) (hT : T < r) (hr : h[r]? = some .dead) (hz : ¬ Z r) (hn : a4.length ≤ 1000)
    (k : ∀ c j v' q h', h.length ≤ h'.length → SmI hA h' T pc v61 ce (updV v 4 v') (updC cs 4 (cs 4 ++ [w])) Z a0 a1 a2 a3 (a4 ++ [l]) a5 a6 → Q c j v' q h') :
    optW (bldSl 1 [z] 1 [(0, w)]) fun c => newW (some r) (.row c true) h fun j h15 => appSl 1 (v 4) (.slice (some ⟨j, 0, none⟩) 1 1) h15 fun v' h16 => optW (pOff 7 (.pointer (some ⟨T, 0, none⟩))) fun q => optW (pStore 1 q v' h16) fun h' => Q c j v' q h' := by
  obtain ⟨a, n, cc, ew⟩ := Sl.isSl hw
  refine s.s.appF (i := 4) (by decide) hT hr hz rfl (by rw [ew]; rfl) (by rw [ew]; rfl) (by rw [s.c4.1]; exact hn) s.box (by show 7 < 8; decide) fun c j v' q h' s' b l' hTs hZs => ?_
  obtain ⟨x1, x2, x3, x4, x5, x6⟩ := s.after l' hTs hZs s'
  exact k _ _ _ _ _ l' ⟨x1, s.tl, b, s', x2, s.ez, s.c0, s.c1, x3, x4, x5.snoc (Sl.keepOn hw fun j hj => hZs j (wz j hj)) wz (wr.to (fun _ h => h) hZs), x6, s.c6, s.w2to hZs fun _ h => h⟩
theorem SmI.app5 {w : Value} {l : List Int} (s : SmI hA h T pc v61 ce v cs Z a0 a1 a2 a3 a4 a5 a6) (hw : Ints h w l) (wz : ∀ j, onId w j → Z j) (hn : a5.length ≤ 1000)
    (k : ∀ c j v' h', h.length ≤ h'.length → SmI hA h' T pc v61 ce (updV v 5 v') (updC cs 5 (cs 5 ++ [w])) Z a0 a1 a2 a3 a4 (a5 ++ [l]) a6 → Q' c j v' h') :
    optW (bldSl 1 [z] 1 [(0, w)]) fun c => newW none (.row c true) h fun j h15 => appSl 1 (v 5) (.slice (some ⟨j, 0, none⟩) 1 1) h15 fun v' h' => Q' c j v' h' := by
  obtain ⟨a, n, cc, ew⟩ := Sl.isSl hw
  have xr := Ex.res h
  have sr := s.exx xr
  have gd : (reserve 1 h)[h.length]? = some .dead := by rw [reserve_one]; exact get_new _ _
  have key := sr.s.app (i := 5) (r := h.length) (z := z) (x := w) (w := v 5) (Q := Q') (by decide) s.lt gd (fun hz => by have := (s.s.z _ hz).2.1; omega) rfl (by rw [ew]; rfl) (by rw [ew]; rfl) (by rw [s.c5.1]; exact hn) fun c j v' h' s' _ l' hTs hZs => by
    obtain ⟨x1, x2, x3, x4, x5, x6⟩ := sr.after l' (fun j hj => hTs j (by omega)) hZs s'
    exact k _ _ _ _ (by have := xr.len; omega) ⟨x1, s.tl, (hTs _ (Nat.le_refl _)).trans sr.box, s', x2, s.ez, s.c0, s.c1, x3, x4, x5, x6.snoc (Sl.keepOn (Sl.ex hw xr) fun j hj => hZs j (wz j hj)) wz, s.c6, sr.w2to hZs fun _ h => h⟩
  exact optW_mono (fun c hc => n_unres hc) key
theorem SmI.app6 {x : Int} (s : SmI hA h T pc v61 ce v cs Z a0 a1 a2 a3 a4 a5 a6) (hT : T < r) (hr : h[r]? = some .dead) (hz : ¬ Z r) (hn : a6.length ≤ 1000)
    (k : ∀ c j v' h', h.length ≤ h'.length → SmI hA h' T pc v61 ce (updV v 6 v') (updC cs 6 (cs 6 ++ [.int .i64 x])) Z a0 a1 a2 a3 a4 a5 (a6 ++ [x]) → Q' c j v' h') :
    optW (bldSl 1 [z] 1 [(0, .int .i64 x)]) fun c => newW (some r) (.row c true) h fun j h15 => appSl 1 (v 6) (.slice (some ⟨j, 0, none⟩) 1 1) h15 fun v' h' => Q' c j v' h' := by
  refine s.s.app (i := 6) (by decide) hT hr hz rfl rfl rfl (by rw [s.c6, flat_eI_len]; exact hn) fun c j v' h' s' _ l hTs hZs => ?_
  obtain ⟨x1, x2, x3, x4, x5, x6⟩ := s.after l (fun j hj => hTs j (by omega)) hZs s'
  exact k _ _ _ _ l ⟨x1, s.tl, (hTs _ (Nat.le_refl _)).trans s.box, s', x2, s.ez, s.c0, s.c1, x3, x4, x5, x6, by show cs 6 ++ [_] = _; rw [s.c6, flat_append]; rfl, s.w2to hZs fun _ h => h⟩
end
end Go.Proofs.Ytnpbehfhncbjfaa.W
end
