/- An abstract machine for Go's model, and what it tells of the model: part 2. Conditions: none. -/
import Derived.Test.YtnpbehfhncbjfaaQA1
import Derived.KernelRfl
import Derived.Below

/- The abstract machine, run: regions, code, calls; and that a run that says yes is right. Conditions: none. -/
namespace Go.AM
open Go

variable {P : Program}

/-! ### are two objects surely the same? -/
def adEq : Option Addr → Option Addr → Bool
  | none, none => true
  | some ⟨a, x, none⟩, some ⟨b, y, none⟩ => Nat.beq a b && Nat.beq x y
  | _, _ => false
def nOEq : Option Nat → Option Nat → Bool
  | none, none => true
  | some a, some b => Nat.beq a b
  | _, _ => false
def veqS : Value → Value → Bool
  | .bool a, .bool b => a == b
  | .int k a, .int k' b => decide (k = k') && decide (a = b)
  | .string a, .string b => u8s a.data.toList b.data.toList
  | .pointer a, .pointer b => adEq a b
  | .slice a l c, .slice b l' c' => adEq a b && Nat.beq l l' && Nat.beq c c'
  | .map a, .map b => nOEq a b
  | .nilFunc, .nilFunc => true
  | .nilIface, .nilIface => true
  | _, _ => false
def listEq {α : Type} (f : α → α → Bool) : List α → List α → Bool
  | [], [] => true
  | a :: l, b :: m => f a b && listEq f l m
  | _, _ => false
theorem listEq_sound {α : Type} {f : α → α → Bool} (hf : ∀ a b, f a b = true → a = b) : ∀ {l m : List α}, listEq f l m = true → l = m
  | [], [], _ => rfl
  | [], _ :: _, h => by cases h
  | _ :: _, [], h => by cases h
  | a :: l, b :: m, h => by
    simp only [listEq, Bool.and_eq_true] at h
    rw [hf _ _ h.1, listEq_sound hf h.2]
theorem adEq_sound {a b : Option Addr} (h : adEq a b = true) : a = b := by
  unfold adEq at h
  split at h
  · rfl
  · simp only [Bool.and_eq_true] at h
    rw [Nat.eq_of_beq_eq_true h.1, Nat.eq_of_beq_eq_true h.2]
  · cases h
theorem nOEq_sound {a b : Option Nat} (h : nOEq a b = true) : a = b := by
  unfold nOEq at h
  split at h
  · rfl
  · rw [Nat.eq_of_beq_eq_true h]
  · cases h
theorem bytes_ext {x y : ByteArray} (h : x.data.toList = y.data.toList) : x = y := ByteArray.ext (Array.toList_inj.1 h)
theorem veqS_sound (x y : Value) (h : veqS x y = true) : x = y := by
  unfold veqS at h
  split at h
  · rw [eq_of_beq h]
  · simp only [Bool.and_eq_true, decide_eq_true_eq] at h
    rw [h.1, h.2]
  · rw [u8s_eq] at h
    rw [bytes_ext (eq_of_beq h)]
  · rw [adEq_sound h]
  · simp only [Bool.and_eq_true] at h
    rw [adEq_sound h.1.1, Nat.eq_of_beq_eq_true h.1.2, Nat.eq_of_beq_eq_true h.2]
  · rw [nOEq_sound h]
  · rfl
  · rfl
  · cases h
def veq : Value → Value → Bool
  | .agg a, .agg b => listEq veqS a.toList b.toList
  | .tuple a, .tuple b => listEq veqS a.toList b.toList
  | x, y => veqS x y
theorem veq_sound (x y : Value) (h : veq x y = true) : x = y := by
  unfold veq at h
  split at h
  · rw [Array.toList_inj.1 (listEq_sound veqS_sound h)]
  · rw [Array.toList_inj.1 (listEq_sound veqS_sound h)]
  · exact veqS_sound _ _ h
def entEq (a b : Ent) : Bool := veq a.1 b.1 && veq a.2.1 b.2.1 && Nat.beq a.2.2 b.2.2
theorem entEq_sound (a b : Ent) (h : entEq a b = true) : a = b := by
  simp only [entEq, Bool.and_eq_true] at h
  exact Prod.ext (veq_sound _ _ h.1.1) (Prod.ext (veq_sound _ _ h.1.2) (Nat.eq_of_beq_eq_true h.2))
def oEq : Option AObj → Option AObj → Bool
  | none, none => true
  | some .dead, some .dead => true
  | some (.row c w), some (.row c' w') => (w == w') && listEq veq c c'
  | some (.map es k), some (.map es' k') => listEq entEq es es' && Nat.beq k k'
  | _, _ => false
theorem oEq_sound {x y : Option AObj} (h : oEq x y = true) : x = y := by
  unfold oEq at h
  split at h
  · rfl
  · rfl
  · simp only [Bool.and_eq_true] at h
    rw [eq_of_beq h.1, listEq_sound veq_sound h.2]
  · simp only [Bool.and_eq_true] at h
    rw [listEq_sound entEq_sound h.1, Nat.eq_of_beq_eq_true h.2]
  · cases h

/-! ### regions in the text's order -/
def gvalB (ops : Array Oper) (o : Oper) (e : TE) : Bool :=
  match o.guard with
  | none => true
  | some (j, want) => match (ops[j]?).bind (·.dst) with
    | some t => gB (tev e (.tmp t)) want
    | none => false
theorem gvalB_eq {ops : Array Oper} {o : Oper} {te : TE} {e : Env} (E : RepE te e) : gvalB ops o te = gval ops o e := by
  unfold gvalB gval
  simp only [E.ev]
  rfl

def ordB (P : Program) (X : CallB) (ops : Array Oper) : List Oper → TE → HS → (TE → HS → Bool) → Bool
  | [], e, h, q => q e h
  | o :: r, e, h, q => cond (gvalB ops o e) (opB P X none o e h fun v h' => ordB P X ops r (tput e o.dst v) h' q) (ordB P X ops r (tput e o.dst undef) h q)

def QOK (q : TE → HS → Bool) (Q : Env → AH → Prop) : Prop := ∀ te e s h, RepE te e → RepH s h → q te s = true → Q e h

theorem ordB_ok {X : CallB} {XX : CallT} (hX : XOK X XX) {ops : Array Oper} (hd : ∀ o ∈ ops.toList, ∀ d, o.dst = some d → d < 1000000) {q : TE → HS → Bool} {Q : Env → AH → Prop} (hq : QOK q Q) : ∀ (l : List Oper) (i : Nat) {te : TE} {e : Env} {s : HS} {h : AH},
    RepE te e → RepH s h → ops.toList.drop i = l → ordB P X ops l te s q = true → ordW P XX ops (fun _ => none) (List.range' i l.length) e h Q
  | [], _, _, _, _, _, E, R, _, hb => hq _ _ _ _ E R hb
  | o :: r, i, te, e, s, h, E, R, hdr, hb => by
    have ho : ops[i]? = some o := by
      rw [← Array.getElem?_toList]
      have : (ops.toList.drop i)[0]? = some o := by rw [hdr]; rfl
      simpa using this
    have hr : ops.toList.drop (i + 1) = r := by
      have : (ops.toList.drop i).drop 1 = r := by rw [hdr]; rfl
      simpa [List.drop_drop, Nat.add_comm] using this
    have hdo : ∀ d, o.dst = some d → d < 1000000 := hd o (by
      rw [← List.take_append_drop i ops.toList, hdr]; simp)
    show ordW P XX ops _ (i :: List.range' (i + 1) r.length) e h Q
    simp only [ordW, ho]
    rw [ordB, gvalB_eq E] at hb
    cases hg : gval ops o e with
    | true =>
      rw [hg, _root_.cond_true] at hb
      simp only [gopW]
      refine opB_ok hX E R ?_ hb
      intro v s' h' R' hh
      exact ordB_ok hX hd hq r (i + 1) (E.put _ _ hdo) R' hr hh
    | false =>
      rw [hg] at hb
      exact ordB_ok hX hd hq r (i + 1) (E.put _ _ hdo) R hr hb

/-! ### regions that draw -/
abbrev HB := List (Nat × HS × HS)

def RepHB : HB → HT → Prop
  | [], [] => True
  | a :: l, b :: m => a.1 = b.1 ∧ RepH a.2.1 b.2.1 ∧ RepH a.2.2 b.2.2 ∧ RepHB l m
  | _, _ => False

theorem RepHB.cons {i : Nat} {s s' : HS} {h h' : AH} {l : HB} {m : HT} (h1 : RepH s h) (h2 : RepH s' h') (h3 : RepHB l m) : RepHB ((i, s, s') :: l) ((i, h, h') :: m) := by
  unfold RepHB
  exact ⟨rfl, h1, h2, h3⟩
theorem RepHB.nil : RepHB [] [] := by
  unfold RepHB
  trivial

def histB (b : Array Nat) (j : Nat) (xs : List Nat) : HB → Bool
  | [] => true
  | (k, hb, ha) :: r => cond (free b k j && Nat.blt k j) (xs.all fun x => oEq (hb.lookF x) (ha.lookF x)) true && histB b j xs r

theorem histB_ok {b : Array Nat} {j : Nat} {xs : List Nat} {K : Prop} (hK : K) : ∀ {HB : HB} {H : HT}, RepHB HB H → histB b j xs HB = true → histC b j xs H K
  | [], [], _, _ => hK
  | [], _ :: _, h, _ => h.elim
  | _ :: _, [], h, _ => h.elim
  | (k, x, y) :: l, (k', x', y') :: m, ⟨h1, h2, h3, h4⟩, hb => by
    dsimp only at h1 h2 h3
    subst h1
    simp only [histB, Bool.and_eq_true] at hb
    simp only [histC]
    cases hc : (free b k j && Nat.blt k j) with
    | true =>
      rw [hc] at hb
      refine ⟨fun z hz => ?_, histB_ok hK h4 hb.2⟩
      have := oEq_sound (List.all_eq_true.1 hb.1 z hz)
      rw [h2.lf, h3.lf] at this
      exact this
    | false => exact histB_ok hK h4 hb.2

def readB (b : Array Nat) (j : Nat) (hb ha : HS) : ST → Bool
  | [] => true
  | (k, xs) :: r => cond (free b k j && Nat.blt k j) (xs.all fun x => oEq (hb.lookF x) (ha.lookF x)) true && readB b j hb ha r

theorem readB_ok {b : Array Nat} {j : Nat} {x y : HS} {x' y' : AH} {K : Prop} (hK : K) (h2 : RepH x x') (h3 : RepH y y') : ∀ {S : ST}, readB b j x y S = true → readC b j x' y' S K
  | [], _ => hK
  | (k, xs) :: r, hb => by
    simp only [readB, Bool.and_eq_true] at hb
    simp only [readC]
    cases hc : (free b k j && Nat.blt k j) with
    | true =>
      rw [hc] at hb
      refine ⟨fun z hz => ?_, readB_ok hK h2 h3 hb.2⟩
      have := oEq_sound (List.all_eq_true.1 hb.1 z hz)
      rw [h2.lf, h3.lf] at this
      exact this
    | false => exact readB_ok hK h2 h3 hb.2

def touchB (o : Oper) (e : TE) : List Nat :=
  match o.op with
  | .load _ x => idOf (tev e x)
  | .lookup _ x _ _ => idOf (tev e x)
  | .convert _ _ x => idOf (tev e x)
  | .store _ x _ => idOf (tev e x)
  | .mapUpdate _ m _ _ => idOf (tev e m)
  | .call c => match c.args.toList with
    | [x] => idOf (tev e x)
    | [x, y] => idOf (tev e x) ++ idOf (tev e y)
    | _ => []
  | _ => []
theorem touchB_eq {o : Oper} {te : TE} {e : Env} (E : RepE te e) : touchB o te = touch o e := by
  unfold touchB touch
  rw [E.fn]
  rfl

abbrev KD := Value → HS → HB → ST → Bool
def KDOK (k : KD) (K : Value → AH → HT → ST → Prop) : Prop := ∀ v s h HB H S, RepH s h → RepHB HB H → k v s HB S = true → K v h H S

def opDB (P : Program) (X : CallB) (b : Array Nat) (sl : List (Option Nat)) (i : Nat) (o : Oper) (H : HB) (S : ST) (e : TE) (h : HS) (k : KD) : Bool :=
  match clOf P o with
  | .pure => opB P X none o e h fun v h' => k v h' H S
  | .rd => histB b i (touchB o e) H && opB P X none o e h fun v h' => k v h' H ((i, touchB o e) :: S)
  | .al => opB P X (slotAt sl i) o e h fun v h' => k v h' ((i, h, h') :: H) S
  | .eff => histB b i (touchB o e) H && opB P X none o e h fun v h' => readB b i h h' S && k v h' ((i, h, h') :: H) S
  | .call => opB P X none o e h fun v h' => readB b i h h' S && k v h' ((i, h, h') :: H) S
  | .bad => false

theorem opDB_ok {X : CallB} {XX : CallT} (hX : XOK X XX) {b : Array Nat} {sl : List (Option Nat)} {i : Nat} {o : Oper} {HB : HB} {H : HT} {S : ST} {te : TE} {e : Env} {s : HS} {h : AH} {k : KD} {K : Value → AH → HT → ST → Prop}
    (E : RepE te e) (R : RepH s h) (RH : RepHB HB H) (hk : KDOK k K) (hb : opDB P X b sl i o HB S te s k = true) : opD P XX b sl i o H S e h K := by
  unfold opDB at hb
  unfold opD
  split at hb <;> rename_i hc <;> simp only [hc]
  · exact opB_ok hX E R (fun v s h R' hh => hk _ _ _ _ _ _ R' RH hh) hb
  · rw [Bool.and_eq_true, touchB_eq E] at hb
    refine histB_ok (opB_ok hX E R ?_ hb.2) RH hb.1
    intro v s h R' hh
    exact hk _ _ _ _ _ _ R' RH hh
  · refine opB_ok hX E R ?_ hb
    intro v s h R' hh
    exact hk _ _ _ _ _ _ R' (.cons R R' RH) hh
  · rw [Bool.and_eq_true, touchB_eq E] at hb
    refine histB_ok (opB_ok hX E R (fun v s h R' hh => ?_) hb.2) RH hb.1
    rw [Bool.and_eq_true] at hh
    exact readB_ok (hk _ _ _ _ _ _ R' (.cons R R' RH) hh.2) R R' hh.1
  · refine opB_ok hX E R (fun v s h R' hh => ?_) hb
    rw [Bool.and_eq_true] at hh
    exact readB_ok (hk _ _ _ _ _ _ R' (.cons R R' RH) hh.2) R R' hh.1
  · cases hb

def textB (P : Program) (X : CallB) (ops : Array Oper) (b : Array Nat) (sl : List (Option Nat)) : List Oper → Nat → HB → ST → TE → HS → (TE → HS → Bool) → Bool
  | [], _, _, _, e, h, q => q e h
  | o :: r, i, H, S, e, h, q => cond (gvalB ops o e) (opDB P X b sl i o H S e h fun v h' H' S' => textB P X ops b sl r (Nat.succ i) H' S' (tput e o.dst v) h' q) (textB P X ops b sl r (Nat.succ i) H S (tput e o.dst undef) h q)

theorem textB_ok {X : CallB} {XX : CallT} (hX : XOK X XX) {ops : Array Oper} (hd : ∀ o ∈ ops.toList, ∀ d, o.dst = some d → d < 1000000) {b : Array Nat} {sl : List (Option Nat)} {q : TE → HS → Bool} {Q : Env → AH → Prop} (hq : QOK q Q) :
    ∀ (l : List Oper) (i : Nat) {HB : HB} {H : HT} {S : ST} {te : TE} {e : Env} {s : HS} {h : AH},
    RepE te e → RepH s h → RepHB HB H → ops.toList.drop i = l → textB P X ops b sl l i HB S te s q = true → textD P XX ops b sl (List.range' i l.length) H S e h Q
  | [], _, _, _, _, _, _, _, _, E, R, _, _, hb => hq _ _ _ _ E R hb
  | o :: r, i, HB, H, S, te, e, s, h, E, R, RH, hdr, hb => by
    have ho : ops[i]? = some o := by
      rw [← Array.getElem?_toList]
      have : (ops.toList.drop i)[0]? = some o := by rw [hdr]; rfl
      simpa using this
    have hr : ops.toList.drop (i + 1) = r := by
      have : (ops.toList.drop i).drop 1 = r := by rw [hdr]; rfl
      simpa [List.drop_drop, Nat.add_comm] using this
    have hdo : ∀ d, o.dst = some d → d < 1000000 := hd o (by
      rw [← List.take_append_drop i ops.toList, hdr]; simp)
    show textD P XX ops b sl (i :: List.range' (i + 1) r.length) H S e h Q
    simp only [textD, ho]
    rw [textB, gvalB_eq E] at hb
    cases hg : gval ops o e with
    | true =>
      rw [hg, _root_.cond_true] at hb
      simp only [gopD]
      refine opDB_ok hX E R RH ?_ hb
      intro v s' h' HB' H' S' R' RH' hh
      exact textB_ok hX hd hq r (i + 1) (E.put _ _ hdo) R' RH' hr hh
    | false =>
      rw [hg] at hb
      exact textB_ok hX hd hq r (i + 1) (E.put _ _ hdo) R RH hr hb

def reserveB : Nat → HS → (HS → Bool) → Bool
  | 0, h, k => k h
  | n + 1, h, k => h.push .dead fun _ h' => reserveB n h' k

theorem reserveB_ok {k : HS → Bool} {K : AH → Prop} (hk : ∀ s h, RepH s h → k s = true → K h) : ∀ (n : Nat) {s : HS} {h : AH}, RepH s h → reserveB n s k = true → K (reserve n h)
  | 0, _, _, R, hb => hk _ _ R hb
  | n + 1, s, h, R, hb => by
    simp only [reserveB, HS.push] at hb
    obtain ⟨h1, h2⟩ := cond_true hb
    exact reserveB_ok hk n (R.push .dead (blt_lt h1)) h2

def regB (P : Program) (X : CallB) (ops : Array Oper) (draw : Bool) (e : TE) (h : HS) (q : TE → HS → Bool) : Bool :=
  match draw with
  | false => ordB P X ops ops.toList e h q
  | true => cond (drawOK P ops) (reserveB (countAl P ops.toList) h fun h' => textB P X ops (Region.before ops) (slots P ops.toList h.n) ops.toList 0 [] [] e h' q) false

theorem regB_ok {X : CallB} {XX : CallT} (hX : XOK X XX) {ops : Array Oper} (hd : ∀ o ∈ ops.toList, ∀ d, o.dst = some d → d < 1000000) {draw : Bool} {q : TE → HS → Bool} {Q : Env → AH → Prop} (hq : QOK q Q) {te : TE} {e : Env} {s : HS} {h : AH}
    (E : RepE te e) (R : RepH s h) (hb : regB P X ops draw te s q = true) : regW P XX ops draw e h Q := by
  cases draw with
  | false =>
    have := ordB_ok hX hd hq ops.toList 0 E R rfl hb
    simp only [regW]
    rw [List.range_eq_range']
    exact this
  | true =>
    simp only [regB] at hb
    obtain ⟨h1, h2⟩ := cond_true hb
    simp only [regW, h1]
    rw [← R.n, List.range_eq_range']
    exact reserveB_ok (K := fun h' => textD P XX ops (Region.before ops) (slots P ops.toList s.n) (List.range' 0 ops.size) [] [] e h' Q) (fun s' h' R' hh => textB_ok hX hd hq ops.toList 0 E R' .nil rfl hh) _ R h2

end Go.AM

/- The abstract machine, run: code and calls; a run that says yes is right. Conditions: none. -/
namespace Go.AM
open Go

variable {P : Program}

abbrev KE := Exit → TE → HS → Bool
def EOK (k : KE) (Q : Exit → Env → AH → Prop) : Prop := ∀ x te e s h, RepE te e → RepH s h → k x te s = true → Q x e h

def iterB : Nat → (KE → TE → HS → Bool) → KE → TE → HS → Bool
  | 0, _, _, _, _ => false
  | n + 1, B, k, e, s => B (fun x e s => match x with
      | .normal => iterB n B k e s
      | x => k x e s) e s

def codeB (P : Program) (X : CallB) (fuel : Nat) : Code → KE → TE → HS → Bool
  | .skip, k, e, h => k .normal e h
  | .region _ ops draw, k, e, h => regB P X ops draw e h (k .normal)
  | .seq a b, k, e, h => codeB P X fuel a (fun x e h => match x with
      | .normal => codeB P X fuel b k e h
      | x => k x e h) e h
  | .cond c a b, k, e, h => match tev e c with
      | .bool true => codeB P X fuel a k e h
      | .bool false => codeB P X fuel b k e h
      | _ => false
  | .block id c, k, e, h => codeB P X fuel c (fun x e h => match x with
      | .exit id' => cond (Nat.beq id' id) (k .normal e h) (k (.exit id') e h)
      | x => k x e h) e h
  | .loop c, k, e, h => iterB fuel (codeB P X fuel c) k e h
  | .exit id, k, e, h => k (.exit id) e h
  | .ret, k, e, h => k .ret e h
  | _, _, _, _ => false

theorem ops_dst {nt : Nat} (hnt : nt < 1000000) {ops : Array Oper} (h : ops.toList.all (operOK nt) = true) : ∀ o ∈ ops.toList, ∀ d, o.dst = some d → d < 1000000 := by
  intro o ho d hd
  exact Nat.lt_trans ((operOK_dst (List.all_eq_true.1 h o ho)).2 d hd) hnt

theorem codeB_ok {X : CallB} {XX : CallT} (hX : XOK X XX) {fuel nt : Nat} (hnt : nt < 1000000) : ∀ (c : Code), codeOK nt c = true → ∀ {k : KE} {Q : Exit → Env → AH → Prop} {te : TE} {e : Env} {s : HS} {h : AH}, EOK k Q → RepE te e → RepH s h → codeB P X fuel c k te s = true → cwp P XX c Q e h
  | .skip, _, k, Q, te, e, s, h, hk, E, R, hb => hk _ _ _ _ _ E R hb
  | .region _ ops draw, hok, k, Q, te, e, s, h, hk, E, R, hb => regB_ok hX (ops_dst hnt hok) (fun te e s h E R hh => hk _ _ _ _ _ E R hh) E R hb
  | .seq a b, hok, k, Q, te, e, s, h, hk, E, R, hb => by
    simp only [codeOK, Bool.and_eq_true] at hok
    refine codeB_ok hX hnt a hok.1 (Q := thenW (cwp P XX b Q) Q) ?_ E R hb
    intro x te e s h E R hh
    cases x with
    | normal => exact codeB_ok hX hnt b hok.2 hk E R hh
    | _ => exact hk _ _ _ _ _ E R hh
  | .cond c a b, hok, k, Q, te, e, s, h, hk, E, R, hb => by
    simp only [codeOK, Bool.and_eq_true] at hok
    simp only [codeB, E.ev] at hb
    simp only [cwp]
    split at hb
    · rename_i hv
      rw [hv]
      exact codeB_ok hX hnt a hok.1.2 hk E R hb
    · rename_i hv
      rw [hv]
      exact codeB_ok hX hnt b hok.2 hk E R hb
    · cases hb
  | .block id c, hok, k, Q, te, e, s, h, hk, E, R, hb => by
    refine codeB_ok hX hnt c hok (Q := blockW id Q) ?_ E R hb
    intro x te e s h E R hh
    cases x with
    | exit id' =>
      simp only [blockW]
      dsimp only at hh
      cases hi : Nat.beq id' id with
      | true => rw [hi] at hh; exact hk _ _ _ _ _ E R hh
      | false => rw [hi] at hh; exact hk _ _ _ _ _ E R hh
    | _ => exact hk _ _ _ _ _ E R hh
  | .loop c, hok, k, Q, te, e, s, h, hk, E, R, hb => by
    intro I hI
    have key : ∀ (n : Nat) {te : TE} {e : Env} {s : HS} {h : AH}, RepE te e → RepH s h → iterB n (codeB P X fuel c) k te s = true → I e h := by
      intro n
      induction n with
      | zero => intro te e s h _ _ hb; cases hb
      | succ n ih =>
        intro te e s h E R hb
        refine hI e h (codeB_ok hX hnt c hok (Q := thenW I Q) ?_ E R hb)
        intro x te e s h E R hh
        cases x with
        | normal => exact ih E R hh
        | _ => exact hk _ _ _ _ _ E R hh
    exact key fuel E R hb
  | .exit id, _, k, Q, te, e, s, h, hk, E, R, hb => hk _ _ _ _ _ E R hb
  | .ret, _, k, Q, te, e, s, h, hk, E, R, hb => hk _ _ _ _ _ E R hb
  | .rangeFunc .., _, _, _, _, _, _, _, _, _, _, hb => by cases hb
  | .scope _, _, _, _, _, _, _, _, _, _, _, hb => by cases hb
  | .label _, _, _, _, _, _, _, _, _, _, _, hb => by cases hb
  | .goto _, _, _, _, _, _, _, _, _, _, _, hb => by cases hb
  | .refuse _, _, _, _, _, _, _, _, _, _, _, hb => by cases hb

/-! ### calls -/
def teOf : List Value → Nat → TE → TE
  | [], _, t => t
  | v :: r, i, t => teOf r (Nat.succ i) (Tr.set v 40 t i)

theorem teOf_get : ∀ (l : List Value) (i : Nat) (t : TE), i + l.length < 1000000 → ∀ j, Tr.get (teOf l i t) j = if i ≤ j ∧ j < i + l.length then l[j - i]? else Tr.get t j
  | [], i, t, _, j => by
    have : ¬ (i ≤ j ∧ j < i + ([] : List Value).length) := by simp
    rw [if_neg this]; rfl
  | v :: r, i, t, h, j => by
    simp only [List.length_cons] at h ⊢
    rw [teOf, teOf_get r (i + 1) _ (by omega), Tr.get_set _ _ _ _ _ (by omega)]
    by_cases h1 : j = i
    · subst h1
      rw [if_neg (by omega), if_pos rfl, if_pos (by omega)]
      simp
    · by_cases h2 : i + 1 ≤ j ∧ j < i + 1 + r.length
      · rw [if_pos h2, if_pos (by omega)]
        have : j - i = (j - (i + 1)) + 1 := by omega
        rw [this, List.getElem?_cons_succ]
      · rw [if_neg h2, if_neg h1, if_neg (by omega)]

theorem teOf_rep {args : List Value} (h : args.length < 1000000) : RepE (teOf args 0 .leaf) (envOf args) := by
  intro j
  rw [teOf_get args 0 .leaf (by omega)]
  show args.getD j undef = _
  by_cases hj : j < args.length
  · rw [if_pos (by omega)]; simp [List.getD_eq_getElem?_getD]
  · rw [if_neg (by omega), Tr.get_leaf]
    simp [List.getD_eq_getElem?_getD, List.getElem?_eq_none (by omega : args.length ≤ j)]

def resCellB (P : Program) (e : TE) (h : HS) : ResultVar → Option Value
  | .tmp t => some (tev e (.tmp t))
  | .cell a t => pLoadG P t (tev e (.tmp a)) h.lookF
def resListB (P : Program) (e : TE) (h : HS) : List ResultVar → Option (List Value)
  | [] => some []
  | r :: rs => match resCellB P e h r with
    | some v => match resListB P e h rs with
      | some vs => some (v :: vs)
      | none => none
    | none => none

theorem resListB_eq {te : TE} {e : Env} {s : HS} {h : AH} (E : RepE te e) (R : RepH s h) : ∀ (l : List ResultVar), resListB P te s l = resList P e h l
  | [] => rfl
  | r :: rs => by
    have h1 : resCellB P te s r = resCell P e h r := by
      cases r with
      | tmp t => exact congrArg some (E t).symm
      | cell a t =>
        show pLoadG P t (tev te (.tmp a)) s.lookF = pLoad P t (e a) h
        rw [R.lf, pLoadG_eq, E.ev]
        rfl
    rw [resListB, resList, h1, resListB_eq E R rs]
    rfl

def endB (P : Program) (fn : Func) (k : KB) : KE
  | .normal, e, h | .ret, e, h => optB (resListB P e h fn.results.toList) fun vs => k (resOf vs) h
  | _, _, _ => false

/-- what is known of some calls: all that they may answer, memory as it was. -/
abbrev Orc := FuncId → List Value → Option (List Value)
def OrcOK (P : Program) (orc : Orc) : Prop := ∀ f args outs, orc f args = some outs → ∀ (h : AH) (K : Value → AH → Prop), (∀ v ∈ outs, K v h) → callW P f args h K

def callB (P : Program) (orc : Orc) (fuel : Nat) : Nat → CallB
  | 0, _, _, _, _ => false
  | d + 1, f, args, s, k => match orc f args with
    | some outs => outs.all fun v => k v s
    | none => match P.funcs[f]? with
      | some fn => match fn.body, fnOK fn && decide (args.length ≤ fn.ntmps) && Nat.blt fn.ntmps 1000000 with
        | some c, true => codeB P (callB P orc fuel d) fuel c (endB P fn k) (teOf args 0 .leaf) s
        | _, _ => false
      | none => false

theorem callB_ok {orc : Orc} (ho : OrcOK P orc) {fuel : Nat} : ∀ (d : Nat), XOK (callB P orc fuel d) (callW P)
  | 0 => fun f args s k h K R hk hb => by cases hb
  | d + 1 => fun f args s k h K R hk hb => by
    simp only [callB] at hb
    split at hb
    · rename_i outs hout
      exact ho _ _ _ hout h K fun v hv => hk _ _ _ R (List.all_eq_true.1 hb v hv)
    · split at hb
      · rename_i fn hfn
        split at hb
        · rename_i c hc hok
          simp only [Bool.and_eq_true] at hok
          have hnt := blt_lt hok.2
          have hlen : args.length ≤ fn.ntmps := of_decide_eq_true hok.1.2
          refine callW_step ?_
          unfold stepW
          simp only [hfn, hc, hok.1.1, hok.1.2, Bool.and_self]
          have hco : codeOK fn.ntmps c = true := by
            have := hok.1.1
            unfold fnOK at this
            rw [hc, Bool.and_eq_true] at this
            exact this.2
          refine codeB_ok (callB_ok ho d) hnt c hco ?_ (teOf_rep (by omega)) R hb
          intro x te e s h E R hh
          cases x with
          | normal =>
            simp only [endB, resListB_eq E R] at hh
            exact optB_ok hh fun v hv => hk _ _ _ R hv
          | ret =>
            simp only [endB, resListB_eq E R] at hh
            exact optB_ok hh fun v hv => hk _ _ _ R hv
          | _ => cases hh
        · cases hb
      · cases hb

def noOrc : Orc := fun _ _ => none
theorem noOrc_ok : OrcOK P noOrc := fun _ _ _ h => by cases h

def hs0 : HS := ⟨.leaf, 0⟩
theorem hs0_rep : RepH hs0 [] where
  look i := by show Tr.get .leaf i = _; rw [Tr.get_leaf]; simp
  n := rfl
  le := by decide

/-- true, and nothing else. -/
def isTrueV (v : Value) : Bool :=
  match v with
  | .bool true => true
  | _ => false

theorem isTrueV_eq {v : Value} (h : isTrueV v = true) : v = .bool true := by
  unfold isTrueV at h
  split at h
  · rfl
  · cases h

theorem run_true {orc : Orc} (ho : OrcOK P orc) {fuel d : Nat} {f : FuncId} {args : List Value} (hb : callB P orc fuel d f args hs0 (fun v _ => isTrueV v) = true) : callW P f args [] fun v _ => v = .bool true :=
  callB_ok ho d f args _ _ _ _ hs0_rep (fun _ _ _ _ hh => isTrueV_eq hh) hb

end Go.AM

/- The words of printed functions: operations with their types looked up, loops, calls. Conditions: none. -/
namespace Go.AM
open Go

variable {P : Program}

def bs (l : List UInt8) : ByteArray := ⟨⟨l⟩⟩

def pFld (ag : Bool) (size off : Nat) (x : Value) : Option Value :=
  match x with
  | .agg cs => partV ag size cs.toList off
  | _ => none

def pIdxArr (len : Nat) (ag : Bool) (size : Nat) (x i : Value) : Option Value :=
  match x, i with
  | .agg cs, .int _ n => if 0 ≤ n ∧ n < (len : Int) then partV ag size cs.toList (n.toNat * size) else none
  | _, _ => none

def bld (z : List Value) (pl : List (Nat × Nat)) (parts : List (Nat × Value)) : Option Value :=
  (fillL (fun i => pl[i]?) z parts).map fun cs => .agg cs.toArray

def bldArr (z : List Value) (size : Nat) (parts : List (Nat × Value)) : Option Value :=
  (fillL (fun j => some (j * size, size)) z parts).map fun cs => .agg cs.toArray

def bldSl (size : Nat) (z : List Value) (len : Nat) (parts : List (Nat × Value)) : Option (List Value) :=
  if z.length = size ∧ len * size ≤ 16777216 ∧ len ≤ 16777216 then fillL (fun j => some (j * size, size)) (repL z len) parts else none

def mkSl (size bytes : Nat) (z : List Value) (len cap : Value) : Option (Nat × Nat × List Value) :=
  match len, cap with
  | .int .i64 l, .int .i64 c => if 0 ≤ l ∧ l ≤ c ∧ c ≤ (room40 : Int) ∧ bytes ≤ 256 ∧ z.length = size then some (l.toNat, c.toNat, repL z c.toNat) else none
  | _, _ => none

def lenSl (x : Value) : Option Value :=
  match x with
  | .slice _ n _ => some (.int .i64 n)
  | _ => none

def lenStr (x : Value) : Option Value :=
  match x with
  | .string s => some (.int .i64 s.size)
  | _ => none

def appSl (s : Nat) (b x : Value) (h : AH) (K : Value → AH → Prop) : Prop :=
  match x with
  | .slice .. => appS s b x h K
  | _ => False

def appStr (s : Nat) (b x : Value) (h : AH) (K : Value → AH → Prop) : Prop :=
  match x with
  | .string _ => appS s b x h K
  | _ => False

def appZI (s : Nat) (z : List Value) (b x : Value) (h : AH) (K : Value → AH → Prop) : Prop :=
  match x with
  | .int .i64 n => appZ s z b n h K
  | _ => False

def convI (k : IntKind) (x : Value) : Option Value :=
  match x with
  | .int _ n => some (.int k (k.wrap n))
  | _ => none

def convS (x : Value) : Option Value :=
  match x with
  | .string s => some (.string s)
  | _ => none

def strB (x : Value) (slot : Option Nat) (h : AH) (K : Value → AH → Prop) : Prop :=
  match x with
  | .string b => aStrBytes b slot h K
  | _ => False

def callV (X : CallT) (f : Value) (args : List Value) (h : AH) (K : Value → AH → Prop) : Prop :=
  match f with
  | .func (.func g) a b => X g (a.toList ++ args ++ b.toList) h K
  | _ => False

/-- a new object at its place. -/
def newR (slot : Option Nat) (c : List Value) (h : AH) (K : Value → AH → Prop) : Prop :=
  newW slot (.row c true) h fun id h' => K (.pointer (some ⟨id, 0, none⟩)) h'

def loopE (B : (Env → AH → Prop) → Env → AH → Prop) (e : Env) (h : AH) : Prop :=
  ∀ I : Env → AH → Prop, (∀ e h, B I e h → I e h) → I e h

def joinE (B : (Env → AH → Prop) → Prop) (J : Env → AH → Prop) : Prop := B J

theorem joinE_intro {B : (Env → AH → Prop) → Prop} {J : Env → AH → Prop} (Φ : Env → AH → Prop) (hJ : ∀ e h, Φ e h → J e h) (hB : ∀ J : Env → AH → Prop, (∀ e h, Φ e h → J e h) → B J) : joinE B J := hB J hJ

theorem loopE_intro {B : (Env → AH → Prop) → Env → AH → Prop} {e : Env} {h : AH} (Inv : Nat → Env → AH → Prop) (n : Nat) (h0 : Inv n e h)
    (step : ∀ (I : Env → AH → Prop) (n : Nat) (e : Env) (h : AH), Inv n e h → (∀ m e' h', m < n → Inv m e' h' → I e' h') → B I e h) : loopE B e h := by
  intro I hI
  have key : ∀ n, ∀ e h, Inv n e h → I e h := by
    intro n
    induction n using Nat.strongRecOn with
    | ind n ih => exact fun e h hi => hI e h (step I n e h hi fun m e' h' hm hi' => ih m hm e' h' hi')
  exact key n e h h0

/-! ### the same, but that an operation without a guard bears none -/
def gvalS (ops : Array Oper) (g : Nat × Bool) (e : Env) : Bool :=
  match (ops[g.1]?).bind (·.dst) with
  | some t => gB (e t) g.2
  | none => false

theorem gval_some {ops : Array Oper} {o : Oper} {g : Nat × Bool} (h : o.guard = some g) (e : Env) : gval ops o e = gvalS ops g e := by
  unfold gval gvalS
  rw [h]
  rfl
theorem gval_none {ops : Array Oper} {o : Oper} (h : o.guard = none) (e : Env) : gval ops o e = true := by
  unfold gval
  rw [h]

def ordW2 (P : Program) (X : CallT) (ops : Array Oper) : List Nat → Env → AH → (Env → AH → Prop) → Prop
  | [], e, h, Q => Q e h
  | i :: r, e, h, Q => match ops[i]? with
    | none => ordW2 P X ops r e h Q
    | some o => match o.guard with
      | none => opW P X none o e h fun v h' => ordW2 P X ops r (putE e o.dst v) h' Q
      | some g => gopW (gvalS ops g e) (opW P X none o e h) h fun v h' => ordW2 P X ops r (putE e o.dst v) h' Q

theorem ordW2_eq (P : Program) (X : CallT) (ops : Array Oper) (Q : Env → AH → Prop) : ∀ (l : List Nat) (e : Env) (h : AH), ordW2 P X ops l e h Q = ordW P X ops (fun _ => none) l e h Q
  | [], _, _ => rfl
  | i :: r, e, h => by
    rw [ordW2, ordW]
    cases ho : ops[i]? with
    | none => exact ordW2_eq P X ops Q r e h
    | some o =>
      dsimp only
      have hr : (fun v h' => ordW2 P X ops r (putE e o.dst v) h' Q) = fun v h' => ordW P X ops (fun _ => none) r (putE e o.dst v) h' Q := by
        funext v h'
        exact ordW2_eq P X ops Q r _ _
      rw [hr]
      cases hg : o.guard with
      | none => rw [gval_none hg]; rfl
      | some g => rw [gval_some hg]

def textD2 (P : Program) (X : CallT) (ops : Array Oper) (b : Array Nat) (sl : List (Option Nat)) : List Nat → HT → ST → Env → AH → (Env → AH → Prop) → Prop
  | [], _, _, e, h, Q => Q e h
  | i :: r, H, S, e, h, Q => match ops[i]? with
    | none => False
    | some o => match o.guard with
      | none => opD P X b sl i o H S e h fun v h' H' S' => textD2 P X ops b sl r H' S' (putE e o.dst v) h' Q
      | some g => gopD (gvalS ops g e) (opD P X b sl i o H S e h) h H S fun v h' H' S' => textD2 P X ops b sl r H' S' (putE e o.dst v) h' Q

theorem textD2_eq (P : Program) (X : CallT) (ops : Array Oper) (b : Array Nat) (sl : List (Option Nat)) (Q : Env → AH → Prop) : ∀ (l : List Nat) (H : HT) (S : ST) (e : Env) (h : AH), textD2 P X ops b sl l H S e h Q = textD P X ops b sl l H S e h Q
  | [], _, _, _, _ => rfl
  | i :: r, H, S, e, h => by
    rw [textD2, textD]
    cases ho : ops[i]? with
    | none => rfl
    | some o =>
      dsimp only
      have hr : (fun v h' H' S' => textD2 P X ops b sl r H' S' (putE e o.dst v) h' Q) = fun v h' H' S' => textD P X ops b sl r H' S' (putE e o.dst v) h' Q := by
        funext v h' H' S'
        exact textD2_eq P X ops b sl Q r _ _ _ _
      rw [hr]
      cases hg : o.guard with
      | none => rw [gval_none hg]; rfl
      | some g => rw [gval_some hg]

def regW2 (P : Program) (X : CallT) (ops : Array Oper) (draw : Bool) (e : Env) (h : AH) (Q : Env → AH → Prop) : Prop :=
  match draw with
  | false => ordW2 P X ops (List.range ops.size) e h Q
  | true => match drawOK P ops with
    | true => textD2 P X ops (Region.before ops) (slots P ops.toList h.length) (List.range ops.size) [] [] e (reserve (countAl P ops.toList) h) Q
    | false => False

theorem regW2_eq (P : Program) (X : CallT) (ops : Array Oper) (draw : Bool) (e : Env) (h : AH) (Q : Env → AH → Prop) : regW2 P X ops draw e h Q = regW P X ops draw e h Q := by
  cases draw with
  | false => exact ordW2_eq _ _ _ _ _ _ _
  | true =>
    simp only [regW2, regW]
    cases drawOK P ops with
    | false => rfl
    | true => exact textD2_eq _ _ _ _ _ _ _ _ _ _ _

def cwp2 (P : Program) (X : CallT) : Code → (Exit → Env → AH → Prop) → Env → AH → Prop
  | .skip, Q, e, h => Q .normal e h
  | .region _ ops draw, Q, e, h => regW2 P X ops draw e h (Q .normal)
  | .seq a b, Q, e, h => cwp2 P X a (thenW (cwp2 P X b Q) Q) e h
  | .cond c a b, Q, e, h => condW (ev e c) (cwp2 P X a Q e h) (cwp2 P X b Q e h)
  | .block id c, Q, e, h => cwp2 P X c (blockW id Q) e h
  | .loop c, Q, e, h => loopW (cwp2 P X c) Q e h
  | .exit id, Q, e, h => Q (.exit id) e h
  | .ret, Q, e, h => Q .ret e h
  | _, _, _, _ => False

theorem cwp2_eq (P : Program) (X : CallT) : ∀ (c : Code), cwp2 P X c = cwp P X c
  | .skip => rfl
  | .region _ ops draw => by funext Q e h; exact regW2_eq _ _ _ _ _ _ _
  | .seq a b => by funext Q e h; simp only [cwp2, cwp, cwp2_eq P X a, cwp2_eq P X b]
  | .cond c a b => by funext Q e h; simp only [cwp2, cwp, cwp2_eq P X a, cwp2_eq P X b]
  | .block id c => by funext Q e h; simp only [cwp2, cwp, cwp2_eq P X c]
  | .loop c => by funext Q e h; simp only [cwp2, cwp, cwp2_eq P X c]
  | .exit id => rfl
  | .ret => rfl
  | .rangeFunc .. => rfl
  | .scope _ => rfl
  | .label _ => rfl
  | .goto _ => rfl
  | .refuse _ => rfl

theorem callW_of {f : FuncId} {fn : Func} {args : List Value} {h : AH} {K : Value → AH → Prop} (hf : P.funcs[f]? = some fn) (hok : (fnOK fn && decide (args.length ≤ fn.ntmps)) = true)
    (hw : cwp2 P (callW P) (fn.body.getD .skip) (endW P fn K) (envOf args) h) : callW P f args h K := by
  rw [cwp2_eq] at hw
  refine callW_step ?_
  unfold stepW
  rw [hf]
  dsimp only
  have hb : ∃ c, fn.body = some c := by
    simp only [Bool.and_eq_true] at hok
    have := hok.1
    unfold fnOK at this
    cases h : fn.body with
    | none => rw [h] at this; simp at this
    | some c => exact ⟨c, rfl⟩
  obtain ⟨c, hb⟩ := hb
  rw [hb] at hw ⊢
  rw [hok]
  exact hw

end Go.AM
namespace Go.AM
open Go
abbrev pt (e : Env) (d : Nat) (v : Value) : Env := putE e (some d) v
end Go.AM

/- Rules for walking through printed functions: numbers, tests, words. Conditions: none. -/
namespace Go.AM
open Go

variable {P : Program} {t : Nat}

theorem w_some {α : Type} {o : Option α} {v : α} {K : α → Prop} (h : o = some v) (k : K v) : optW o K := by rw [h]; exact k

/-! ### numbers -/
theorem wrap_in (n : Int) (h1 : -9223372036854775808 ≤ n) (h2 : n ≤ 9223372036854775807) : IntKind.i64.wrap n = n := by
  simp only [IntKind.wrap, IntKind.bits, IntKind.signed]
  simp
  omega

theorem w_add {a b : Int} {K : Value → Prop} (h1 : -9223372036854775808 ≤ a + b) (h2 : a + b ≤ 9223372036854775807) (k : K (.int .i64 (a + b))) : optW (pBin P .add t (.int .i64 a) (.int .i64 b)) K := by
  refine w_some (v := .int .i64 (a + b)) ?_ k
  show (if IntKind.i64 = IntKind.i64 then pBinI .add .i64 a b else none) = _
  rw [if_pos rfl, pBinI, wrap_in _ h1 h2]
theorem w_sub {a b : Int} {K : Value → Prop} (h1 : -9223372036854775808 ≤ a - b) (h2 : a - b ≤ 9223372036854775807) (k : K (.int .i64 (a - b))) : optW (pBin P .sub t (.int .i64 a) (.int .i64 b)) K := by
  refine w_some (v := .int .i64 (a - b)) ?_ k
  show (if IntKind.i64 = IntKind.i64 then pBinI .sub .i64 a b else none) = _
  rw [if_pos rfl, pBinI, wrap_in _ h1 h2]
theorem w_mul {a b : Int} {K : Value → Prop} (h1 : -9223372036854775808 ≤ a * b) (h2 : a * b ≤ 9223372036854775807) (k : K (.int .i64 (a * b))) : optW (pBin P .mul t (.int .i64 a) (.int .i64 b)) K := by
  refine w_some (v := .int .i64 (a * b)) ?_ k
  show (if IntKind.i64 = IntKind.i64 then pBinI .mul .i64 a b else none) = _
  rw [if_pos rfl, pBinI, wrap_in _ h1 h2]
theorem w_tmod {kd : IntKind} {a b : Int} {K : Value → Prop} (h : b ≠ 0) (k : K (.int kd (a.tmod b))) : optW (pBin P .rem t (.int kd a) (.int kd b)) K := by
  refine w_some (v := .int kd (a.tmod b)) ?_ k
  show (if kd = kd then pBinI .rem kd a b else none) = _
  rw [if_pos rfl, pBinI, if_neg h]
theorem w_rem {kd : IntKind} {a b : Int} {K : Value → Prop} (h : 0 < b) (h0 : 0 ≤ a) (k : K (.int kd (a % b))) : optW (pBin P .rem t (.int kd a) (.int kd b)) K := by
  refine w_tmod (by omega) ?_
  rw [Int.tmod_eq_emod_of_nonneg h0]
  exact k
theorem w_quo {a b : Int} {K : Value → Prop} (h : 0 < b) (h0 : 0 ≤ a) (h1 : a ≤ 9223372036854775807) (k : K (.int .i64 (a / b))) : optW (pBin P .quo t (.int .i64 a) (.int .i64 b)) K := by
  refine w_some (v := .int .i64 (a / b)) ?_ k
  show (if IntKind.i64 = IntKind.i64 then pBinI .quo .i64 a b else none) = _
  rw [if_pos rfl, pBinI, if_neg (by omega), Int.tdiv_eq_ediv_of_nonneg h0]
  have g1 : 0 ≤ a / b := Int.ediv_nonneg h0 (by omega)
  have g2 : a / b ≤ a := Int.ediv_le_self _ h0
  rw [wrap_in _ (by omega) (by omega)]

theorem w_lss {kd : IntKind} {a b : Int} {K : Value → Prop} (k : K (.bool (decide (a < b)))) : optW (pBin P .lss t (.int kd a) (.int kd b)) K := by
  refine w_some (v := .bool (decide (a < b))) ?_ k
  show (if kd = kd then pBinI .lss kd a b else none) = _
  rw [if_pos rfl, pBinI]
theorem w_leq {kd : IntKind} {a b : Int} {K : Value → Prop} (k : K (.bool (decide (a ≤ b)))) : optW (pBin P .leq t (.int kd a) (.int kd b)) K := by
  refine w_some (v := .bool (decide (a ≤ b))) ?_ k
  show (if kd = kd then pBinI .leq kd a b else none) = _
  rw [if_pos rfl, pBinI]
theorem w_gtr {kd : IntKind} {a b : Int} {K : Value → Prop} (k : K (.bool (decide (b < a)))) : optW (pBin P .gtr t (.int kd a) (.int kd b)) K := by
  refine w_some (v := .bool (decide (b < a))) ?_ k
  show (if kd = kd then pBinI .gtr kd a b else none) = _
  rw [if_pos rfl, pBinI]
theorem w_geq {kd : IntKind} {a b : Int} {K : Value → Prop} (k : K (.bool (decide (b ≤ a)))) : optW (pBin P .geq t (.int kd a) (.int kd b)) K := by
  refine w_some (v := .bool (decide (b ≤ a))) ?_ k
  show (if kd = kd then pBinI .geq kd a b else none) = _
  rw [if_pos rfl, pBinI]
theorem w_eql {kd : IntKind} {a b : Int} {K : Value → Prop} (k : K (.bool (decide (a = b)))) : optW (pBin P .eql t (.int kd a) (.int kd b)) K := by
  refine w_some (v := .bool (decide (a = b))) ?_ k
  show (if kd = kd then pBinI .eql kd a b else none) = _
  rw [if_pos rfl, pBinI]
  rfl
theorem w_neq {kd : IntKind} {a b : Int} {K : Value → Prop} (k : K (.bool (decide (¬ a = b)))) : optW (pBin P .neq t (.int kd a) (.int kd b)) K := by
  refine w_some (v := .bool (decide (¬ a = b))) ?_ k
  show (if kd = kd then pBinI .neq kd a b else none) = _
  rw [if_pos rfl, pBinI]
  congr 2
  by_cases h : a = b <;> simp [h]

/-! ### words -/
theorem bs_size (l : List UInt8) : (bs l).size = l.length := rfl
theorem bs_data (l : List UInt8) : (bs l).data.toList = l := rfl
theorem bs_of (s : ByteArray) : s = bs s.data.toList := ByteArray.ext (Array.toList_inj.1 rfl)
theorem bs_inj {l m : List UInt8} : bs l = bs m ↔ l = m := ⟨fun h => by have := congrArg (fun s => s.data.toList) h; exact this, fun h => by rw [h]⟩

theorem w_cat {l m : List UInt8} {K : Value → Prop} (h : l.length + m.length < 9223372036854775808) (k : K (.string (bs (l ++ m)))) : optW (pBin P .add t (.string (bs l)) (.string (bs m))) K := by
  refine w_some (v := .string (bs (l ++ m))) ?_ k
  show pBinS .add (bs l) (bs m) = _
  rw [pBinS, if_pos (by rw [bs_size, bs_size]; exact h), ← bCat_eq]
  rfl
theorem w_seql {l m : List UInt8} {K : Value → Prop} (k : K (.bool (decide (l = m)))) : optW (pBin P .eql t (.string (bs l)) (.string (bs m))) K := by
  refine w_some (v := .bool (decide (l = m))) ?_ k
  show pBinS .eql (bs l) (bs m) = _
  rw [pBinS, bytes_toList, bytes_toList, bs_data, bs_data]
  congr 2
  by_cases h : l = m <;> simp [h]
theorem w_sneq {l m : List UInt8} {K : Value → Prop} (k : K (.bool (decide (¬ l = m)))) : optW (pBin P .neq t (.string (bs l)) (.string (bs m))) K := by
  refine w_some (v := .bool (decide (¬ l = m))) ?_ k
  show pBinS .neq (bs l) (bs m) = _
  rw [pBinS, bytes_toList, bytes_toList, bs_data, bs_data]
  congr 2
  by_cases h : l = m <;> simp [h]
theorem w_lenStr {l : List UInt8} {K : Value → Prop} (k : K (.int .i64 (l.length : Nat))) : optW (lenStr (.string (bs l))) K := k
theorem w_idxStr {l : List UInt8} {i : Int} {kd : IntKind} {b : UInt8} {K : Value → Prop} (h0 : 0 ≤ i) (hb : l[i.toNat]? = some b) (k : K (.int .u8 b.toNat)) : optW (pIdxStr (.string (bs l)) (.int kd i)) K := by
  refine w_some (v := .int .u8 b.toNat) ?_ k
  rw [← pIdxStrQ_eq, pIdxStrQ, if_pos h0, bs_data, hb]
  rfl
theorem pSliceB_in {i : Int} {kd : IntKind} {y d : Nat} (h0 : 0 ≤ i) (h1 : i ≤ (y : Int)) : pSliceB (some (.int kd i)) y d = some i.toNat := by
  rw [pSliceB, if_pos ⟨h0, h1⟩]
theorem w_subStr {l : List UInt8} {i j : Int} {kd kd' : IntKind} {K : Value → Prop} (h0 : 0 ≤ i) (h1 : i ≤ j) (h2 : j ≤ (l.length : Nat)) (k : K (.string (bs ((l.drop i.toNat).take (j.toNat - i.toNat))))) : optW (pSliceStr (.string (bs l)) (some (.int kd i)) (some (.int kd' j))) K := by
  refine w_some ?_ k
  rw [← pSliceStrQ_eq, pSliceStrQ, pSliceB_in (by omega) (by rw [bs_size]; exact h2)]
  dsimp only
  rw [pSliceB_in h0 (by omega)]
  rfl
theorem w_dropStr {l : List UInt8} {i : Int} {kd : IntKind} {K : Value → Prop} (h0 : 0 ≤ i) (h1 : i ≤ (l.length : Nat)) (k : K (.string (bs (l.drop i.toNat)))) : optW (pSliceStr (.string (bs l)) (some (.int kd i)) none) K := by
  refine w_some (v := .string (bs (l.drop i.toNat))) ?_ k
  rw [← pSliceStrQ_eq, pSliceStrQ]
  simp only [pSliceB, bs_size]
  rw [if_pos ⟨h0, h1⟩]
  simp only [bCut, bs_data]
  rw [List.take_of_length_le (by simp)]
  rfl
theorem w_takeStr {l : List UInt8} {j : Int} {kd : IntKind} {K : Value → Prop} (h0 : 0 ≤ j) (h1 : j ≤ (l.length : Nat)) (k : K (.string (bs (l.take j.toNat)))) : optW (pSliceStr (.string (bs l)) none (some (.int kd j))) K := by
  refine w_some (v := .string (bs (l.take j.toNat))) ?_ k
  rw [← pSliceStrQ_eq, pSliceStrQ, pSliceB_in h0 (by rw [bs_size]; exact h1)]
  simp only [pSliceB, bCut, bs_data]
  rfl

/-! ### tests -/
theorem w_not {p : Prop} [Decidable p] {K : Value → Prop} (k : K (.bool (decide (¬ p)))) : optW (pUn .not (.bool (decide p))) K := by
  refine w_some (v := .bool (decide (¬ p))) ?_ k
  by_cases h : p <;> simp [pUn, h]
theorem w_notb {b : Bool} {K : Value → Prop} (k : K (.bool (!b))) : optW (pUn .not (.bool b)) K := k
theorem pk_tt {p : Prop} [Decidable p] {a b : Value} {K : Value → Prop} (h : p) (k : K a) : optW (pPick (.bool (decide p)) a b) K := by
  rw [decide_eq_true h]; exact k
theorem pk_ff {p : Prop} [Decidable p] {a b : Value} {K : Value → Prop} (h : ¬ p) (k : K b) : optW (pPick (.bool (decide p)) a b) K := by
  rw [decide_eq_false h]; exact k
theorem pk_t {a b : Value} {K : Value → Prop} (k : K a) : optW (pPick (.bool true) a b) K := k
theorem pk_f {a b : Value} {K : Value → Prop} (k : K b) : optW (pPick (.bool false) a b) K := k
theorem c_dec {p : Prop} [Decidable p] {A B : Prop} (ha : p → A) (hb : ¬ p → B) : condW (.bool (decide p)) A B := by
  by_cases h : p
  · rw [decide_eq_true h]; exact ha h
  · rw [decide_eq_false h]; exact hb h
theorem c_tt {p : Prop} [Decidable p] {A B : Prop} (h : p) (ha : A) : condW (.bool (decide p)) A B := by
  rw [decide_eq_true h]; exact ha
theorem c_ff {p : Prop} [Decidable p] {A B : Prop} (h : ¬ p) (hb : B) : condW (.bool (decide p)) A B := by
  rw [decide_eq_false h]; exact hb
theorem c_t {A B : Prop} (ha : A) : condW (.bool true) A B := ha
theorem c_f {A B : Prop} (hb : B) : condW (.bool false) A B := hb
theorem c_b {b : Bool} {A B : Prop} (ha : b = true → A) (hb : b = false → B) : condW (.bool b) A B := by
  cases b with
  | true => exact ha rfl
  | false => exact hb rfl
theorem g_dec {p : Prop} [Decidable p] {f : (Value → AH → Prop) → Prop} {h : AH} {K : Value → AH → Prop} (ha : p → f K) (hb : ¬ p → K undef h) : gopW (gB (.bool (decide p)) true) f h K := by
  by_cases h : p
  · rw [decide_eq_true h]; exact ha h
  · rw [decide_eq_false h]; exact hb h
theorem g_decf {p : Prop} [Decidable p] {f : (Value → AH → Prop) → Prop} {h : AH} {K : Value → AH → Prop} (ha : p → K undef h) (hb : ¬ p → f K) : gopW (gB (.bool (decide p)) false) f h K := by
  by_cases h : p
  · rw [decide_eq_true h]; exact ha h
  · rw [decide_eq_false h]; exact hb h
theorem g_tt {p : Prop} [Decidable p] {f : (Value → AH → Prop) → Prop} {h : AH} {K : Value → AH → Prop} (hp : p) (k : f K) : gopW (gB (.bool (decide p)) true) f h K := by
  rw [decide_eq_true hp]; exact k
theorem g_tf {p : Prop} [Decidable p] {f : (Value → AH → Prop) → Prop} {h : AH} {K : Value → AH → Prop} (hp : ¬ p) (k : K undef h) : gopW (gB (.bool (decide p)) true) f h K := by
  rw [decide_eq_false hp]; exact k
theorem g_ft {p : Prop} [Decidable p] {f : (Value → AH → Prop) → Prop} {h : AH} {K : Value → AH → Prop} (hp : p) (k : K undef h) : gopW (gB (.bool (decide p)) false) f h K := by
  rw [decide_eq_true hp]; exact k
theorem g_ff {p : Prop} [Decidable p] {f : (Value → AH → Prop) → Prop} {h : AH} {K : Value → AH → Prop} (hp : ¬ p) (k : f K) : gopW (gB (.bool (decide p)) false) f h K := by
  rw [decide_eq_false hp]; exact k
theorem gc_tt {f : (Value → AH → Prop) → Prop} {h : AH} {K : Value → AH → Prop} (k : f K) : gopW (gB (.bool true) true) f h K := k
theorem gc_ft {f : (Value → AH → Prop) → Prop} {h : AH} {K : Value → AH → Prop} (k : K undef h) : gopW (gB (.bool true) false) f h K := k
theorem gc_tf {f : (Value → AH → Prop) → Prop} {h : AH} {K : Value → AH → Prop} (k : K undef h) : gopW (gB (.bool false) true) f h K := k
theorem gc_ff {f : (Value → AH → Prop) → Prop} {h : AH} {K : Value → AH → Prop} (k : f K) : gopW (gB (.bool false) false) f h K := k

theorem w_convI {k k' : IntKind} {n : Int} {K : Value → Prop} (h : k.wrap n = n) (hk : K (.int k n)) : optW (convI k (.int k' n)) K := by
  rw [convI, h]; exact hk
theorem w_lenSl {a : Option Addr} {n c : Nat} {K : Value → Prop} (k : K (.int .i64 n)) : optW (lenSl (.slice a n c)) K := k

end Go.AM

section
/- A known function 'within': what a run may take of it. Conditions: none. -/
namespace Go.AM
open Go
set_option linter.unusedVariables false

theorem tmod_emod (a n : Int) (h : 0 < n) : (if a.tmod n < 0 then a.tmod n + n else a.tmod n) = a % n ∧ (a.tmod n < 0 → a.tmod n + n = a % n) ∧ (¬ a.tmod n < 0 → a.tmod n = a % n) ∧ - n < a.tmod n ∧ a.tmod n < n := by
  have h2 := Int.emod_nonneg a (by omega : n ≠ 0)
  have h3 := Int.emod_lt_of_pos a h
  have h4 := Int.tmod_eq_emod (a := a) (b := n)
  split at h4
  · generalize a % n = r at *
    generalize a.tmod n = m at *
    refine ⟨?_, ?_, ?_, ?_, ?_⟩
    · rw [if_neg (by omega)]; omega
    all_goals omega
  · rename_i hx
    have h5 : a % n ≠ 0 := fun e => hx (.inr (Int.dvd_of_emod_eq_zero e))
    have h6 : (n.natAbs : Int) = n := by omega
    generalize a % n = r at *
    generalize a.tmod n = m at *
    refine ⟨?_, ?_, ?_, ?_, ?_⟩
    · rw [if_pos (by omega)]; omega
    all_goals omega

def orcWithin (g : Nat) : Orc := fun f args => cond (Nat.beq f g) (match args with
  | [.int .i64 _, .int .i64 (.ofNat (m + 1))] => cond (Nat.ble m 60) (some ((List.range (m + 1)).map fun k => .int .i64 (Int.ofNat k))) none
  | _ => none) none

theorem orcWithin_ok {P : Program} {g : Nat} (hw : ∀ (a n : Int) (h : AH) (K : Value → AH → Prop), 0 < n → n ≤ 1152921504606846976 → K (.int .i64 (a % n)) h → callW P g [.int .i64 a, .int .i64 n] h K) : OrcOK P (orcWithin g) := by
  intro f args outs ho h K hK
  unfold orcWithin at ho
  rw [Tr.cond_beq] at ho
  split at ho
  · rename_i hf
    subst hf
    split at ho
    · rename_i a m
      cases hm : Nat.ble m 60 with
      | false => rw [hm] at ho; cases ho
      | true =>
        rw [hm] at ho
        obtain rfl := Option.some.inj ho
        have hm' : m ≤ 60 := Nat.le_of_ble_eq_true hm
        refine hw a _ h K (by simp only [Int.ofNat_eq_natCast]; omega) (by simp only [Int.ofNat_eq_natCast]; omega) ?_
        have h2 := Int.emod_nonneg a (b := Int.ofNat (m + 1)) (by simp only [Int.ofNat_eq_natCast]; omega)
        have h3 := Int.emod_lt_of_pos a (b := Int.ofNat (m + 1)) (by simp only [Int.ofNat_eq_natCast]; omega)
        refine hK _ (List.mem_map.2 ⟨(a % Int.ofNat (m + 1)).toNat, ?_, ?_⟩)
        · rw [List.mem_range]
          generalize a % Int.ofNat (m + 1) = r at *
          simp only [Int.ofNat_eq_natCast] at h3
          omega
        · generalize a % Int.ofNat (m + 1) = r at *
          simp only [Int.ofNat_eq_natCast]
          congr 1
          omega
    · cases ho
  · cases ho

end Go.AM
namespace Go.AM
open Go
theorem callW_unstep {P : Program} {f : FuncId} {args : List Value} {h : AH} {K : Value → AH → Prop} (hc : callW P f args h K) : stepW P (callW P) f args h K :=
  hc (stepW P (callW P)) fun _ _ _ _ hs => stepW_mono (X := stepW P (callW P)) (Y := callW P) (fun f args h K K' hm hx => callW_step (stepW_mono callW_mono _ _ _ _ _ hm hx)) _ _ _ _ _ (fun _ _ h => h) hs

theorem callW_body {P : Program} {f : FuncId} {fn : Func} {args : List Value} {h : AH} {K : Value → AH → Prop} (hf : P.funcs[f]? = some fn) (hc : callW P f args h K) : cwp2 P (callW P) (fn.body.getD .skip) (endW P fn K) (envOf args) h := by
  have := callW_unstep hc
  unfold stepW at this
  rw [hf] at this
  dsimp only at this
  rw [cwp2_eq]
  split at this
  · rename_i c hb _
    rw [hb]
    exact this
  · exact this.elim

open Classical in
/-- calls, but that one call of one function is another one. -/
noncomputable def callX (P : Program) (g : FuncId) (as bs : List Value) : CallT := fun f args h K => if f = g ∧ args = as then callW P g bs h K else callW P f args h K

theorem callX_mono {P : Program} {g : FuncId} {as bs : List Value} (hle : ∀ h K, callW P g bs h K → callW P g as h K) : XMono (callX P g as bs) (callW P) := by
  intro f args h K K' hm hx
  unfold callX at hx
  split at hx
  · rename_i he
    rw [he.1, he.2]
    exact hle _ _ (callW_mono _ _ _ _ _ hm hx)
  · exact callW_mono _ _ _ _ _ hm hx

theorem callX_ne {P : Program} {g f : FuncId} {as bs args : List Value} (hne : f ≠ g) : callX P g as bs f args = callW P f args := by
  funext h K
  unfold callX
  rw [if_neg (fun e => hne e.1)]
theorem callX_eq {P : Program} {g : FuncId} {as bs : List Value} : callX P g as bs g as = callW P g bs := by
  funext h K
  unfold callX
  rw [if_pos ⟨rfl, rfl⟩]

/-- A FUNCTION THAT HANDS A NUMBER TO 'within' ALONE: what it does at the number's remainder, it does at the number. -/
theorem split_within {P : Program} {f g : FuncId} {fn : Func} {n : Int} {h : AH} {K : Value → AH → Prop} {S : CallT → Value → AH → (Value → AH → Prop) → Prop} (hf : P.funcs[f]? = some fn) (hok : (fnOK fn && decide (1 ≤ fn.ntmps)) = true)
    (he : ∀ X a h K, cwp2 P X (fn.body.getD .skip) (endW P fn K) (envOf [a]) h = S X a h K)
    (hw : ∀ (a : Int) (h : AH) (K : Value → AH → Prop), K (.int .i64 (a % n)) h → callW P g [.int .i64 a, .int .i64 n] h K)
    (hinv : ∀ (i : Int) (h : AH) (K : Value → AH → Prop), 0 ≤ i → i < n → callW P g [.int .i64 i, .int .i64 n] h K → K (.int .i64 i) h)
    (a i : Int) (hS : S (callX P g [.int .i64 a, .int .i64 n] [.int .i64 i, .int .i64 n]) (.int .i64 a) h K = S (callW P) (.int .i64 i) h K) (h0 : 0 ≤ i) (h1 : i < n) (hai : a % n = i) (hc : callW P f [.int .i64 i] h K) : callW P f [.int .i64 a] h K := by
  have h2 := callW_body hf hc
  rw [he, ← hS, ← he, cwp2_eq] at h2
  refine callW_of hf hok ?_
  rw [cwp2_eq]
  refine cwp_mono (callX_mono ?_) _ (fun _ _ _ h => h) h2
  intro h K hK
  exact hw a h K (by rw [hai]; exact hinv i h K h0 h1 hK)
end Go.AM
end

/- Rules for walking through printed functions: memory. Conditions: none. -/
namespace Go.AM
open Go

/-- what was there is there as it was. -/
structure Ex (h h' : AH) : Prop where
  len : h.length ≤ h'.length
  get : ∀ j, j < h.length → h'[j]? = h[j]?

theorem Ex.refl (h : AH) : Ex h h := ⟨Nat.le_refl _, fun _ _ => rfl⟩
theorem Ex.trans {a b c : AH} (x : Ex a b) (y : Ex b c) : Ex a c := ⟨Nat.le_trans x.len y.len, fun j hj => (y.get j (Nat.lt_of_lt_of_le hj x.len)).trans (x.get j hj)⟩
theorem Ex.app (h : AH) (t : AH) : Ex h (h ++ t) := ⟨by simp, fun j hj => List.getElem?_append_left hj⟩
theorem Ex.push {a h : AH} (x : Ex a h) (o : AObj) : Ex a (h ++ [o]) := x.trans (.app h [o])
theorem Ex.set {a h : AH} (x : Ex a h) {i : Nat} (hi : a.length ≤ i) (o : AObj) : Ex a (h.set i o) :=
  ⟨by rw [List.length_set]; exact x.len, fun j hj => by rw [List.getElem?_set, if_neg (by omega)]; exact x.get j hj⟩
theorem Ex.some {h h' : AH} (x : Ex h h') {i : Nat} {o : AObj} (hi : h[i]? = some o) : h'[i]? = some o := by
  rw [x.get i (List.getElem?_eq_some_iff.1 hi).1]; exact hi

theorem lt_of_get {h : AH} {i : Nat} {o : AObj} (hi : h[i]? = some o) : i < h.length := (List.getElem?_eq_some_iff.1 hi).1
theorem get_new (h : AH) (o : AObj) : (h ++ [o])[h.length]? = some o := by simp
theorem get_set (h : AH) {i : Nat} (hi : i < h.length) (o : AObj) : (h.set i o)[i]? = some o := by simp [hi]
theorem get_ne {h : AH} {i j : Nat} (hij : i ≠ j) (o : AObj) : (h.set i o)[j]? = h[j]? := by simp [hij]

/-- a pointer to cells (of an object that is read). -/
def PtrTo (h : AH) (p : Value) (cs : List Value) : Prop := ∃ id off c w, p = .pointer (some ⟨id, off, none⟩) ∧ h[id]? = some (.row c w) ∧ off + cs.length ≤ c.length ∧ (c.drop off).take cs.length = cs

theorem PtrTo.ex {h h' : AH} {p : Value} {cs : List Value} (hp : PtrTo h p cs) (x : Ex h h') : PtrTo h' p cs := by
  obtain ⟨id, off, c, w, rfl, h1, h2, h3⟩ := hp
  exact ⟨id, off, c, w, rfl, x.some h1, h2, h3⟩

theorem w_rd1 {h : AH} {p : Value} {cs : List Value} {x : Value} {K : Value → Prop} (hp : PtrTo h p cs) (hx : cs[0]? = some x) (k : K x) : optW (rdRow false 1 p h) K := by
  obtain ⟨id, off, c, w, rfl, h1, h2, h3⟩ := hp
  have hl : 0 < cs.length := (List.getElem?_eq_some_iff.1 hx).1
  refine w_some (v := x) ?_ k
  simp only [rdRow, h1, if_pos (show off + 1 ≤ c.length by omega), partV]
  rw [← h3] at hx
  simpa [hl] using hx
theorem w_rdA {h : AH} {p : Value} {cs : List Value} {n : Nat} {K : Value → Prop} (hp : PtrTo h p cs) (hn : n = cs.length) (k : K (.agg cs.toArray)) : optW (rdRow true n p h) K := by
  obtain ⟨id, off, c, w, rfl, h1, h2, h3⟩ := hp
  subst hn
  refine w_some (v := .agg cs.toArray) ?_ k
  simp only [rdRow, h1, if_pos h2, partV, h3]
theorem w_off {h : AH} {p : Value} {cs : List Value} {o : Nat} {K : Value → Prop} (hp : PtrTo h p cs) (ho : o ≤ cs.length) (k : ∀ q, PtrTo h q (cs.drop o) → K q) : optW (pOff o p) K := by
  obtain ⟨id, off, c, w, rfl, h1, h2, h3⟩ := hp
  refine w_some (v := .pointer (some ⟨id, off + o, none⟩)) rfl (k _ ⟨id, off + o, c, w, rfl, h1, by simp; omega, ?_⟩)
  have : cs.drop o = ((c.drop off).take cs.length).drop o := by rw [h3]
  rw [this, List.drop_take, List.drop_drop]
  simp [List.length_drop]

/-- a slice of n elements of s cells each, whose cells are these. -/
def Sl (s : Nat) (h : AH) (v : Value) (n : Nat) (cs : List Value) : Prop :=
  cs.length = n * s ∧ ((v = .slice none 0 0 ∧ n = 0) ∨ ∃ id off cap, v = .slice (some ⟨id, off, none⟩) n cap ∧ (cap < openCap ∧ n ≤ cap ∨ cap = openCap + s) ∧
    (n = 0 ∨ ∃ c w, h[id]? = some (.row c w) ∧ off + n * s ≤ c.length ∧ (c.drop off).take (n * s) = cs))

theorem Sl.ex {s : Nat} {h h' : AH} {v : Value} {n : Nat} {cs : List Value} (hv : Sl s h v n cs) (x : Ex h h') : Sl s h' v n cs := by
  refine ⟨hv.1, ?_⟩
  rcases hv.2 with h1 | ⟨id, off, cap, h1, h2, h3⟩
  · exact .inl h1
  · refine .inr ⟨id, off, cap, h1, h2, ?_⟩
    rcases h3 with h3 | ⟨c, w, h3, h4⟩
    · exact .inl h3
    · exact .inr ⟨c, w, x.some h3, h4⟩

theorem Sl.shape {s : Nat} {h : AH} {v : Value} {n : Nat} {cs : List Value} (hv : Sl s h v n cs) : ∃ a cap, v = .slice a n cap := by
  rcases hv.2 with ⟨rfl, rfl⟩ | ⟨id, off, cap, h1, _⟩
  · exact ⟨_, _, rfl⟩
  · exact ⟨_, _, h1⟩

theorem w_len {s : Nat} {h : AH} {v : Value} {n : Nat} {cs : List Value} {K : Value → Prop} (hv : Sl s h v n cs) (k : K (.int .i64 n)) : optW (lenSl v) K := by
  obtain ⟨a, cap, rfl⟩ := hv.shape
  exact k

/-- the i-th element's place. -/
theorem w_idx {s : Nat} {h : AH} {v : Value} {n : Nat} {cs : List Value} {kd : IntKind} {i : Int} {K : Value → Prop} (hv : Sl s h v n cs) (h0 : 0 ≤ i) (hi : i < (n : Int))
    (k : ∀ p, PtrTo h p ((cs.drop (i.toNat * s)).take s) → K p) : optW (pIdxS s v (.int kd i)) K := by
  rcases hv.2 with ⟨rfl, rfl⟩ | ⟨id, off, cap, rfl, _, h3⟩
  · omega
  · rcases h3 with rfl | ⟨c, w, h3, h4, h5⟩
    · omega
    · refine w_some (v := .pointer (some ⟨id, off + i.toNat * s, none⟩)) (by rw [pIdxS, if_pos ⟨h0, hi⟩]) (k _ ⟨id, off + i.toNat * s, c, w, rfl, h3, ?_, ?_⟩)
      · have h6 : (i.toNat + 1) * s ≤ n * s := Nat.mul_le_mul_right s (by omega)
        rw [Nat.add_mul] at h6
        have h7 : ((cs.drop (i.toNat * s)).take s).length ≤ s := List.length_take_le _ _
        omega
      · have h6 : (i.toNat + 1) * s ≤ n * s := Nat.mul_le_mul_right s (by omega)
        rw [Nat.add_mul] at h6
        have hl : ((cs.drop (i.toNat * s)).take s).length = s := by
          rw [List.length_take, List.length_drop, hv.1]; omega
        rw [hl, ← h5, List.drop_take, List.drop_drop, List.take_take]
        congr 1
        omega

/-! ### lists of things of s cells each -/
/-- the cells of a list. -/
def flat {α : Type} (enc : α → List Value) (l : List α) : List Value := l.flatMap enc

theorem flat_length {α : Type} {enc : α → List Value} {s : Nat} (he : ∀ x, (enc x).length = s) : ∀ (l : List α), (flat enc l).length = l.length * s
  | [] => by simp [flat]
  | x :: l => by
    have := flat_length he l
    simp only [flat, List.flatMap_cons, List.length_append, he, List.length_cons, Nat.add_mul] at this ⊢
    omega
theorem flat_append {α : Type} (enc : α → List Value) (l m : List α) : flat enc (l ++ m) = flat enc l ++ flat enc m := by simp [flat]
theorem flat_at {α : Type} {enc : α → List Value} {s : Nat} (he : ∀ x, (enc x).length = s) : ∀ (l : List α) (i : Nat) (x : α), l[i]? = some x → ((flat enc l).drop (i * s)).take s = enc x
  | [], i, x, h => by simp at h
  | y :: l, 0, x, h => by
    simp only [List.getElem?_cons_zero, Option.some.injEq] at h
    subst h
    simp [flat, ← he y]
  | y :: l, i + 1, x, h => by
    simp only [List.getElem?_cons_succ] at h
    have := flat_at he l i x h
    rw [← this]
    simp only [flat, List.flatMap_cons]
    rw [Nat.add_mul, Nat.one_mul, Nat.add_comm, ← he y, ← List.drop_drop, List.drop_left]

def SlT {α : Type} (s : Nat) (enc : α → List Value) (h : AH) (v : Value) (l : List α) : Prop := Sl s h v l.length (flat enc l)

theorem w_idxT {α : Type} {s : Nat} {enc : α → List Value} (he : ∀ x, (enc x).length = s) {h : AH} {v : Value} {l : List α} {kd : IntKind} {i : Int} {x : α} {K : Value → Prop} (hv : SlT s enc h v l) (h0 : 0 ≤ i) (hx : l[i.toNat]? = some x)
    (k : ∀ p, PtrTo h p (enc x) → K p) : optW (pIdxS s v (.int kd i)) K := by
  have hi : i.toNat < l.length := (List.getElem?_eq_some_iff.1 hx).1
  refine w_idx hv h0 (by omega) fun p hp => k p ?_
  rw [flat_at he l _ x hx] at hp
  exact hp

def eI (n : Int) : List Value := [.int .i64 n]
def eB (b : UInt8) : List Value := [.int .u8 b.toNat]
def eS (s : List UInt8) : List Value := [.string (bs s)]
def eBo (b : Bool) : List Value := [.bool b]
abbrev Ints := SlT 1 eI
abbrev Bytes := SlT 1 eB
abbrev Strs := SlT 1 eS
abbrev Bools := SlT 1 eBo
theorem eI_len (n : Int) : (eI n).length = 1 := rfl
theorem eB_len (n : UInt8) : (eB n).length = 1 := rfl
theorem eS_len (n : List UInt8) : (eS n).length = 1 := rfl
theorem eBo_len (n : Bool) : (eBo n).length = 1 := rfl

/-! ### a slice of the call's own -/
def OwnSl (s : Nat) (b : Nat) (h : AH) (v : Value) (n : Nat) (cs : List Value) : Prop :=
  (v = .slice none 0 0 ∧ n = 0 ∧ cs = []) ∨ ∃ id, b ≤ id ∧ v = .slice (some ⟨id, 0, none⟩) n (openCap + s) ∧ h[id]? = some (.row cs true) ∧ cs.length = n * s

theorem OwnSl.sl {s b : Nat} {h : AH} {v : Value} {n : Nat} {cs : List Value} (ho : OwnSl s b h v n cs) : Sl s h v n cs := by
  rcases ho with ⟨rfl, rfl, rfl⟩ | ⟨id, hb, rfl, h1, h2⟩
  · exact ⟨by simp, .inl ⟨rfl, rfl⟩⟩
  · exact ⟨h2, .inr ⟨id, 0, _, rfl, .inr rfl, .inr ⟨cs, true, h1, by omega, by rw [← h2]; simp⟩⟩⟩
theorem OwnSl.ex {s b : Nat} {h h' : AH} {v : Value} {n : Nat} {cs : List Value} (ho : OwnSl s b h v n cs) (x : Ex h h') : OwnSl s b h' v n cs := by
  rcases ho with h1 | ⟨id, hb, h1, h2, h3⟩
  · exact .inl h1
  · exact .inr ⟨id, hb, h1, x.some h2, h3⟩
theorem OwnSl.nil (s b : Nat) (h : AH) : OwnSl s b h (.slice none 0 0) 0 [] := .inl ⟨rfl, rfl, rfl⟩
theorem OwnSl.mono {s b b' : Nat} {h : AH} {v : Value} {n : Nat} {cs : List Value} (ho : OwnSl s b h v n cs) (hb : b' ≤ b) : OwnSl s b' h v n cs := by
  rcases ho with h1 | ⟨id, h0, h1⟩
  · exact .inl h1
  · exact .inr ⟨id, Nat.le_trans hb h0, h1⟩

/-- the object that a value stands on. -/
def onId (v : Value) (j : Nat) : Prop := match v with
  | .slice (some a) _ _ => a.block = j
  | _ => False

/-- an append to one's own. -/
theorem app_own {s b : Nat} {h : AH} {v x : Value} {n m : Nat} {cs news : List Value} {K : Value → AH → Prop} (hs : 0 < s) (ho : OwnSl s b h v n cs) (hx : srcL s x h = some (m, news)) (hm : news.length = m * s) (hn : n + m < room40) (hb : b ≤ h.length)
    (k : ∀ v' h', OwnSl s b h' v' (n + m) (cs ++ news) → h.length ≤ h'.length → (∀ j, j < h.length → ¬ onId v j → h'[j]? = h[j]?) → (∀ j, onId v' j → onId v j ∨ h.length ≤ j) → K v' h') : appS s v x h K := by
  refine .inl ?_
  by_cases m0 : m = 0
  · subst m0
    have hnews : news = [] := List.eq_nil_of_length_eq_zero (by omega)
    subst hnews
    have : pAppS s v x h = some (v, h) := by
      unfold pAppS
      rcases ho with ⟨rfl, rfl, rfl⟩ | ⟨id, hb, rfl, h1, h2⟩
      · simp only [hx]
        rw [if_pos hn, if_pos (by decide)]
        simp [pAppEx, stAt]
      · simp only [hx]
        rw [if_pos hn, if_neg (by simp), if_pos trivial]
        simp [pAppOp, h1, h2, stAt]
    rw [this]
    exact k _ _ (by simpa using ho) (Nat.le_refl _) (fun _ _ _ => rfl) (fun j hj => .inl hj)
  · rcases ho with ⟨rfl, rfl, rfl⟩ | ⟨id, hb', rfl, h1, h2⟩
    · have : pAppS s (.slice none 0 0) x h = some (.slice (some ⟨h.length, 0, none⟩) (0 + m) (openCap + s), h ++ [.row ([] ++ news) true]) := by
        unfold pAppS
        simp only [hx]
        rw [if_pos hn, if_pos (by decide)]
        simp only [pAppEx]
        rw [if_neg (by omega)]
        simp [firstL]
      rw [this]
      refine k _ _ (.inr ⟨h.length, hb, rfl, get_new _ _, by simp [hm]⟩) (by simp) (fun j hj _ => List.getElem?_append_left hj) (fun j hj => .inr ?_)
      have : h.length = j := hj
      omega
    · have hid := lt_of_get h1
      have : pAppS s (.slice (some ⟨id, 0, none⟩) n (openCap + s)) x h = some (.slice (some ⟨h.length, 0, none⟩) (n + m) (openCap + s), h.set id .dead ++ [.row (cs ++ news) true]) := by
        unfold pAppS
        simp only [hx]
        rw [if_pos hn, if_neg (by simp), if_pos trivial]
        simp only [pAppOp, h1]
        have : n * s < (n + m) * s := Nat.mul_lt_mul_of_pos_right (by omega) hs
        rw [if_neg (by omega), if_pos (by omega)]
        rw [← h2]
        simp
      rw [this]
      refine k _ _ (.inr ⟨h.length, hb, rfl, ?_, by rw [List.length_append, h2, hm, Nat.add_mul]⟩) (by simp) (fun j hj hne => ?_) (fun j hj => .inr ?_)
      · rw [List.getElem?_append_right (by simp)]; simp
      · rw [List.getElem?_append_left (by simpa using hj), get_ne (fun e => hne (by subst e; rfl))]
      · have : h.length = j := hj
        omega

end Go.AM

/- From a run of the abstract machine to a call of Go's model: it returns true, and nothing that was there has turned. Conditions: the arguments that came in are only read. -/
namespace Go.AM
open Go Go.RowKit

variable {P : Program}

theorem law_lift (hmix : P.follows .mixedOrders = true) {f : FuncId} {args : List Value} {h : AH} {β : Bj} {args' : Array Value} {w : World} (hA : ListR β args args') (R : Rel β h w) (hro : ∀ i : Nat, live h[i]? = true → isRo h[i]? = true)
    (hc : callW P f args h fun v _ => v = .bool true) : Calls P f args' w fun e w' => e = .returned (.bool true) ∧ Below w.heap.size w w' := by
  refine Calls.mono ((callW_sim hmix _ _ _ _ hc).2 β args' w hA R) ?_
  rintro e w' ⟨v, v', β', h', rfl, rfl, hv, _, X⟩
  cases hv
  refine ⟨rfl, X.os, X.tape, X.out, X.size, fun k hk => X.cfr k hk ?_⟩
  rintro ⟨id, p, _, _, h1, h2⟩
  rw [hro id h1] at h2
  cases h2

/-- no object at all -/
def β0 : Bj := fun _ => none
theorem rel0 (w : World) : Rel β0 [] w where
  lt h := by cases h
  obj h := by cases h
  sep _ h := by cases h

/-- rows that came in: of each where it lies, and its cells; or nothing. -/
structure InRow where
  has : Bool
  b : Nat
  off : Nat
  cells : List Value

def inObj (r : InRow) : AObj := if r.has = true then .row r.cells false else .dead
def InRow.pl (r : InRow) : Pl := ⟨r.b, r.off, r.off + r.cells.length, 1⟩
def βIn (rs : List InRow) : Bj := fun i => (rs[i]?).map InRow.pl

/-- a row lies in the world: pure cells. -/
def InRow.at (r : InRow) (w : World) : Prop := r.has = true → ∃ cc e fr, w.heap[r.b]? = some (.cells cc e fr) ∧ r.off + r.cells.length ≤ cc.size ∧ (∀ i, i < r.cells.length → cc.getD (r.off + i) undef = r.cells.getD i undef) ∧ (∀ v ∈ r.cells, pureS v = true)

theorem roIn (rs : List InRow) : ∀ i : Nat, live (rs.map inObj)[i]? = true → isRo (rs.map inObj)[i]? = true := by
  intro k hk
  rw [List.getElem?_map] at hk ⊢
  cases e : rs[k]? with
  | none => rw [e] at hk; cases hk
  | some r =>
    rw [e] at hk
    simp only [Option.map_some, inObj] at hk ⊢
    cases hr : r.has with
    | false => rw [hr] at hk; cases hk
    | true => rfl

theorem relIn (rs : List InRow) (w : World) (h : ∀ r ∈ rs, r.at w) : Rel (βIn rs) (rs.map inObj) w where
  lt {id p} hp := by
    unfold βIn at hp
    cases e : rs[id]? with
    | none => rw [e] at hp; cases hp
    | some r => rw [List.length_map]; exact (List.getElem?_eq_some_iff.1 e).1
  obj {id p o} hp ho := by
    unfold βIn at hp
    cases e : rs[id]? with
    | none => rw [e] at hp; cases hp
    | some r =>
      rw [e] at hp
      rw [List.getElem?_map, e] at ho
      obtain rfl := Option.some.inj hp
      obtain rfl := Option.some.inj ho
      unfold inObj
      cases hr : r.has with
      | false => trivial
      | true =>
        obtain ⟨cc, el, fr, h1, h2, h3, h4⟩ := h r (List.mem_of_getElem? e) hr
        refine ⟨cc, el, fr, h1, Nat.le_refl _, h2, fun i hi => ?_, fun x => (by cases x), fun v hv => pureS_one (h4 v hv)⟩
        have := h3 i hi
        show VR _ _ (cc.getD (r.off + i) undef)
        rw [this]
        exact .ofPureS (h4 _ (by rw [List.getD_eq_getElem?_getD, List.getElem?_eq_getElem hi]; exact List.getElem_mem hi))
  sep {i j p q} hij hi hj li lj hr := by
    rw [roIn rs i li, roIn rs j lj] at hr
    cases hr

theorem inRow_of {w : World} {a : Addr} {cs : List Value} (hne : cs ≠ []) (hc : ∀ i v, cs[i]? = some v → w.cell? (a.add i) = some v) (hp : ∀ v ∈ cs, pureS v = true) : a.spot = none ∧ (InRow.mk true a.block a.off cs).at w := by
  have key : ∀ i v, cs[i]? = some v → a.spot = none ∧ ∃ cc e fr, w.heap[a.block]? = some (.cells cc e fr) ∧ cc[a.off + i]? = some v := by
    intro i v hv
    have h0 := hc i v hv
    have hs := World.cell?_spot h0
    have hb : (a.add i).block = a.block := by unfold Addr.add; split <;> rfl
    have ho : (a.add i).off = a.off + i := by
      unfold Addr.add
      split
      · rename_i h; rw [h]; rfl
      · rfl
    unfold World.cell? at h0
    rw [hb, hs, ho] at h0
    split at h0
    · rename_i c _ _ hh
      refine ⟨?_, c, _, _, hh, by simpa using h0⟩
      have h1 := hc 0
      cases cs with
      | nil => exact absurd rfl hne
      | cons x r =>
        have := World.cell?_spot (h1 x rfl)
        simpa [Addr.add] using this
    · cases h0
  cases cs with
  | nil => exact absurd rfl hne
  | cons x r =>
    obtain ⟨h1, cc, e, fr, h2, h3⟩ := key 0 x rfl
    refine ⟨h1, fun _ => ⟨cc, e, fr, h2, ?_, fun i hi => ?_, hp⟩⟩
    · have hl : r.length < (x :: r).length := by simp
      obtain ⟨_, cc', e', fr', g2, g3⟩ := key r.length _ (List.getElem?_eq_getElem hl)
      rw [h2] at g2
      cases g2
      have := (Array.getElem?_eq_some_iff.1 g3).1
      show a.off + (x :: r).length ≤ cc.size
      simp only [List.length_cons]
      omega
    · obtain ⟨_, cc', e', fr', g2, g3⟩ := key i _ (List.getElem?_eq_getElem hi)
      rw [h2] at g2
      cases g2
      show cc.getD (a.off + i) undef = (x :: r).getD i undef
      rw [List.getD_eq_getElem?_getD, List.getElem?_eq_getElem hi, ← Array.getElem?_toList] at *
      simp only [Array.getD_eq_getD_getElem?, ← Array.getElem?_toList, g3]

theorem no_at (b off : Nat) (w : World) : (InRow.mk false b off []).at w := fun h => by cases h

/-- A SLICE THAT CAME IN, as one of the abstract machine's: its object at a place j. -/
theorem in_slice {w : World} {s : Nat} (s0 : 0 < s) {a : Option Addr} {len cap : Nat} {cs : List Value} (hs : cs.length = len * s) (hlc : len ≤ cap) (hcap : cap < openCap) (hnil : a = none → len = 0 ∧ cap = 0)
    (hspot : ∀ x, a = some x → 0 < cap → x.spot = none) (hc : ∀ x, a = some x → ∀ i v, cs[i]? = some v → w.cell? (x.add i) = some v) (hp : ∀ v ∈ cs, pureS v = true) (j : Nat) :
    ∃ r : InRow, ∃ v, r.at w ∧ (∀ β : Bj, β j = some r.pl → VR β v (.slice a len cap)) ∧ ∀ h : AH, h[j]? = some (inObj r) → Sl s h v len cs := by
  cases a with
  | none =>
    obtain ⟨rfl, rfl⟩ := hnil rfl
    exact ⟨⟨false, 0, 0, []⟩, .slice none 0 0, no_at _ _ _, fun β _ => .nils, fun h _ => ⟨hs, .inl ⟨rfl, rfl⟩⟩⟩
  | some x =>
    by_cases hne : cs = []
    · subst hne
      have hl : len = 0 := by
        simp only [List.length_nil] at hs
        rcases Nat.mul_eq_zero.1 hs.symm with h | h
        · exact h
        · omega
      refine ⟨⟨false, x.block, x.off, []⟩, .slice (some ⟨j, 0, none⟩) len cap, no_at _ _ _, fun β hβ => .slx hβ hlc hcap ?_, fun h _ => ⟨hs, .inr ⟨j, 0, cap, rfl, .inl ⟨hcap, hlc⟩, .inl hl⟩⟩⟩
      rcases Nat.eq_zero_or_pos cap with h0 | h0
      · exact .inl h0
      · have := hspot x rfl h0
        cases x
        simp at this
        subst this
        exact .inr rfl
    · obtain ⟨h1, h2⟩ := inRow_of hne (hc x rfl) hp
      refine ⟨_, .slice (some ⟨j, 0, none⟩) len cap, h2, fun β hβ => .slx hβ hlc hcap (.inr (by cases x; simp at h1; subst h1; rfl)), fun h hj => ⟨hs, .inr ⟨j, 0, cap, rfl, .inl ⟨hcap, hlc⟩, .inr ⟨cs, false, hj, by omega, by rw [← hs]; simp⟩⟩⟩⟩

theorem maxLen_open {n : Nat} (h : n ≤ maxLen) : n < openCap := by
  unfold maxLen at h
  unfold openCap
  omega

/-- WHAT THE WALK IS TOLD OF A SLICE OF INTEGERS THAT CAME IN. -/
def IsRow (k : IntKind) (w : World) (a : Option Addr) (len cap : Nat) (zs : List Int) : Prop :=
  (a = none ∧ len = 0 ∧ cap = 0 ∧ zs = []) ∨
  ∃ x, a = some x ∧ len ≤ cap ∧ cap ≤ maxLen ∧ zs.length = cap ∧ (∀ i, i < zs.length → w.cell? (x.add i) = some (.int k (zs.getD i 0))) ∧ ∀ n ∈ zs, (Lit.int k n).wf = true

def eK (k : IntKind) (n : Int) : List Value := [.int k n]
theorem flat_eK (k : IntKind) (l : List Int) : flat (eK k) l = l.map (.int k) := by
  induction l with
  | nil => rfl
  | cons x l ih => simp only [flat, List.flatMap_cons, List.map_cons] at ih ⊢; rw [ih]; rfl

theorem in_ints {w : World} {k : IntKind} {a : Option Addr} {len cap : Nat} {zs : List Int} (h : IsRow k w a len cap zs) (j : Nat) :
    ∃ r : InRow, ∃ v, r.at w ∧ (∀ β : Bj, β j = some r.pl → VR β v (.slice a len cap)) ∧ (∀ h : AH, h[j]? = some (inObj r) → SlT 1 (eK k) h v (zs.take len)) ∧ ∀ n ∈ zs.take len, (Lit.int k n).wf = true := by
  have hlen : len ≤ zs.length ∧ len ≤ cap ∧ cap < openCap := by
    rcases h with ⟨rfl, rfl, rfl, rfl⟩ | ⟨x, rfl, h1, h2, h3, _⟩
    · exact ⟨Nat.le_refl _, Nat.le_refl _, by decide⟩
    · exact ⟨by omega, h1, maxLen_open h2⟩
  have hl : (zs.take len).length = len := by rw [List.length_take]; omega
  obtain ⟨r, v, h1, h2, h3⟩ := in_slice (w := w) (s := 1) (by decide) (a := a) (len := len) (cap := cap) (cs := flat (eK k) (zs.take len)) (by rw [flat_eK, List.length_map, hl]; omega) hlen.2.1 hlen.2.2
    (by rcases h with ⟨rfl, rfl, rfl, rfl⟩ | ⟨x, rfl, _⟩
        · exact fun _ => ⟨rfl, rfl⟩
        · exact fun h => by cases h)
    (by rcases h with ⟨rfl, rfl, rfl, rfl⟩ | ⟨x, rfl, g1, g2, g3, g4, g5⟩
        · exact fun _ h => by cases h
        · intro y hy hc
          cases hy
          have := g4 0 (by omega)
          exact World.cell?_spot (by simpa [Addr.add] using this))
    (by rcases h with ⟨rfl, rfl, rfl, rfl⟩ | ⟨x, rfl, g1, g2, g3, g4, g5⟩
        · exact fun _ h => by cases h
        · intro y hy i v hv
          cases hy
          rw [flat_eK, List.getElem?_map] at hv
          cases e : (zs.take len)[i]? with
          | none => rw [e] at hv; cases hv
          | some n =>
            rw [e] at hv
            cases hv
            rw [List.getElem?_take] at e
            split at e
            · have hi := (List.getElem?_eq_some_iff.1 e).1
              have := g4 i hi
              rw [List.getD_eq_getElem?_getD, e] at this
              exact this
            · cases e)
    (by
      intro v hv
      rw [flat_eK] at hv
      obtain ⟨n, _, rfl⟩ := List.mem_map.1 hv
      rfl) j
  refine ⟨r, v, h1, h2, fun h hj => ?_, fun n hn => ?_⟩
  · have := h3 h hj
    unfold SlT
    rw [hl]
    exact this
  · rcases h with ⟨rfl, rfl, rfl, rfl⟩ | ⟨x, rfl, g1, g2, g3, g4, g5⟩
    · simp at hn
    · exact g5 n (List.mem_of_mem_take hn)

end Go.AM
namespace Go.AM
open Go
theorem i64_wf {n : Int} (h : (Lit.int .i64 n).wf = true) : -9223372036854775808 ≤ n ∧ n ≤ 9223372036854775807 := by
  simp [Lit.wf, IntKind.min, IntKind.max, IntKind.bits, IntKind.signed] at h
  omega
theorem u8_wf {n : Int} (h : (Lit.int .u8 n).wf = true) : 0 ≤ n ∧ n ≤ 255 := by
  simp [Lit.wf, IntKind.min, IntKind.max, IntKind.bits, IntKind.signed] at h
  omega
end Go.AM
