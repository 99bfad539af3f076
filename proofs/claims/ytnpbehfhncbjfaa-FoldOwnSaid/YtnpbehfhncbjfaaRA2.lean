/- Parts of a proof, joined by a program. Conditions: none. -/
import Derived.Test.YtnpbehfhncbjfaaRA1
import Derived.KernelRfl
import Derived.Below

section
/- The abstract machine, run: regions, code, calls; and that a run that says yes is right. Conditions: none. -/
namespace Go.AM
open Go
variable {P : Program}
theorem optB_ok {α : Type} {o : Option α} {k : α → Bool} {K : α → Prop} (hb : optB o k = true) (hk : ∀ v, k v = true → K v) : optW o K := by
  obtain ⟨v, rfl, h⟩ := optB_elim hb
  exact hk v h
def convB (P : Program) (s d : TypeId) (x : Value) (slot : Option Nat) (h : HS) (k : KB) : Bool :=
  match P.underlying s, P.underlying d with
  | some .string, some (.slice e) => match P.underlying e, x with
    | some (.int .u8), .string b => cond (Nat.blt b.size room40) (newB slot (.row (bytesL b) false) h fun id h' => k (.slice (some ⟨id, 0, none⟩) b.size (openCap + 1)) h') false
    | _, _ => false
  | some (.slice e), some .string => match P.underlying e with
    | some (.int .u8) => optB (pBytesStrG x h.lookF) fun v => k v h
    | _ => false
  | some (.slice _), some (.slice e) => match P.underlying e, x, s == d with
    | some (.int .u8), .slice (some ⟨id, off, none⟩) (len + 1) cap, true => match h.lookF id with
      | some (.row _ true) => false
      | _ => false
    | _, _, _ => false
  | _, _ => optB (pConv P s d x) fun v => k v h
theorem convB_ok {s d : TypeId} {x : Value} {slot : Option Nat} {t : HS} {h : AH} {k : KB} {K : Value → AH → Prop} (R : RepH t h) (hk : KOK k K) (hb : convB P s d x slot t k = true) : convW P s d x slot h K := by
  unfold convB at hb
  unfold convW
  split at hb
  · rename_i h1 h2
    simp only [h1, h2]
    split at hb
    · rename_i h3
      simp only [h3]
      rename_i b
      cases hc : Nat.blt b.size room40 with
      | false => rw [hc] at hb; cases hb
      | true =>
        rw [hc] at hb
        exact ⟨blt_lt hc, newB_ok R hb fun i s h R' hh => hk _ _ _ R' hh⟩
    · cases hb
  · rename_i h1 h2
    simp only [h1, h2]
    split at hb
    · rename_i h3
      simp only [h3]
      rw [R.lf, pBytesStrG_eq] at hb
      exact optB_ok hb fun v hv => hk _ _ _ R hv
    · cases hb
  · rename_i h1 h2
    simp only [h1, h2]
    split at hb
    · rename_i h3 h4
      simp only [h3, h4]
      split at hb
      · rename_i h5
        rw [R.lf] at h5
        simp only [show h[_]? = _ from h5]
        cases hb
      · cases hb
    · cases hb
  · rename_i h1 h2 h3
    split
    · rename_i q1 q2; exact (h1 _ q1 q2).elim
    · rename_i q1 q2; exact (h2 _ q1 q2).elim
    · rename_i q1 q2; exact (h3 _ _ q1 q2).elim
    · exact optB_ok hb fun v hv => hk _ _ _ R hv
def XOK (X : CallB) (XX : CallT) : Prop := ∀ f args s k h K, RepH s h → KOK k K → X f args s k = true → XX f args h K
def callOpB (P : Program) (X : CallB) (c : Call) (e : TE) (h : HS) (k : KB) : Bool :=
  match c.callee with
  | .builtin b => match b, c.args.toList, c.argTypes.toList with
    | .len, [x], t :: _ => optB (lenG P t (tev e x) h.lookF) fun v => k v h
    | .append, [x, y], [t, u] => appendB P #[t, u] (tev e x) (tev e y) h k
    | .max, [x, y], _ => optB (pMax2 true (tev e x) (tev e y)) fun v => k v h
    | .min, [x, y], _ => optB (pMax2 false (tev e x) (tev e y)) fun v => k v h
    | .cap, [x], t :: _ => optB (pCap P t (tev e x)) fun v => k v h
    | _, _, _ => false
  | .value f => match tev e f with
    | .func (.func g) a b => X g (a.toList ++ c.args.toList.map (tev e) ++ b.toList) h k
    | _ => false
  | .invoke .. => false
theorem callOpB_ok {X : CallB} {XX : CallT} (hX : XOK X XX) {c : Call} {te : TE} {e : Env} (E : RepE te e) {t : HS} {h : AH} {k : KB} {K : Value → AH → Prop} (R : RepH t h) (hk : KOK k K) (hb : callOpB P X c te t k = true) : callOpW P XX c e h K := by
  unfold callOpB at hb
  unfold callOpW
  rw [E.fn] at hb
  split at hb
  · rename_i h1
    simp only [h1]
    split at hb
    · rename_i h2 h3
      simp only [h2, h3]
      rw [R.lf, lenG_eq] at hb
      exact optB_ok hb fun v hv => hk _ _ _ R hv
    · rename_i h2 h3
      simp only [h2, h3]
      exact appendB_ok R hk hb
    · rename_i h2
      simp only [h2]
      exact optB_ok hb fun v hv => hk _ _ _ R hv
    · rename_i h2
      simp only [h2]
      exact optB_ok hb fun v hv => hk _ _ _ R hv
    · rename_i h2 h3
      simp only [h2, h3]
      exact optB_ok hb fun v hv => hk _ _ _ R hv
    · cases hb
  · rename_i h1
    simp only [h1]
    split at hb
    · rename_i h2
      simp only [h2]
      exact hX _ _ _ _ _ _ R hk hb
    · cases hb
  · cases hb
def opB (P : Program) (X : CallB) (slot : Option Nat) (o : Oper) (e : TE) (h : HS) (k : KB) : Bool :=
  match o.op with
  | .move x | .assign x => k (tev e x) h
  | .pick c a b => optB (pPick (tev e c) (tev e a) (tev e b)) fun v => k v h
  | .alloc t => optB (zeroL P t) fun c => newB slot (.row c true) h fun id h' => k (.pointer (some ⟨id, 0, none⟩)) h'
  | .box _ x => cond ((cellsL (tev e x)).all (·.oneCell')) (newB slot (.row (cellsL (tev e x)) true) h fun id h' => k (.pointer (some ⟨id, 0, none⟩)) h') false
  | .build t ps => optB (pBuild P t (ps.toList.map fun p => (p.1, tev e p.2))) fun v => k v h
  | .buildSlice t n ps => optB (pBuildSlice P t n (ps.toList.map fun p => (p.1, tev e p.2))) fun c => newB slot (.row c true) h fun id h' => k (.slice (some ⟨id, 0, none⟩) n n) h'
  | .load t x => optB (pLoadG P t (tev e x) h.lookF) fun v => k v h
  | .store t x v => setB (stOfG P t (tev e x) (tev e v) h.lookF) h fun h' => k undef h'
  | .nilCheck x => optB (pNilCheck (tev e x)) fun v => k v h
  | .binOp op t x y _ => optB (pBinQ P op t (tev e x) (tev e y)) fun v => k v h
  | .unOp op _ x => optB (pUn op (tev e x)) fun v => k v h
  | .convert s d x => convB P s d (tev e x) slot h k
  | .makeFunc fn a b => k (.func fn (a.map (tev e)) (b.map (tev e))) h
  | .makeMap _ none => newB slot (.map [] 0) h fun id h' => k (.map (some id)) h'
  | .makeSlice t l c => optB (pMakeSlice P t (tev e l) (tev e c)) fun r => newB slot (.row r.2.2 true) h fun id h' => k (.slice (some ⟨id, 0, none⟩) r.1 r.2.1) h'
  | .slice t x lo hi mx => optB (pSliceQ P t (tev e x) (lo.map (tev e)) (hi.map (tev e)) (mx.map (tev e))) fun v => k v h
  | .fieldAddr s x f => optB (pFieldAddr P s f (tev e x)) fun v => k v h
  | .field t x f => optB (pField P t (tev e x) f) fun v => k v h
  | .indexAddr t x i => optB (pIndexAddr P t (tev e x) (tev e i)) fun v => k v h
  | .index t x i => optB (pIndexQ P t (tev e x) (tev e i)) fun v => k v h
  | .lookup t x i ok => optB (pLookG P t (tev e x) (tev e i) ok h.lookF) fun v => k v h
  | .mapUpdate t m kk v => setB (pMapUG P t (tev e m) (tev e kk) (tev e v) h.lookF) h fun h' => k undef h'
  | .range t x => rangeB P t (tev e x) slot h k
  | .next it s => nextB (tev e it) s h k
  | .entry it => optB (pEntryG (tev e it) h.lookF) fun v => k v h
  | .extract t i => optB (pExtract (tev e t) i) fun v => k v h
  | .call c => callOpB P X c e h k
  | _ => false
theorem setB_ok {u : Option (Nat × AObj)} {s : HS} {h : AH} {k : HS → Bool} (R : RepH s h) (hb : setB u s k = true) (hin : ∀ v, u = some v → ∃ o, h[v.1]? = some o) : ∃ v, u = some v ∧ RepH (s.put v.1 v.2) (setH h v) ∧ k (s.put v.1 v.2) = true := by
  unfold setB at hb
  split at hb
  · rename_i i o
    obtain ⟨o', ho⟩ := hin _ rfl
    exact ⟨_, rfl, R.put (List.getElem?_eq_some_iff.1 ho).1 _, hb⟩
  · cases hb
theorem cond_true {b c : Bool} (h : cond b c false = true) : b = true ∧ c = true := by
  cases b with
  | false => cases h
  | true => exact ⟨rfl, h⟩
theorem opB_ok {X : CallB} {XX : CallT} (hX : XOK X XX) {slot : Option Nat} {o : Oper} {te : TE} {e : Env} (E : RepE te e) {t : HS} {h : AH} {k : KB} {K : Value → AH → Prop} (R : RepH t h) (hk : KOK k K) (hb : opB P X slot o te t k = true) : opW P XX slot o e h K := by
  unfold opB at hb
  unfold opW
  have here : ∀ {v}, k v t = true → K v h := fun hv => hk _ _ _ R hv
  rw [E.fn] at hb
  split at hb <;> rename_i ho <;> simp only [ho]
  · exact here hb
  · exact here hb
  · exact optB_ok hb fun v hv => here hv
  · exact optB_ok hb fun v hv => newB_ok R hv fun i s h R' hh => hk _ _ _ R' hh
  · obtain ⟨h1, h2⟩ := cond_true hb
    exact ⟨h1, newB_ok R h2 fun i s h R' hh => hk _ _ _ R' hh⟩
  · exact optB_ok hb fun v hv => here hv
  · exact optB_ok hb fun v hv => newB_ok R hv fun i s h R' hh => hk _ _ _ R' hh
  · rw [R.lf, pLoadG_eq] at hb
    exact optB_ok hb fun v hv => here hv
  · rw [R.lf] at hb
    obtain ⟨v, hv, R', h2⟩ := setB_ok R hb fun v hv => stOfG_in hv
    rw [stOfG_eq hv]
    exact hk _ _ _ R' h2
  · exact optB_ok hb fun v hv => here hv
  · rw [pBinQ_eq] at hb
    exact optB_ok hb fun v hv => here hv
  · exact optB_ok hb fun v hv => here hv
  · exact convB_ok R hk hb
  · exact here hb
  · exact newB_ok R hb fun i s h R' hh => hk _ _ _ R' hh
  · exact optB_ok hb fun v hv => newB_ok R hv fun i s h R' hh => hk _ _ _ R' hh
  · rw [pSliceQ_eq] at hb
    exact optB_ok hb fun v hv => here hv
  · exact optB_ok hb fun v hv => here hv
  · exact optB_ok hb fun v hv => here hv
  · exact optB_ok hb fun v hv => here hv
  · rw [pIndexQ_eq] at hb
    exact optB_ok hb fun v hv => here hv
  · rw [R.lf, pLookG_eq] at hb
    exact optB_ok hb fun v hv => here hv
  · rw [R.lf] at hb
    obtain ⟨v, hv, R', h2⟩ := setB_ok R hb fun v hv => pMapUG_in hv
    rw [pMapUG_eq hv]
    exact hk _ _ _ R' h2
  · exact rangeB_ok R hk hb
  · exact nextB_ok R hk hb
  · rw [R.lf, pEntryG_eq] at hb
    exact optB_ok hb fun v hv => here hv
  · exact optB_ok hb fun v hv => here hv
  · exact callOpB_ok hX E R hk hb
  · cases hb
end Go.AM
end

section
/- The abstract machine, run: regions, code, calls; and that a run that says yes is right. Conditions: none. -/
namespace Go.AM
open Go
variable {P : Program}
def adEq : Option Addr → Option Addr → Bool
  | none, none => true
  | some ⟨a, x, none⟩, some ⟨b, y, none⟩ => Nat.beq a b && Nat.beq x y
  | _, _ => false
def nOEq : Option Nat → Option Nat → Bool
  | none, none => true
  | some a, some b => Nat.beq a b
  | _, _ => false
def veqS : Value → Value → Bool
  | .bool a, .bool b => a == b
  | .int k a, .int k' b => decide (k = k') && decide (a = b)
  | .string a, .string b => u8s a.data.toList b.data.toList
  | .pointer a, .pointer b => adEq a b
  | .slice a l c, .slice b l' c' => adEq a b && Nat.beq l l' && Nat.beq c c'
  | .map a, .map b => nOEq a b
  | .nilFunc, .nilFunc => true
  | .nilIface, .nilIface => true
  | _, _ => false
def listEq {α : Type} (f : α → α → Bool) : List α → List α → Bool
  | [], [] => true
  | a :: l, b :: m => f a b && listEq f l m
  | _, _ => false
theorem listEq_sound {α : Type} {f : α → α → Bool} (hf : ∀ a b, f a b = true → a = b) : ∀ {l m : List α}, listEq f l m = true → l = m
  | [], [], _ => rfl
  | [], _ :: _, h => by cases h
  | _ :: _, [], h => by cases h
  | a :: l, b :: m, h => by
    simp only [listEq, Bool.and_eq_true] at h
    rw [hf _ _ h.1, listEq_sound hf h.2]
theorem adEq_sound {a b : Option Addr} (h : adEq a b = true) : a = b := by
  unfold adEq at h
  split at h
  · rfl
  · simp only [Bool.and_eq_true] at h
    rw [Nat.eq_of_beq_eq_true h.1, Nat.eq_of_beq_eq_true h.2]
  · cases h
theorem nOEq_sound {a b : Option Nat} (h : nOEq a b = true) : a = b := by
  unfold nOEq at h
  split at h
  · rfl
  · rw [Nat.eq_of_beq_eq_true h]
  · cases h
theorem bytes_ext {x y : ByteArray} (h : x.data.toList = y.data.toList) : x = y := ByteArray.ext (Array.toList_inj.1 h)
theorem veqS_sound (x y : Value) (h : veqS x y = true) : x = y := by
  unfold veqS at h
  split at h
  · rw [eq_of_beq h]
  · simp only [Bool.and_eq_true, decide_eq_true_eq] at h
    rw [h.1, h.2]
  · rw [u8s_eq] at h
    rw [bytes_ext (eq_of_beq h)]
  · rw [adEq_sound h]
  · simp only [Bool.and_eq_true] at h
    rw [adEq_sound h.1.1, Nat.eq_of_beq_eq_true h.1.2, Nat.eq_of_beq_eq_true h.2]
  · rw [nOEq_sound h]
  · rfl
  · rfl
  · cases h
def veq : Value → Value → Bool
  | .agg a, .agg b => listEq veqS a.toList b.toList
  | .tuple a, .tuple b => listEq veqS a.toList b.toList
  | x, y => veqS x y
theorem veq_sound (x y : Value) (h : veq x y = true) : x = y := by
  unfold veq at h
  split at h
  · rw [Array.toList_inj.1 (listEq_sound veqS_sound h)]
  · rw [Array.toList_inj.1 (listEq_sound veqS_sound h)]
  · exact veqS_sound _ _ h
def entEq (a b : Ent) : Bool := veq a.1 b.1 && veq a.2.1 b.2.1 && Nat.beq a.2.2 b.2.2
theorem entEq_sound (a b : Ent) (h : entEq a b = true) : a = b := by
  simp only [entEq, Bool.and_eq_true] at h
  exact Prod.ext (veq_sound _ _ h.1.1) (Prod.ext (veq_sound _ _ h.1.2) (Nat.eq_of_beq_eq_true h.2))
def oEq : Option AObj → Option AObj → Bool
  | none, none => true
  | some .dead, some .dead => true
  | some (.row c w), some (.row c' w') => (w == w') && listEq veq c c'
  | some (.map es k), some (.map es' k') => listEq entEq es es' && Nat.beq k k'
  | _, _ => false
theorem oEq_sound {x y : Option AObj} (h : oEq x y = true) : x = y := by
  unfold oEq at h
  split at h
  · rfl
  · rfl
  · simp only [Bool.and_eq_true] at h
    rw [eq_of_beq h.1, listEq_sound veq_sound h.2]
  · simp only [Bool.and_eq_true] at h
    rw [listEq_sound entEq_sound h.1, Nat.eq_of_beq_eq_true h.2]
  · cases h
def gvalB (ops : Array Oper) (o : Oper) (e : TE) : Bool :=
  match o.guard with
  | none => true
  | some (j, want) => match (ops[j]?).bind (·.dst) with
    | some t => gB (tev e (.tmp t)) want
    | none => false
theorem gvalB_eq {ops : Array Oper} {o : Oper} {te : TE} {e : Env} (E : RepE te e) : gvalB ops o te = gval ops o e := by
  unfold gvalB gval
  simp only [E.ev]
  rfl
def ordB (P : Program) (X : CallB) (ops : Array Oper) : List Oper → TE → HS → (TE → HS → Bool) → Bool
  | [], e, h, q => q e h
  | o :: r, e, h, q => cond (gvalB ops o e) (opB P X none o e h fun v h' => ordB P X ops r (tput e o.dst v) h' q) (ordB P X ops r (tput e o.dst undef) h q)
def QOK (q : TE → HS → Bool) (Q : Env → AH → Prop) : Prop := ∀ te e s h, RepE te e → RepH s h → q te s = true → Q e h
theorem ordB_ok {X : CallB} {XX : CallT} (hX : XOK X XX) {ops : Array Oper} (hd : ∀ o ∈ ops.toList, ∀ d, o.dst = some d → d < 1000000) {q : TE → HS → Bool} {Q : Env → AH → Prop} (hq : QOK q Q) : ∀ (l : List Oper) (i : Nat) {te : TE} {e : Env} {s : HS} {h : AH},
    RepE te e → RepH s h → ops.toList.drop i = l → ordB P X ops l te s q = true → ordW P XX ops (fun _ => none) (List.range' i l.length) e h Q
  | [], _, _, _, _, _, E, R, _, hb => hq _ _ _ _ E R hb
  | o :: r, i, te, e, s, h, E, R, hdr, hb => by
    have ho : ops[i]? = some o := by
      rw [← Array.getElem?_toList]
      have : (ops.toList.drop i)[0]? = some o := by rw [hdr]; rfl
      simpa using this
    have hr : ops.toList.drop (i + 1) = r := by
      have : (ops.toList.drop i).drop 1 = r := by rw [hdr]; rfl
      simpa [List.drop_drop, Nat.add_comm] using this
    have hdo : ∀ d, o.dst = some d → d < 1000000 := hd o (by
      rw [← List.take_append_drop i ops.toList, hdr]; simp)
    show ordW P XX ops _ (i :: List.range' (i + 1) r.length) e h Q
    simp only [ordW, ho]
    rw [ordB, gvalB_eq E] at hb
    cases hg : gval ops o e with
    | true =>
      rw [hg, _root_.cond_true] at hb
      simp only [gopW]
      refine opB_ok hX E R ?_ hb
      intro v s' h' R' hh
      exact ordB_ok hX hd hq r (i + 1) (E.put _ _ hdo) R' hr hh
    | false =>
      rw [hg] at hb
      exact ordB_ok hX hd hq r (i + 1) (E.put _ _ hdo) R hr hb
abbrev HB := List (Nat × HS × HS)
def RepHB : HB → HT → Prop
  | [], [] => True
  | a :: l, b :: m => a.1 = b.1 ∧ RepH a.2.1 b.2.1 ∧ RepH a.2.2 b.2.2 ∧ RepHB l m
  | _, _ => False
theorem RepHB.cons {i : Nat} {s s' : HS} {h h' : AH} {l : HB} {m : HT} (h1 : RepH s h) (h2 : RepH s' h') (h3 : RepHB l m) : RepHB ((i, s, s') :: l) ((i, h, h') :: m) := by
  unfold RepHB
  exact ⟨rfl, h1, h2, h3⟩
theorem RepHB.nil : RepHB [] [] := by
  unfold RepHB
  trivial
def histB (b : Array Nat) (j : Nat) (xs : List Nat) : HB → Bool
  | [] => true
  | (k, hb, ha) :: r => cond (free b k j && Nat.blt k j) (xs.all fun x => oEq (hb.lookF x) (ha.lookF x)) true && histB b j xs r
theorem histB_ok {b : Array Nat} {j : Nat} {xs : List Nat} {K : Prop} (hK : K) : ∀ {HB : HB} {H : HT}, RepHB HB H → histB b j xs HB = true → histC b j xs H K
  | [], [], _, _ => hK
  | [], _ :: _, h, _ => h.elim
  | _ :: _, [], h, _ => h.elim
  | (k, x, y) :: l, (k', x', y') :: m, ⟨h1, h2, h3, h4⟩, hb => by
    dsimp only at h1 h2 h3
    subst h1
    simp only [histB, Bool.and_eq_true] at hb
    simp only [histC]
    cases hc : (free b k j && Nat.blt k j) with
    | true =>
      rw [hc] at hb
      refine ⟨fun z hz => ?_, histB_ok hK h4 hb.2⟩
      have := oEq_sound (List.all_eq_true.1 hb.1 z hz)
      rw [h2.lf, h3.lf] at this
      exact this
    | false => exact histB_ok hK h4 hb.2
def readB (b : Array Nat) (j : Nat) (hb ha : HS) : ST → Bool
  | [] => true
  | (k, xs) :: r => cond (free b k j && Nat.blt k j) (xs.all fun x => oEq (hb.lookF x) (ha.lookF x)) true && readB b j hb ha r
theorem readB_ok {b : Array Nat} {j : Nat} {x y : HS} {x' y' : AH} {K : Prop} (hK : K) (h2 : RepH x x') (h3 : RepH y y') : ∀ {S : ST}, readB b j x y S = true → readC b j x' y' S K
  | [], _ => hK
  | (k, xs) :: r, hb => by
    simp only [readB, Bool.and_eq_true] at hb
    simp only [readC]
    cases hc : (free b k j && Nat.blt k j) with
    | true =>
      rw [hc] at hb
      refine ⟨fun z hz => ?_, readB_ok hK h2 h3 hb.2⟩
      have := oEq_sound (List.all_eq_true.1 hb.1 z hz)
      rw [h2.lf, h3.lf] at this
      exact this
    | false => exact readB_ok hK h2 h3 hb.2
def touchB (o : Oper) (e : TE) : List Nat :=
  match o.op with
  | .load _ x => idOf (tev e x)
  | .lookup _ x _ _ => idOf (tev e x)
  | .convert _ _ x => idOf (tev e x)
  | .store _ x _ => idOf (tev e x)
  | .mapUpdate _ m _ _ => idOf (tev e m)
  | .call c => match c.args.toList with
    | [x] => idOf (tev e x)
    | [x, y] => idOf (tev e x) ++ idOf (tev e y)
    | _ => []
  | _ => []
theorem touchB_eq {o : Oper} {te : TE} {e : Env} (E : RepE te e) : touchB o te = touch o e := by
  unfold touchB touch
  rw [E.fn]
  rfl
abbrev KD := Value → HS → HB → ST → Bool
def KDOK (k : KD) (K : Value → AH → HT → ST → Prop) : Prop := ∀ v s h HB H S, RepH s h → RepHB HB H → k v s HB S = true → K v h H S
def opDB (P : Program) (X : CallB) (b : Array Nat) (sl : List (Option Nat)) (i : Nat) (o : Oper) (H : HB) (S : ST) (e : TE) (h : HS) (k : KD) : Bool :=
  match clOf P o with
  | .pure => opB P X none o e h fun v h' => k v h' H S
  | .rd => histB b i (touchB o e) H && opB P X none o e h fun v h' => k v h' H ((i, touchB o e) :: S)
  | .al => opB P X (slotAt sl i) o e h fun v h' => k v h' ((i, h, h') :: H) S
  | .eff => histB b i (touchB o e) H && opB P X none o e h fun v h' => readB b i h h' S && k v h' ((i, h, h') :: H) S
  | .call => opB P X none o e h fun v h' => readB b i h h' S && k v h' ((i, h, h') :: H) S
  | .bad => false
theorem opDB_ok {X : CallB} {XX : CallT} (hX : XOK X XX) {b : Array Nat} {sl : List (Option Nat)} {i : Nat} {o : Oper} {HB : HB} {H : HT} {S : ST} {te : TE} {e : Env} {s : HS} {h : AH} {k : KD} {K : Value → AH → HT → ST → Prop}
    (E : RepE te e) (R : RepH s h) (RH : RepHB HB H) (hk : KDOK k K) (hb : opDB P X b sl i o HB S te s k = true) : opD P XX b sl i o H S e h K := by
  unfold opDB at hb
  unfold opD
  split at hb <;> rename_i hc <;> simp only [hc]
  · exact opB_ok hX E R (fun v s h R' hh => hk _ _ _ _ _ _ R' RH hh) hb
  · rw [Bool.and_eq_true, touchB_eq E] at hb
    refine histB_ok (opB_ok hX E R ?_ hb.2) RH hb.1
    intro v s h R' hh
    exact hk _ _ _ _ _ _ R' RH hh
  · refine opB_ok hX E R ?_ hb
    intro v s h R' hh
    exact hk _ _ _ _ _ _ R' (.cons R R' RH) hh
  · rw [Bool.and_eq_true, touchB_eq E] at hb
    refine histB_ok (opB_ok hX E R (fun v s h R' hh => ?_) hb.2) RH hb.1
    rw [Bool.and_eq_true] at hh
    exact readB_ok (hk _ _ _ _ _ _ R' (.cons R R' RH) hh.2) R R' hh.1
  · refine opB_ok hX E R (fun v s h R' hh => ?_) hb
    rw [Bool.and_eq_true] at hh
    exact readB_ok (hk _ _ _ _ _ _ R' (.cons R R' RH) hh.2) R R' hh.1
  · cases hb
def textB (P : Program) (X : CallB) (ops : Array Oper) (b : Array Nat) (sl : List (Option Nat)) : List Oper → Nat → HB → ST → TE → HS → (TE → HS → Bool) → Bool
  | [], _, _, _, e, h, q => q e h
  | o :: r, i, H, S, e, h, q => cond (gvalB ops o e) (opDB P X b sl i o H S e h fun v h' H' S' => textB P X ops b sl r (Nat.succ i) H' S' (tput e o.dst v) h' q) (textB P X ops b sl r (Nat.succ i) H S (tput e o.dst undef) h q)
theorem textB_ok {X : CallB} {XX : CallT} (hX : XOK X XX) {ops : Array Oper} (hd : ∀ o ∈ ops.toList, ∀ d, o.dst = some d → d < 1000000) {b : Array Nat} {sl : List (Option Nat)} {q : TE → HS → Bool} {Q : Env → AH → Prop} (hq : QOK q Q) :
    ∀ (l : List Oper) (i : Nat) {HB : HB} {H : HT} {S : ST} {te : TE} {e : Env} {s : HS} {h : AH},
    RepE te e → RepH s h → RepHB HB H → ops.toList.drop i = l → textB P X ops b sl l i HB S te s q = true → textD P XX ops b sl (List.range' i l.length) H S e h Q
  | [], _, _, _, _, _, _, _, _, E, R, _, _, hb => hq _ _ _ _ E R hb
  | o :: r, i, HB, H, S, te, e, s, h, E, R, RH, hdr, hb => by
    have ho : ops[i]? = some o := by
      rw [← Array.getElem?_toList]
      have : (ops.toList.drop i)[0]? = some o := by rw [hdr]; rfl
      simpa using this
    have hr : ops.toList.drop (i + 1) = r := by
      have : (ops.toList.drop i).drop 1 = r := by rw [hdr]; rfl
      simpa [List.drop_drop, Nat.add_comm] using this
    have hdo : ∀ d, o.dst = some d → d < 1000000 := hd o (by
      rw [← List.take_append_drop i ops.toList, hdr]; simp)
    show textD P XX ops b sl (i :: List.range' (i + 1) r.length) H S e h Q
    simp only [textD, ho]
    rw [textB, gvalB_eq E] at hb
    cases hg : gval ops o e with
    | true =>
      rw [hg, _root_.cond_true] at hb
      simp only [gopD]
      refine opDB_ok hX E R RH ?_ hb
      intro v s' h' HB' H' S' R' RH' hh
      exact textB_ok hX hd hq r (i + 1) (E.put _ _ hdo) R' RH' hr hh
    | false =>
      rw [hg] at hb
      exact textB_ok hX hd hq r (i + 1) (E.put _ _ hdo) R RH hr hb
def reserveB : Nat → HS → (HS → Bool) → Bool
  | 0, h, k => k h
  | n + 1, h, k => h.push .dead fun _ h' => reserveB n h' k
theorem reserveB_ok {k : HS → Bool} {K : AH → Prop} (hk : ∀ s h, RepH s h → k s = true → K h) : ∀ (n : Nat) {s : HS} {h : AH}, RepH s h → reserveB n s k = true → K (reserve n h)
  | 0, _, _, R, hb => hk _ _ R hb
  | n + 1, s, h, R, hb => by
    simp only [reserveB, HS.push] at hb
    obtain ⟨h1, h2⟩ := cond_true hb
    exact reserveB_ok hk n (R.push .dead (blt_lt h1)) h2
def regB (P : Program) (X : CallB) (ops : Array Oper) (draw : Bool) (e : TE) (h : HS) (q : TE → HS → Bool) : Bool :=
  match draw with
  | false => ordB P X ops ops.toList e h q
  | true => cond (drawOK P ops) (reserveB (countAl P ops.toList) h fun h' => textB P X ops (Region.before ops) (slots P ops.toList h.n) ops.toList 0 [] [] e h' q) false
theorem regB_ok {X : CallB} {XX : CallT} (hX : XOK X XX) {ops : Array Oper} (hd : ∀ o ∈ ops.toList, ∀ d, o.dst = some d → d < 1000000) {draw : Bool} {q : TE → HS → Bool} {Q : Env → AH → Prop} (hq : QOK q Q) {te : TE} {e : Env} {s : HS} {h : AH}
    (E : RepE te e) (R : RepH s h) (hb : regB P X ops draw te s q = true) : regW P XX ops draw e h Q := by
  cases draw with
  | false =>
    have := ordB_ok hX hd hq ops.toList 0 E R rfl hb
    simp only [regW]
    rw [List.range_eq_range']
    exact this
  | true =>
    simp only [regB] at hb
    obtain ⟨h1, h2⟩ := cond_true hb
    simp only [regW, h1]
    rw [← R.n, List.range_eq_range']
    exact reserveB_ok (K := fun h' => textD P XX ops (Region.before ops) (slots P ops.toList s.n) (List.range' 0 ops.size) [] [] e h' Q) (fun s' h' R' hh => textB_ok hX hd hq ops.toList 0 E R' .nil rfl hh) _ R h2
end Go.AM
end

section
/- The abstract machine, run: code and calls; a run that says yes is right. Conditions: none. -/
namespace Go.AM
open Go
variable {P : Program}
abbrev KE := Exit → TE → HS → Bool
def EOK (k : KE) (Q : Exit → Env → AH → Prop) : Prop := ∀ x te e s h, RepE te e → RepH s h → k x te s = true → Q x e h
def iterB : Nat → (KE → TE → HS → Bool) → KE → TE → HS → Bool
  | 0, _, _, _, _ => false
  | n + 1, B, k, e, s => B (fun x e s => match x with
      | .normal => iterB n B k e s
      | x => k x e s) e s
def codeB (P : Program) (X : CallB) (fuel : Nat) : Code → KE → TE → HS → Bool
  | .skip, k, e, h => k .normal e h
  | .region _ ops draw, k, e, h => regB P X ops draw e h (k .normal)
  | .seq a b, k, e, h => codeB P X fuel a (fun x e h => match x with
      | .normal => codeB P X fuel b k e h
      | x => k x e h) e h
  | .cond c a b, k, e, h => match tev e c with
      | .bool true => codeB P X fuel a k e h
      | .bool false => codeB P X fuel b k e h
      | _ => false
  | .block id c, k, e, h => codeB P X fuel c (fun x e h => match x with
      | .exit id' => cond (Nat.beq id' id) (k .normal e h) (k (.exit id') e h)
      | x => k x e h) e h
  | .loop c, k, e, h => iterB fuel (codeB P X fuel c) k e h
  | .exit id, k, e, h => k (.exit id) e h
  | .ret, k, e, h => k .ret e h
  | _, _, _, _ => false
theorem ops_dst {nt : Nat} (hnt : nt < 1000000) {ops : Array Oper} (h : ops.toList.all (operOK nt) = true) : ∀ o ∈ ops.toList, ∀ d, o.dst = some d → d < 1000000 := by
  intro o ho d hd
  exact Nat.lt_trans ((operOK_dst (List.all_eq_true.1 h o ho)).2 d hd) hnt
theorem codeB_ok {X : CallB} {XX : CallT} (hX : XOK X XX) {fuel nt : Nat} (hnt : nt < 1000000) : ∀ (c : Code), codeOK nt c = true → ∀ {k : KE} {Q : Exit → Env → AH → Prop} {te : TE} {e : Env} {s : HS} {h : AH}, EOK k Q → RepE te e → RepH s h → codeB P X fuel c k te s = true → cwp P XX c Q e h
  | .skip, _, k, Q, te, e, s, h, hk, E, R, hb => hk _ _ _ _ _ E R hb
  | .region _ ops draw, hok, k, Q, te, e, s, h, hk, E, R, hb => regB_ok hX (ops_dst hnt hok) (fun te e s h E R hh => hk _ _ _ _ _ E R hh) E R hb
  | .seq a b, hok, k, Q, te, e, s, h, hk, E, R, hb => by
    simp only [codeOK, Bool.and_eq_true] at hok
    refine codeB_ok hX hnt a hok.1 (Q := thenW (cwp P XX b Q) Q) ?_ E R hb
    intro x te e s h E R hh
    cases x with
    | normal => exact codeB_ok hX hnt b hok.2 hk E R hh
    | _ => exact hk _ _ _ _ _ E R hh
  | .cond c a b, hok, k, Q, te, e, s, h, hk, E, R, hb => by
    simp only [codeOK, Bool.and_eq_true] at hok
    simp only [codeB, E.ev] at hb
    simp only [cwp]
    split at hb
    · rename_i hv
      rw [hv]
      exact codeB_ok hX hnt a hok.1.2 hk E R hb
    · rename_i hv
      rw [hv]
      exact codeB_ok hX hnt b hok.2 hk E R hb
    · cases hb
  | .block id c, hok, k, Q, te, e, s, h, hk, E, R, hb => by
    refine codeB_ok hX hnt c hok (Q := blockW id Q) ?_ E R hb
    intro x te e s h E R hh
    cases x with
    | exit id' =>
      simp only [blockW]
      dsimp only at hh
      cases hi : Nat.beq id' id with
      | true => rw [hi] at hh; exact hk _ _ _ _ _ E R hh
      | false => rw [hi] at hh; exact hk _ _ _ _ _ E R hh
    | _ => exact hk _ _ _ _ _ E R hh
  | .loop c, hok, k, Q, te, e, s, h, hk, E, R, hb => by
    intro I hI
    have key : ∀ (n : Nat) {te : TE} {e : Env} {s : HS} {h : AH}, RepE te e → RepH s h → iterB n (codeB P X fuel c) k te s = true → I e h := by
      intro n
      induction n with
      | zero => intro te e s h _ _ hb; cases hb
      | succ n ih =>
        intro te e s h E R hb
        refine hI e h (codeB_ok hX hnt c hok (Q := thenW I Q) ?_ E R hb)
        intro x te e s h E R hh
        cases x with
        | normal => exact ih E R hh
        | _ => exact hk _ _ _ _ _ E R hh
    exact key fuel E R hb
  | .exit id, _, k, Q, te, e, s, h, hk, E, R, hb => hk _ _ _ _ _ E R hb
  | .ret, _, k, Q, te, e, s, h, hk, E, R, hb => hk _ _ _ _ _ E R hb
  | .rangeFunc .., _, _, _, _, _, _, _, _, _, _, hb => by cases hb
  | .scope _, _, _, _, _, _, _, _, _, _, _, hb => by cases hb
  | .label _, _, _, _, _, _, _, _, _, _, _, hb => by cases hb
  | .goto _, _, _, _, _, _, _, _, _, _, _, hb => by cases hb
  | .refuse _, _, _, _, _, _, _, _, _, _, _, hb => by cases hb
def teOf : List Value → Nat → TE → TE
  | [], _, t => t
  | v :: r, i, t => teOf r (Nat.succ i) (Tr.set v 40 t i)
theorem teOf_get : ∀ (l : List Value) (i : Nat) (t : TE), i + l.length < 1000000 → ∀ j, Tr.get (teOf l i t) j = if i ≤ j ∧ j < i + l.length then l[j - i]? else Tr.get t j
  | [], i, t, _, j => by
    have : ¬ (i ≤ j ∧ j < i + ([] : List Value).length) := by simp
    rw [if_neg this]; rfl
  | v :: r, i, t, h, j => by
    simp only [List.length_cons] at h ⊢
    rw [teOf, teOf_get r (i + 1) _ (by omega), Tr.get_set _ _ _ _ _ (by omega)]
    by_cases h1 : j = i
    · subst h1
      rw [if_neg (by omega), if_pos rfl, if_pos (by omega)]
      simp
    · by_cases h2 : i + 1 ≤ j ∧ j < i + 1 + r.length
      · rw [if_pos h2, if_pos (by omega)]
        have : j - i = (j - (i + 1)) + 1 := by omega
        rw [this, List.getElem?_cons_succ]
      · rw [if_neg h2, if_neg h1, if_neg (by omega)]
theorem teOf_rep {args : List Value} (h : args.length < 1000000) : RepE (teOf args 0 .leaf) (envOf args) := by
  intro j
  rw [teOf_get args 0 .leaf (by omega)]
  show args.getD j undef = _
  by_cases hj : j < args.length
  · rw [if_pos (by omega)]; simp [List.getD_eq_getElem?_getD]
  · rw [if_neg (by omega), Tr.get_leaf]
    simp [List.getD_eq_getElem?_getD, List.getElem?_eq_none (by omega : args.length ≤ j)]
def resCellB (P : Program) (e : TE) (h : HS) : ResultVar → Option Value
  | .tmp t => some (tev e (.tmp t))
  | .cell a t => pLoadG P t (tev e (.tmp a)) h.lookF
def resListB (P : Program) (e : TE) (h : HS) : List ResultVar → Option (List Value)
  | [] => some []
  | r :: rs => match resCellB P e h r with
    | some v => match resListB P e h rs with
      | some vs => some (v :: vs)
      | none => none
    | none => none
theorem resListB_eq {te : TE} {e : Env} {s : HS} {h : AH} (E : RepE te e) (R : RepH s h) : ∀ (l : List ResultVar), resListB P te s l = resList P e h l
  | [] => rfl
  | r :: rs => by
    have h1 : resCellB P te s r = resCell P e h r := by
      cases r with
      | tmp t => exact congrArg some (E t).symm
      | cell a t =>
        show pLoadG P t (tev te (.tmp a)) s.lookF = pLoad P t (e a) h
        rw [R.lf, pLoadG_eq, E.ev]
        rfl
    rw [resListB, resList, h1, resListB_eq E R rs]
    rfl
def endB (P : Program) (fn : Func) (k : KB) : KE
  | .normal, e, h | .ret, e, h => optB (resListB P e h fn.results.toList) fun vs => k (resOf vs) h
  | _, _, _ => false
abbrev Orc := FuncId → List Value → (Nat → Option AObj) → Option (List Value)
def OrcOK (P : Program) (orc : Orc) : Prop := ∀ f args outs (h : AH), orc f args (fun i => h[i]?) = some outs → ∀ (K : Value → AH → Prop), (∀ v ∈ outs, K v h) → callW P f args h K
def callB (P : Program) (orc : Orc) (fuel : Nat) : Nat → CallB
  | 0, _, _, _, _ => false
  | d + 1, f, args, s, k => match orc f args s.lookF with
    | some outs => outs.all fun v => k v s
    | none => match P.funcs[f]? with
      | some fn => match fn.body, fnOK fn && decide (args.length ≤ fn.ntmps) && Nat.blt fn.ntmps 1000000 with
        | some c, true => codeB P (callB P orc fuel d) fuel c (endB P fn k) (teOf args 0 .leaf) s
        | _, _ => false
      | none => false
theorem callB_ok {orc : Orc} (ho : OrcOK P orc) {fuel : Nat} : ∀ (d : Nat), XOK (callB P orc fuel d) (callW P)
  | 0 => fun f args s k h K R hk hb => by cases hb
  | d + 1 => fun f args s k h K R hk hb => by
    simp only [callB] at hb
    split at hb
    · rename_i outs hout
      rw [R.lf] at hout
      exact ho _ _ _ h hout K fun v hv => hk _ _ _ R (List.all_eq_true.1 hb v hv)
    · split at hb
      · rename_i fn hfn
        split at hb
        · rename_i c hc hok
          simp only [Bool.and_eq_true] at hok
          have hnt := blt_lt hok.2
          have hlen : args.length ≤ fn.ntmps := of_decide_eq_true hok.1.2
          refine callW_step (.inr ?_)
          unfold stepF
          simp only [hfn, hc, hok.1.1, hok.1.2, Bool.and_self]
          have hco : codeOK fn.ntmps c = true := by
            have := hok.1.1
            unfold fnOK at this
            rw [hc, Bool.and_eq_true] at this
            exact this.2
          refine codeB_ok (callB_ok ho d) hnt c hco ?_ (teOf_rep (by omega)) R hb
          intro x te e s h E R hh
          cases x with
          | normal =>
            simp only [endB, resListB_eq E R] at hh
            exact optB_ok hh fun v hv => hk _ _ _ R hv
          | ret =>
            simp only [endB, resListB_eq E R] at hh
            exact optB_ok hh fun v hv => hk _ _ _ R hv
          | _ => cases hh
        · cases hb
      · cases hb
def noOrc : Orc := fun _ _ _ => none
theorem noOrc_ok : OrcOK P noOrc := fun _ _ _ _ h => by cases h
def hs0 : HS := ⟨.leaf, 0⟩
theorem hs0_rep : RepH hs0 [] where
  look i := by show Tr.get .leaf i = _; rw [Tr.get_leaf]; simp
  n := rfl
  le := by decide
def isTrueV (v : Value) : Bool :=
  match v with
  | .bool true => true
  | _ => false
theorem isTrueV_eq {v : Value} (h : isTrueV v = true) : v = .bool true := by
  unfold isTrueV at h
  split at h
  · rfl
  · cases h
end Go.AM
end

section
/- The words of printed functions: operations with their types looked up, loops, calls. Conditions: none. -/
namespace Go.AM
open Go
variable {P : Program}
def bs (l : List UInt8) : ByteArray := ⟨⟨l⟩⟩
def bld (z : List Value) (pl : List (Nat × Nat)) (parts : List (Nat × Value)) : Option Value :=
  (fillL (fun i => pl[i]?) z parts).map fun cs => .agg cs.toArray
def bldArr (z : List Value) (size : Nat) (parts : List (Nat × Value)) : Option Value :=
  (fillL (fun j => some (j * size, size)) z parts).map fun cs => .agg cs.toArray
def bldSl (size : Nat) (z : List Value) (len : Nat) (parts : List (Nat × Value)) : Option (List Value) :=
  if z.length = size ∧ len * size ≤ 16777216 ∧ len ≤ 16777216 then fillL (fun j => some (j * size, size)) (repL z len) parts else none
def mkSl (size bytes : Nat) (z : List Value) (len cap : Value) : Option (Nat × Nat × List Value) :=
  match len, cap with
  | .int .i64 l, .int .i64 c => if 0 ≤ l ∧ l ≤ c ∧ c ≤ (room40 : Int) ∧ bytes ≤ 256 ∧ z.length = size then some (l.toNat, c.toNat, repL z c.toNat) else none
  | _, _ => none
def lenSl (x : Value) : Option Value :=
  match x with
  | .slice _ n _ => some (.int .i64 n)
  | _ => none
def lenStr (x : Value) : Option Value :=
  match x with
  | .string s => some (.int .i64 s.size)
  | _ => none
def appSl (s : Nat) (b x : Value) (h : AH) (K : Value → AH → Prop) : Prop :=
  match x with
  | .slice .. => appS s b x h K
  | _ => False
def appZI (s : Nat) (z : List Value) (b x : Value) (h : AH) (K : Value → AH → Prop) : Prop :=
  match x with
  | .int .i64 n => appZ s z b n h K
  | _ => False
def convI (k : IntKind) (x : Value) : Option Value :=
  match x with
  | .int _ n => some (.int k (k.wrap n))
  | _ => none
def callV (X : CallT) (f : Value) (args : List Value) (h : AH) (K : Value → AH → Prop) : Prop :=
  match f with
  | .func (.func g) a b => X g (a.toList ++ args ++ b.toList) h K
  | _ => False
def newR (slot : Option Nat) (c : List Value) (h : AH) (K : Value → AH → Prop) : Prop :=
  newW slot (.row c true) h fun id h' => K (.pointer (some ⟨id, 0, none⟩)) h'
def loopE (B : (Env → AH → Prop) → Env → AH → Prop) (e : Env) (h : AH) : Prop :=
  ∀ I : Env → AH → Prop, (∀ e h, B I e h → I e h) → I e h
def joinE (B : (Env → AH → Prop) → Prop) (J : Env → AH → Prop) : Prop := B J
theorem loopE_intro {B : (Env → AH → Prop) → Env → AH → Prop} {e : Env} {h : AH} (Inv : Nat → Env → AH → Prop) (n : Nat) (h0 : Inv n e h)
    (step : ∀ (I : Env → AH → Prop) (n : Nat) (e : Env) (h : AH), Inv n e h → (∀ m e' h', m < n → Inv m e' h' → I e' h') → B I e h) : loopE B e h := by
  intro I hI
  have key : ∀ n, ∀ e h, Inv n e h → I e h := by
    intro n
    induction n using Nat.strongRecOn with
    | ind n ih => exact fun e h hi => hI e h (step I n e h hi fun m e' h' hm hi' => ih m hm e' h' hi')
  exact key n e h h0
def gvalS (ops : Array Oper) (g : Nat × Bool) (e : Env) : Bool :=
  match (ops[g.1]?).bind (·.dst) with
  | some t => gB (e t) g.2
  | none => false
theorem gval_some {ops : Array Oper} {o : Oper} {g : Nat × Bool} (h : o.guard = some g) (e : Env) : gval ops o e = gvalS ops g e := by
  unfold gval gvalS
  rw [h]
  rfl
theorem gval_none {ops : Array Oper} {o : Oper} (h : o.guard = none) (e : Env) : gval ops o e = true := by
  unfold gval
  rw [h]
def ordW2 (P : Program) (X : CallT) (ops : Array Oper) : List Nat → Env → AH → (Env → AH → Prop) → Prop
  | [], e, h, Q => Q e h
  | i :: r, e, h, Q => match ops[i]? with
    | none => ordW2 P X ops r e h Q
    | some o => match o.guard with
      | none => opW P X none o e h fun v h' => ordW2 P X ops r (putE e o.dst v) h' Q
      | some g => gopW (gvalS ops g e) (opW P X none o e h) h fun v h' => ordW2 P X ops r (putE e o.dst v) h' Q
theorem ordW2_eq (P : Program) (X : CallT) (ops : Array Oper) (Q : Env → AH → Prop) : ∀ (l : List Nat) (e : Env) (h : AH), ordW2 P X ops l e h Q = ordW P X ops (fun _ => none) l e h Q
  | [], _, _ => rfl
  | i :: r, e, h => by
    rw [ordW2, ordW]
    cases ho : ops[i]? with
    | none => exact ordW2_eq P X ops Q r e h
    | some o =>
      dsimp only
      have hr : (fun v h' => ordW2 P X ops r (putE e o.dst v) h' Q) = fun v h' => ordW P X ops (fun _ => none) r (putE e o.dst v) h' Q := by
        funext v h'
        exact ordW2_eq P X ops Q r _ _
      rw [hr]
      cases hg : o.guard with
      | none => rw [gval_none hg]; rfl
      | some g => rw [gval_some hg]
def textD2 (P : Program) (X : CallT) (ops : Array Oper) (b : Array Nat) (sl : List (Option Nat)) : List Nat → HT → ST → Env → AH → (Env → AH → Prop) → Prop
  | [], _, _, e, h, Q => Q e h
  | i :: r, H, S, e, h, Q => match ops[i]? with
    | none => False
    | some o => match o.guard with
      | none => opD P X b sl i o H S e h fun v h' H' S' => textD2 P X ops b sl r H' S' (putE e o.dst v) h' Q
      | some g => gopD (gvalS ops g e) (opD P X b sl i o H S e h) h H S fun v h' H' S' => textD2 P X ops b sl r H' S' (putE e o.dst v) h' Q
theorem textD2_eq (P : Program) (X : CallT) (ops : Array Oper) (b : Array Nat) (sl : List (Option Nat)) (Q : Env → AH → Prop) : ∀ (l : List Nat) (H : HT) (S : ST) (e : Env) (h : AH), textD2 P X ops b sl l H S e h Q = textD P X ops b sl l H S e h Q
  | [], _, _, _, _ => rfl
  | i :: r, H, S, e, h => by
    rw [textD2, textD]
    cases ho : ops[i]? with
    | none => rfl
    | some o =>
      dsimp only
      have hr : (fun v h' H' S' => textD2 P X ops b sl r H' S' (putE e o.dst v) h' Q) = fun v h' H' S' => textD P X ops b sl r H' S' (putE e o.dst v) h' Q := by
        funext v h' H' S'
        exact textD2_eq P X ops b sl Q r _ _ _ _
      rw [hr]
      cases hg : o.guard with
      | none => rw [gval_none hg]; rfl
      | some g => rw [gval_some hg]
def regW2 (P : Program) (X : CallT) (ops : Array Oper) (draw : Bool) (e : Env) (h : AH) (Q : Env → AH → Prop) : Prop :=
  match draw with
  | false => ordW2 P X ops (List.range ops.size) e h Q
  | true => match drawOK P ops with
    | true => textD2 P X ops (Region.before ops) (slots P ops.toList h.length) (List.range ops.size) [] [] e (reserve (countAl P ops.toList) h) Q
    | false => False
theorem regW2_eq (P : Program) (X : CallT) (ops : Array Oper) (draw : Bool) (e : Env) (h : AH) (Q : Env → AH → Prop) : regW2 P X ops draw e h Q = regW P X ops draw e h Q := by
  cases draw with
  | false => exact ordW2_eq _ _ _ _ _ _ _
  | true =>
    simp only [regW2, regW]
    cases drawOK P ops with
    | false => rfl
    | true => exact textD2_eq _ _ _ _ _ _ _ _ _ _ _
def cwp2 (P : Program) (X : CallT) : Code → (Exit → Env → AH → Prop) → Env → AH → Prop
  | .skip, Q, e, h => Q .normal e h
  | .region _ ops draw, Q, e, h => regW2 P X ops draw e h (Q .normal)
  | .seq a b, Q, e, h => cwp2 P X a (thenW (cwp2 P X b Q) Q) e h
  | .cond c a b, Q, e, h => condW (ev e c) (cwp2 P X a Q e h) (cwp2 P X b Q e h)
  | .block id c, Q, e, h => cwp2 P X c (blockW id Q) e h
  | .loop c, Q, e, h => loopW (cwp2 P X c) Q e h
  | .exit id, Q, e, h => Q (.exit id) e h
  | .ret, Q, e, h => Q .ret e h
  | _, _, _, _ => False
theorem cwp2_eq (P : Program) (X : CallT) : ∀ (c : Code), cwp2 P X c = cwp P X c
  | .skip => rfl
  | .region _ ops draw => by funext Q e h; exact regW2_eq _ _ _ _ _ _ _
  | .seq a b => by funext Q e h; simp only [cwp2, cwp, cwp2_eq P X a, cwp2_eq P X b]
  | .cond c a b => by funext Q e h; simp only [cwp2, cwp, cwp2_eq P X a, cwp2_eq P X b]
  | .block id c => by funext Q e h; simp only [cwp2, cwp, cwp2_eq P X c]
  | .loop c => by funext Q e h; simp only [cwp2, cwp, cwp2_eq P X c]
  | .exit id => rfl
  | .ret => rfl
  | .rangeFunc .. => rfl
  | .scope _ => rfl
  | .label _ => rfl
  | .goto _ => rfl
  | .refuse _ => rfl
theorem callW_of {f : FuncId} {fn : Func} {args : List Value} {h : AH} {K : Value → AH → Prop} (hf : P.funcs[f]? = some fn) (hok : (fnOK fn && decide (args.length ≤ fn.ntmps)) = true)
    (hw : cwp2 P (callW P) (fn.body.getD .skip) (endW P fn K) (envOf args) h) : callW P f args h K := by
  rw [cwp2_eq] at hw
  refine callW_step (.inr ?_)
  unfold stepF
  rw [hf]
  dsimp only
  have hb : ∃ c, fn.body = some c := by
    simp only [Bool.and_eq_true] at hok
    have := hok.1
    unfold fnOK at this
    cases h : fn.body with
    | none => rw [h] at this; simp at this
    | some c => exact ⟨c, rfl⟩
  obtain ⟨c, hb⟩ := hb
  rw [hb] at hw ⊢
  rw [hok]
  exact hw
end Go.AM
namespace Go.AM
open Go
abbrev pt (e : Env) (d : Nat) (v : Value) : Env := putE e (some d) v
end Go.AM
end

section
/- Rules for walking through printed functions: numbers, tests, words. Conditions: none. -/
namespace Go.AM
open Go
variable {P : Program} {t : Nat}
theorem w_some {α : Type} {o : Option α} {v : α} {K : α → Prop} (h : o = some v) (k : K v) : optW o K := by rw [h]; exact k
theorem wrap_in (n : Int) (h1 : -9223372036854775808 ≤ n) (h2 : n ≤ 9223372036854775807) : IntKind.i64.wrap n = n := by
  simp only [IntKind.wrap, IntKind.bits, IntKind.signed]
  simp
  omega
theorem w_add {a b : Int} {K : Value → Prop} (h1 : -9223372036854775808 ≤ a + b) (h2 : a + b ≤ 9223372036854775807) (k : K (.int .i64 (a + b))) : optW (pBin P .add t (.int .i64 a) (.int .i64 b)) K := by
  refine w_some (v := .int .i64 (a + b)) ?_ k
  show (if IntKind.i64 = IntKind.i64 then pBinI .add .i64 a b else none) = _
  rw [if_pos rfl, pBinI, wrap_in _ h1 h2]
theorem w_sub {a b : Int} {K : Value → Prop} (h1 : -9223372036854775808 ≤ a - b) (h2 : a - b ≤ 9223372036854775807) (k : K (.int .i64 (a - b))) : optW (pBin P .sub t (.int .i64 a) (.int .i64 b)) K := by
  refine w_some (v := .int .i64 (a - b)) ?_ k
  show (if IntKind.i64 = IntKind.i64 then pBinI .sub .i64 a b else none) = _
  rw [if_pos rfl, pBinI, wrap_in _ h1 h2]
theorem w_tmod {kd : IntKind} {a b : Int} {K : Value → Prop} (h : b ≠ 0) (k : K (.int kd (a.tmod b))) : optW (pBin P .rem t (.int kd a) (.int kd b)) K := by
  refine w_some (v := .int kd (a.tmod b)) ?_ k
  show (if kd = kd then pBinI .rem kd a b else none) = _
  rw [if_pos rfl, pBinI, if_neg h]
theorem w_rem {kd : IntKind} {a b : Int} {K : Value → Prop} (h : 0 < b) (h0 : 0 ≤ a) (k : K (.int kd (a % b))) : optW (pBin P .rem t (.int kd a) (.int kd b)) K := by
  refine w_tmod (by omega) ?_
  rw [Int.tmod_eq_emod_of_nonneg h0]
  exact k
theorem w_quo {a b : Int} {K : Value → Prop} (h : 0 < b) (h0 : 0 ≤ a) (h1 : a ≤ 9223372036854775807) (k : K (.int .i64 (a / b))) : optW (pBin P .quo t (.int .i64 a) (.int .i64 b)) K := by
  refine w_some (v := .int .i64 (a / b)) ?_ k
  show (if IntKind.i64 = IntKind.i64 then pBinI .quo .i64 a b else none) = _
  rw [if_pos rfl, pBinI, if_neg (by omega), Int.tdiv_eq_ediv_of_nonneg h0]
  have g1 : 0 ≤ a / b := Int.ediv_nonneg h0 (by omega)
  have g2 : a / b ≤ a := Int.ediv_le_self _ h0
  rw [wrap_in _ (by omega) (by omega)]
theorem w_lss {kd : IntKind} {a b : Int} {K : Value → Prop} (k : K (.bool (decide (a < b)))) : optW (pBin P .lss t (.int kd a) (.int kd b)) K := by
  refine w_some (v := .bool (decide (a < b))) ?_ k
  show (if kd = kd then pBinI .lss kd a b else none) = _
  rw [if_pos rfl, pBinI]
theorem w_leq {kd : IntKind} {a b : Int} {K : Value → Prop} (k : K (.bool (decide (a ≤ b)))) : optW (pBin P .leq t (.int kd a) (.int kd b)) K := by
  refine w_some (v := .bool (decide (a ≤ b))) ?_ k
  show (if kd = kd then pBinI .leq kd a b else none) = _
  rw [if_pos rfl, pBinI]
theorem w_gtr {kd : IntKind} {a b : Int} {K : Value → Prop} (k : K (.bool (decide (b < a)))) : optW (pBin P .gtr t (.int kd a) (.int kd b)) K := by
  refine w_some (v := .bool (decide (b < a))) ?_ k
  show (if kd = kd then pBinI .gtr kd a b else none) = _
  rw [if_pos rfl, pBinI]
theorem w_geq {kd : IntKind} {a b : Int} {K : Value → Prop} (k : K (.bool (decide (b ≤ a)))) : optW (pBin P .geq t (.int kd a) (.int kd b)) K := by
  refine w_some (v := .bool (decide (b ≤ a))) ?_ k
  show (if kd = kd then pBinI .geq kd a b else none) = _
  rw [if_pos rfl, pBinI]
theorem w_eql {kd : IntKind} {a b : Int} {K : Value → Prop} (k : K (.bool (decide (a = b)))) : optW (pBin P .eql t (.int kd a) (.int kd b)) K := by
  refine w_some (v := .bool (decide (a = b))) ?_ k
  show (if kd = kd then pBinI .eql kd a b else none) = _
  rw [if_pos rfl, pBinI]
  rfl
theorem w_neq {kd : IntKind} {a b : Int} {K : Value → Prop} (k : K (.bool (decide (¬ a = b)))) : optW (pBin P .neq t (.int kd a) (.int kd b)) K := by
  refine w_some (v := .bool (decide (¬ a = b))) ?_ k
  show (if kd = kd then pBinI .neq kd a b else none) = _
  rw [if_pos rfl, pBinI]
  congr 2
  by_cases h : a = b <;> simp [h]
theorem bs_data (l : List UInt8) : (bs l).data.toList = l := rfl
theorem w_seql {l m : List UInt8} {K : Value → Prop} (k : K (.bool (decide (l = m)))) : optW (pBin P .eql t (.string (bs l)) (.string (bs m))) K := by
  refine w_some (v := .bool (decide (l = m))) ?_ k
  show pBinS .eql (bs l) (bs m) = _
  rw [pBinS, bytes_toList, bytes_toList, bs_data, bs_data]
  congr 2
  by_cases h : l = m <;> simp [h]
theorem w_sneq {l m : List UInt8} {K : Value → Prop} (k : K (.bool (decide (¬ l = m)))) : optW (pBin P .neq t (.string (bs l)) (.string (bs m))) K := by
  refine w_some (v := .bool (decide (¬ l = m))) ?_ k
  show pBinS .neq (bs l) (bs m) = _
  rw [pBinS, bytes_toList, bytes_toList, bs_data, bs_data]
  congr 2
  by_cases h : l = m <;> simp [h]
theorem w_lenStr {l : List UInt8} {K : Value → Prop} (k : K (.int .i64 (l.length : Nat))) : optW (lenStr (.string (bs l))) K := k
theorem pSliceB_in {i : Int} {kd : IntKind} {y d : Nat} (h0 : 0 ≤ i) (h1 : i ≤ (y : Int)) : pSliceB (some (.int kd i)) y d = some i.toNat := by
  rw [pSliceB, if_pos ⟨h0, h1⟩]
theorem w_not {p : Prop} [Decidable p] {K : Value → Prop} (k : K (.bool (decide (¬ p)))) : optW (pUn .not (.bool (decide p))) K := by
  refine w_some (v := .bool (decide (¬ p))) ?_ k
  by_cases h : p <;> simp [pUn, h]
theorem w_notb {b : Bool} {K : Value → Prop} (k : K (.bool (!b))) : optW (pUn .not (.bool b)) K := k
theorem pk_tt {p : Prop} [Decidable p] {a b : Value} {K : Value → Prop} (h : p) (k : K a) : optW (pPick (.bool (decide p)) a b) K := by
  rw [decide_eq_true h]; exact k
theorem pk_ff {p : Prop} [Decidable p] {a b : Value} {K : Value → Prop} (h : ¬ p) (k : K b) : optW (pPick (.bool (decide p)) a b) K := by
  rw [decide_eq_false h]; exact k
theorem pk_t {a b : Value} {K : Value → Prop} (k : K a) : optW (pPick (.bool true) a b) K := k
theorem pk_f {a b : Value} {K : Value → Prop} (k : K b) : optW (pPick (.bool false) a b) K := k
theorem c_dec {p : Prop} [Decidable p] {A B : Prop} (ha : p → A) (hb : ¬ p → B) : condW (.bool (decide p)) A B := by
  by_cases h : p
  · rw [decide_eq_true h]; exact ha h
  · rw [decide_eq_false h]; exact hb h
theorem c_tt {p : Prop} [Decidable p] {A B : Prop} (h : p) (ha : A) : condW (.bool (decide p)) A B := by
  rw [decide_eq_true h]; exact ha
theorem c_ff {p : Prop} [Decidable p] {A B : Prop} (h : ¬ p) (hb : B) : condW (.bool (decide p)) A B := by
  rw [decide_eq_false h]; exact hb
theorem c_t {A B : Prop} (ha : A) : condW (.bool true) A B := ha
theorem c_f {A B : Prop} (hb : B) : condW (.bool false) A B := hb
theorem c_b {b : Bool} {A B : Prop} (ha : b = true → A) (hb : b = false → B) : condW (.bool b) A B := by
  cases b with
  | true => exact ha rfl
  | false => exact hb rfl
theorem g_dec {p : Prop} [Decidable p] {f : (Value → AH → Prop) → Prop} {h : AH} {K : Value → AH → Prop} (ha : p → f K) (hb : ¬ p → K undef h) : gopW (gB (.bool (decide p)) true) f h K := by
  by_cases h : p
  · rw [decide_eq_true h]; exact ha h
  · rw [decide_eq_false h]; exact hb h
theorem g_decf {p : Prop} [Decidable p] {f : (Value → AH → Prop) → Prop} {h : AH} {K : Value → AH → Prop} (ha : p → K undef h) (hb : ¬ p → f K) : gopW (gB (.bool (decide p)) false) f h K := by
  by_cases h : p
  · rw [decide_eq_true h]; exact ha h
  · rw [decide_eq_false h]; exact hb h
theorem g_tt {p : Prop} [Decidable p] {f : (Value → AH → Prop) → Prop} {h : AH} {K : Value → AH → Prop} (hp : p) (k : f K) : gopW (gB (.bool (decide p)) true) f h K := by
  rw [decide_eq_true hp]; exact k
theorem g_tf {p : Prop} [Decidable p] {f : (Value → AH → Prop) → Prop} {h : AH} {K : Value → AH → Prop} (hp : ¬ p) (k : K undef h) : gopW (gB (.bool (decide p)) true) f h K := by
  rw [decide_eq_false hp]; exact k
theorem g_ft {p : Prop} [Decidable p] {f : (Value → AH → Prop) → Prop} {h : AH} {K : Value → AH → Prop} (hp : p) (k : K undef h) : gopW (gB (.bool (decide p)) false) f h K := by
  rw [decide_eq_true hp]; exact k
theorem g_ff {p : Prop} [Decidable p] {f : (Value → AH → Prop) → Prop} {h : AH} {K : Value → AH → Prop} (hp : ¬ p) (k : f K) : gopW (gB (.bool (decide p)) false) f h K := by
  rw [decide_eq_false hp]; exact k
theorem gc_tt {f : (Value → AH → Prop) → Prop} {h : AH} {K : Value → AH → Prop} (k : f K) : gopW (gB (.bool true) true) f h K := k
theorem gc_ft {f : (Value → AH → Prop) → Prop} {h : AH} {K : Value → AH → Prop} (k : K undef h) : gopW (gB (.bool true) false) f h K := k
theorem gc_tf {f : (Value → AH → Prop) → Prop} {h : AH} {K : Value → AH → Prop} (k : K undef h) : gopW (gB (.bool false) true) f h K := k
theorem gc_ff {f : (Value → AH → Prop) → Prop} {h : AH} {K : Value → AH → Prop} (k : f K) : gopW (gB (.bool false) false) f h K := k
theorem w_lenSl {a : Option Addr} {n c : Nat} {K : Value → Prop} (k : K (.int .i64 n)) : optW (lenSl (.slice a n c)) K := k
end Go.AM
end

section
/- A known function 'within': what a run may take of it. Conditions: none. -/
namespace Go.AM
open Go
set_option linter.unusedVariables false
theorem tmod_emod (a n : Int) (h : 0 < n) : (if a.tmod n < 0 then a.tmod n + n else a.tmod n) = a % n ∧ (a.tmod n < 0 → a.tmod n + n = a % n) ∧ (¬ a.tmod n < 0 → a.tmod n = a % n) ∧ - n < a.tmod n ∧ a.tmod n < n := by
  have h2 := Int.emod_nonneg a (by omega : n ≠ 0)
  have h3 := Int.emod_lt_of_pos a h
  have h4 := Int.tmod_eq_emod (a := a) (b := n)
  split at h4
  · generalize a % n = r at *
    generalize a.tmod n = m at *
    refine ⟨?_, ?_, ?_, ?_, ?_⟩
    · rw [if_neg (by omega)]; omega
    all_goals omega
  · rename_i hx
    have h5 : a % n ≠ 0 := fun e => hx (.inr (Int.dvd_of_emod_eq_zero e))
    have h6 : (n.natAbs : Int) = n := by omega
    generalize a % n = r at *
    generalize a.tmod n = m at *
    refine ⟨?_, ?_, ?_, ?_, ?_⟩
    · rw [if_pos (by omega)]; omega
    all_goals omega
end Go.AM
namespace Go.AM
open Go
end Go.AM
end

section
/- Rules for walking through printed functions: memory. Conditions: none. -/
namespace Go.AM
open Go
structure Ex (h h' : AH) : Prop where
  len : h.length ≤ h'.length
  get : ∀ j, j < h.length → h'[j]? = h[j]?
theorem Ex.refl (h : AH) : Ex h h := ⟨Nat.le_refl _, fun _ _ => rfl⟩
theorem Ex.trans {a b c : AH} (x : Ex a b) (y : Ex b c) : Ex a c := ⟨Nat.le_trans x.len y.len, fun j hj => (y.get j (Nat.lt_of_lt_of_le hj x.len)).trans (x.get j hj)⟩
theorem Ex.app (h : AH) (t : AH) : Ex h (h ++ t) := ⟨by simp, fun j hj => List.getElem?_append_left hj⟩
theorem Ex.push {a h : AH} (x : Ex a h) (o : AObj) : Ex a (h ++ [o]) := x.trans (.app h [o])
theorem Ex.set {a h : AH} (x : Ex a h) {i : Nat} (hi : a.length ≤ i) (o : AObj) : Ex a (h.set i o) :=
  ⟨by rw [List.length_set]; exact x.len, fun j hj => by rw [List.getElem?_set, if_neg (by omega)]; exact x.get j hj⟩
theorem Ex.some {h h' : AH} (x : Ex h h') {i : Nat} {o : AObj} (hi : h[i]? = some o) : h'[i]? = some o := by
  rw [x.get i (List.getElem?_eq_some_iff.1 hi).1]; exact hi
theorem lt_of_get {h : AH} {i : Nat} {o : AObj} (hi : h[i]? = some o) : i < h.length := (List.getElem?_eq_some_iff.1 hi).1
theorem get_new (h : AH) (o : AObj) : (h ++ [o])[h.length]? = some o := by simp
theorem get_set (h : AH) {i : Nat} (hi : i < h.length) (o : AObj) : (h.set i o)[i]? = some o := by simp [hi]
theorem get_ne {h : AH} {i j : Nat} (hij : i ≠ j) (o : AObj) : (h.set i o)[j]? = h[j]? := by simp [hij]
def PtrTo (h : AH) (p : Value) (cs : List Value) : Prop := ∃ id off c w, p = .pointer (some ⟨id, off, none⟩) ∧ h[id]? = some (.row c w) ∧ off + cs.length ≤ c.length ∧ (c.drop off).take cs.length = cs
theorem PtrTo.ex {h h' : AH} {p : Value} {cs : List Value} (hp : PtrTo h p cs) (x : Ex h h') : PtrTo h' p cs := by
  obtain ⟨id, off, c, w, rfl, h1, h2, h3⟩ := hp
  exact ⟨id, off, c, w, rfl, x.some h1, h2, h3⟩
theorem w_rd1 {h : AH} {p : Value} {cs : List Value} {x : Value} {K : Value → Prop} (hp : PtrTo h p cs) (hx : cs[0]? = some x) (k : K x) : optW (rdRow false 1 p h) K := by
  obtain ⟨id, off, c, w, rfl, h1, h2, h3⟩ := hp
  have hl : 0 < cs.length := (List.getElem?_eq_some_iff.1 hx).1
  refine w_some (v := x) ?_ k
  simp only [rdRow, h1, if_pos (show off + 1 ≤ c.length by omega), partV]
  rw [← h3] at hx
  simpa [hl] using hx
def Sl (s : Nat) (h : AH) (v : Value) (n : Nat) (cs : List Value) : Prop :=
  cs.length = n * s ∧ ((v = .slice none 0 0 ∧ n = 0) ∨ ∃ id off cap, v = .slice (some ⟨id, off, none⟩) n cap ∧ (cap < openCap ∧ n ≤ cap ∨ cap = openCap + s) ∧
    (n = 0 ∨ ∃ c w, h[id]? = some (.row c w) ∧ off + n * s ≤ c.length ∧ (c.drop off).take (n * s) = cs))
theorem Sl.ex {s : Nat} {h h' : AH} {v : Value} {n : Nat} {cs : List Value} (hv : Sl s h v n cs) (x : Ex h h') : Sl s h' v n cs := by
  refine ⟨hv.1, ?_⟩
  rcases hv.2 with h1 | ⟨id, off, cap, h1, h2, h3⟩
  · exact .inl h1
  · refine .inr ⟨id, off, cap, h1, h2, ?_⟩
    rcases h3 with h3 | ⟨c, w, h3, h4⟩
    · exact .inl h3
    · exact .inr ⟨c, w, x.some h3, h4⟩
theorem Sl.shape {s : Nat} {h : AH} {v : Value} {n : Nat} {cs : List Value} (hv : Sl s h v n cs) : ∃ a cap, v = .slice a n cap := by
  rcases hv.2 with ⟨rfl, rfl⟩ | ⟨id, off, cap, h1, _⟩
  · exact ⟨_, _, rfl⟩
  · exact ⟨_, _, h1⟩
theorem w_len {s : Nat} {h : AH} {v : Value} {n : Nat} {cs : List Value} {K : Value → Prop} (hv : Sl s h v n cs) (k : K (.int .i64 n)) : optW (lenSl v) K := by
  obtain ⟨a, cap, rfl⟩ := hv.shape
  exact k
theorem w_idx {s : Nat} {h : AH} {v : Value} {n : Nat} {cs : List Value} {kd : IntKind} {i : Int} {K : Value → Prop} (hv : Sl s h v n cs) (h0 : 0 ≤ i) (hi : i < (n : Int))
    (k : ∀ p, PtrTo h p ((cs.drop (i.toNat * s)).take s) → K p) : optW (pIdxS s v (.int kd i)) K := by
  rcases hv.2 with ⟨rfl, rfl⟩ | ⟨id, off, cap, rfl, _, h3⟩
  · omega
  · rcases h3 with rfl | ⟨c, w, h3, h4, h5⟩
    · omega
    · refine w_some (v := .pointer (some ⟨id, off + i.toNat * s, none⟩)) (by rw [pIdxS, if_pos ⟨h0, hi⟩]) (k _ ⟨id, off + i.toNat * s, c, w, rfl, h3, ?_, ?_⟩)
      · have h6 : (i.toNat + 1) * s ≤ n * s := Nat.mul_le_mul_right s (by omega)
        rw [Nat.add_mul] at h6
        have h7 : ((cs.drop (i.toNat * s)).take s).length ≤ s := List.length_take_le _ _
        omega
      · have h6 : (i.toNat + 1) * s ≤ n * s := Nat.mul_le_mul_right s (by omega)
        rw [Nat.add_mul] at h6
        have hl : ((cs.drop (i.toNat * s)).take s).length = s := by
          rw [List.length_take, List.length_drop, hv.1]; omega
        rw [hl, ← h5, List.drop_take, List.drop_drop, List.take_take]
        congr 1
        omega
def flat {α : Type} (enc : α → List Value) (l : List α) : List Value := l.flatMap enc
theorem flat_length {α : Type} {enc : α → List Value} {s : Nat} (he : ∀ x, (enc x).length = s) : ∀ (l : List α), (flat enc l).length = l.length * s
  | [] => by simp [flat]
  | x :: l => by
    have := flat_length he l
    simp only [flat, List.flatMap_cons, List.length_append, he, List.length_cons, Nat.add_mul] at this ⊢
    omega
theorem flat_append {α : Type} (enc : α → List Value) (l m : List α) : flat enc (l ++ m) = flat enc l ++ flat enc m := by simp [flat]
theorem flat_at {α : Type} {enc : α → List Value} {s : Nat} (he : ∀ x, (enc x).length = s) : ∀ (l : List α) (i : Nat) (x : α), l[i]? = some x → ((flat enc l).drop (i * s)).take s = enc x
  | [], i, x, h => by simp at h
  | y :: l, 0, x, h => by
    simp only [List.getElem?_cons_zero, Option.some.injEq] at h
    subst h
    simp [flat, ← he y]
  | y :: l, i + 1, x, h => by
    simp only [List.getElem?_cons_succ] at h
    have := flat_at he l i x h
    rw [← this]
    simp only [flat, List.flatMap_cons]
    rw [Nat.add_mul, Nat.one_mul, Nat.add_comm, ← he y, ← List.drop_drop, List.drop_left]
def SlT {α : Type} (s : Nat) (enc : α → List Value) (h : AH) (v : Value) (l : List α) : Prop := Sl s h v l.length (flat enc l)
theorem w_idxT {α : Type} {s : Nat} {enc : α → List Value} (he : ∀ x, (enc x).length = s) {h : AH} {v : Value} {l : List α} {kd : IntKind} {i : Int} {x : α} {K : Value → Prop} (hv : SlT s enc h v l) (h0 : 0 ≤ i) (hx : l[i.toNat]? = some x)
    (k : ∀ p, PtrTo h p (enc x) → K p) : optW (pIdxS s v (.int kd i)) K := by
  have hi : i.toNat < l.length := (List.getElem?_eq_some_iff.1 hx).1
  refine w_idx hv h0 (by omega) fun p hp => k p ?_
  rw [flat_at he l _ x hx] at hp
  exact hp
def eI (n : Int) : List Value := [.int .i64 n]
def eS (s : List UInt8) : List Value := [.string (bs s)]
def eBo (b : Bool) : List Value := [.bool b]
abbrev Ints := SlT 1 eI
theorem eI_len (n : Int) : (eI n).length = 1 := rfl
theorem eBo_len (n : Bool) : (eBo n).length = 1 := rfl
def OwnSl (s : Nat) (b : Nat) (h : AH) (v : Value) (n : Nat) (cs : List Value) : Prop :=
  (v = .slice none 0 0 ∧ n = 0 ∧ cs = []) ∨ ∃ id, b ≤ id ∧ v = .slice (some ⟨id, 0, none⟩) n (openCap + s) ∧ h[id]? = some (.row cs true) ∧ cs.length = n * s
theorem OwnSl.sl {s b : Nat} {h : AH} {v : Value} {n : Nat} {cs : List Value} (ho : OwnSl s b h v n cs) : Sl s h v n cs := by
  rcases ho with ⟨rfl, rfl, rfl⟩ | ⟨id, hb, rfl, h1, h2⟩
  · exact ⟨by simp, .inl ⟨rfl, rfl⟩⟩
  · exact ⟨h2, .inr ⟨id, 0, _, rfl, .inr rfl, .inr ⟨cs, true, h1, by omega, by rw [← h2]; simp⟩⟩⟩
theorem OwnSl.ex {s b : Nat} {h h' : AH} {v : Value} {n : Nat} {cs : List Value} (ho : OwnSl s b h v n cs) (x : Ex h h') : OwnSl s b h' v n cs := by
  rcases ho with h1 | ⟨id, hb, h1, h2, h3⟩
  · exact .inl h1
  · exact .inr ⟨id, hb, h1, x.some h2, h3⟩
theorem OwnSl.nil (s b : Nat) (h : AH) : OwnSl s b h (.slice none 0 0) 0 [] := .inl ⟨rfl, rfl, rfl⟩
theorem OwnSl.mono {s b b' : Nat} {h : AH} {v : Value} {n : Nat} {cs : List Value} (ho : OwnSl s b h v n cs) (hb : b' ≤ b) : OwnSl s b' h v n cs := by
  rcases ho with h1 | ⟨id, h0, h1⟩
  · exact .inl h1
  · exact .inr ⟨id, Nat.le_trans hb h0, h1⟩
def onId (v : Value) (j : Nat) : Prop := match v with
  | .slice (some a) _ _ => a.block = j
  | _ => False
end Go.AM
namespace Go.AM
open Go
theorem n_new {o : AObj} {h : AH} {K : Nat → AH → Prop} (k : K h.length (h ++ [o])) : newW none o h K := k
theorem n_slot {r : Nat} {o : AObj} {h : AH} {K : Nat → AH → Prop} (k : K r (h.set r o)) : newW (some r) o h K := k
theorem n_row {c : List Value} {h : AH} {K : Value → AH → Prop} (k : K (.pointer (some ⟨h.length, 0, none⟩)) (h ++ [.row c true])) : newR none c h K := k
theorem n_box {v : Value} {h : AH} {K : Value → AH → Prop} (hv : (cellsL v).all (·.oneCell') = true) (k : K (.pointer (some ⟨h.length, 0, none⟩)) (h ++ [.row (cellsL v) true])) : aBox v none h K := ⟨hv, k⟩
theorem fillL_one {place : Nat → Option (Nat × Nat)} {z : List Value} {v : Value} {s : Nat} (hp : place 0 = some (0, s)) (hz : z.length = s) (hl : (cellsL v).length = s) (h1 : (cellsL v).all (·.oneCell') = true) : fillL place z [(0, v)] = some (cellsL v) := by
  simp only [fillL, hp]
  rw [if_pos ⟨hl, by omega, h1⟩]
  congr 1
  rw [List.take_zero, List.nil_append, Nat.zero_add, List.drop_of_length_le (by omega), List.append_nil]
theorem bldSl_one {s : Nat} {z : List Value} {v : Value} (hz : z.length = s) (hs : s ≤ 100) (hl : (cellsL v).length = s) (h1 : (cellsL v).all (·.oneCell') = true) : bldSl s z 1 [(0, v)] = some (cellsL v) := by
  unfold bldSl
  rw [if_pos ⟨hz, by omega, by decide⟩]
  exact fillL_one (by simp) (by simp [repL, hz]) hl h1
theorem srcL_new {s : Nat} {c : List Value} {h : AH} {i n cap : Nat} (hi : h[i]? = some (.row c true)) (hn : 0 < n) (hc : c.length = n * s) : srcL s (.slice (some ⟨i, 0, none⟩) n cap) h = some (n, c) := by
  simp only [srcL, hi]
  rw [if_neg (by omega), if_pos (by omega)]
  simp [hc.symm]
theorem srcL_sl {s : Nat} {h : AH} {v : Value} {n : Nat} {cs : List Value} (hs : 0 < s) (hv : Sl s h v n cs) : srcL s v h = some (n, cs) := by
  rcases hv.2 with ⟨rfl, rfl⟩ | ⟨id, off, cap, rfl, _, h3⟩
  · have : cs = [] := List.eq_nil_of_length_eq_zero (by have := hv.1; omega)
    subst this
    rfl
  · simp only [srcL]
    rcases h3 with rfl | ⟨c, w, h3, h4, h5⟩
    · rw [if_pos rfl]
      have : cs = [] := List.eq_nil_of_length_eq_zero (by have := hv.1; omega)
      rw [this]
    · split
      · rename_i h0
        subst h0
        have : cs = [] := List.eq_nil_of_length_eq_zero (by have := hv.1; omega)
        rw [this]
      · simp only [h3]
        rw [if_pos h4, h5]
theorem appSl_of {s : Nat} {b : Value} {a : Option Addr} {n c : Nat} {h : AH} {K : Value → AH → Prop} (k : appS s b (.slice a n c) h K) : appSl s b (.slice a n c) h K := k
theorem appSl_sl {s s' : Nat} {b x : Value} {h h0 : AH} {n : Nat} {cs : List Value} {K : Value → AH → Prop} (hx : Sl s' h0 x n cs) (k : appS s b x h K) : appSl s b x h K := by
  obtain ⟨a, cap, rfl⟩ := hx.shape
  exact k
end Go.AM
namespace Go.AM
theorem take_succ_get {α : Type} {l : List α} {i : Nat} {x : α} (h : l[i]? = some x) : l.take (i + 1) = l.take i ++ [x] := by
  rw [List.take_add_one, h]
  rfl
end Go.AM
namespace Go.AM
open Go
theorem w_idxN {α : Type} {s : Nat} {enc : α → List Value} (he : ∀ x, (enc x).length = s) {h : AH} {v : Value} {l : List α} {kd : IntKind} {i : Nat} {x : α} {K : Value → Prop} (hv : SlT s enc h v l) (hx : l[i]? = some x)
    (k : ∀ p, PtrTo h p (enc x) → K p) : optW (pIdxS s v (.int kd (i : Int))) K := w_idxT he hv (Int.natCast_nonneg i) (by simpa using hx) k
end Go.AM
end

section
/- Rules for walking through printed functions: fields behind a pointer; slices of one's own with room; maps used as sets. Conditions: none. -/
namespace Go.AM
open Go
set_option linter.unusedVariables false
theorem w_nilc {a : Addr} {K : Value → Prop} (k : K (.pointer (some a))) : optW (pNilCheck (.pointer (some a))) K := k
theorem w_offP {id off n : Nat} {K : Value → Prop} (k : K (.pointer (some ⟨id, off + n, none⟩))) : optW (pOff n (.pointer (some ⟨id, off, none⟩))) K := k
theorem w_rdP {h : AH} {id off : Nat} {c : List Value} {w : Bool} {v : Value} {K : Value → Prop} (hr : h[id]? = some (.row c w)) (hv : c[off]? = some v) (k : K v) : optW (rdRow false 1 (.pointer (some ⟨id, off, none⟩)) h) K := by
  refine w_some (v := v) ?_ k
  have := (List.getElem?_eq_some_iff.1 hv).1
  simp only [rdRow, hr, partV]
  rw [if_pos (by omega)]
  exact hv
theorem w_rdPA {h : AH} {id off n : Nat} {c : List Value} {w : Bool} {K : Value → Prop} (hr : h[id]? = some (.row c w)) (hl : off + n ≤ c.length) (k : K (.agg ((c.drop off).take n).toArray)) : optW (rdRow true n (.pointer (some ⟨id, off, none⟩)) h) K := by
  refine w_some ?_ k
  simp only [rdRow, hr, partV]
  rw [if_pos hl]
theorem splice_one (c : List Value) (off : Nat) (v : Value) (h : off < c.length) : spliceL c off [v] = c.set off v := by
  unfold spliceL
  rw [List.set_eq_take_append_cons_drop, if_pos h]
  simp
theorem w_stP {h : AH} {id off : Nat} {c : List Value} {v : Value} {K : AH → Prop} (hr : h[id]? = some (.row c true)) (hl : off < c.length) (hv : cellsL v = [v]) (h1 : v.oneCell' = true) (k : K (h.set id (.row (c.set off v) true))) : optW (pStore 1 (.pointer (some ⟨id, off, none⟩)) v h) K := by
  refine w_some (v := h.set id (.row (c.set off v) true)) ?_ k
  unfold pStore
  rw [hv, if_pos ⟨rfl, by simp [h1]⟩]
  simp only [stRow, hr]
  rw [if_pos (show off + [v].length ≤ c.length from hl), splice_one _ _ _ hl]
theorem w_stPA {h : AH} {id off n : Nat} {c : List Value} {v : Value} {K : AH → Prop} (hr : h[id]? = some (.row c true)) (hn : (cellsL v).length = n) (hl : off + n ≤ c.length) (h1 : (cellsL v).all (·.oneCell') = true) (k : K (h.set id (.row (spliceL c off (cellsL v)) true))) : optW (pStore n (.pointer (some ⟨id, off, none⟩)) v h) K := by
  refine w_some ?_ k
  unfold pStore
  rw [if_pos ⟨hn, h1⟩]
  simp only [stRow, hr]
  rw [if_pos (by omega)]
def OwnG (s : Nat) (F : Nat → Prop) (h : AH) (v : Value) (n : Nat) (cs : List Value) : Prop :=
  cs.length = n * s ∧ ((v = .slice none 0 0 ∧ n = 0) ∨ ∃ id c, F id ∧ v = .slice (some ⟨id, 0, none⟩) n (openCap + s) ∧ h[id]? = some (.row c true) ∧ n * s ≤ c.length ∧ c.take (n * s) = cs)
theorem OwnG.sl {s : Nat} {F : Nat → Prop} {h : AH} {v : Value} {n : Nat} {cs : List Value} (ho : OwnG s F h v n cs) : Sl s h v n cs := by
  obtain ⟨h0, ⟨rfl, rfl⟩ | ⟨id, c, hf, rfl, h1, h2, h3⟩⟩ := ho
  · exact ⟨h0, .inl ⟨rfl, rfl⟩⟩
  · exact ⟨h0, .inr ⟨id, 0, _, rfl, .inr rfl, .inr ⟨c, true, h1, by omega, by simpa using h3⟩⟩⟩
theorem OwnG.nil (s : Nat) (F : Nat → Prop) (h : AH) : OwnG s F h (.slice none 0 0) 0 [] := ⟨by simp, .inl ⟨rfl, rfl⟩⟩
theorem OwnG.mono {s : Nat} {F F' : Nat → Prop} {h h' : AH} {v : Value} {n : Nat} {cs : List Value} (ho : OwnG s F h v n cs) (hF : ∀ j, onId v j → F j → F' j) (hh : ∀ j, onId v j → F j → h'[j]? = h[j]?) : OwnG s F' h' v n cs := by
  obtain ⟨h0, ⟨rfl, rfl⟩ | ⟨id, c, hf, rfl, h1, h2, h3⟩⟩ := ho
  · exact ⟨h0, .inl ⟨rfl, rfl⟩⟩
  · exact ⟨h0, .inr ⟨id, c, hF id rfl hf, rfl, (hh id rfl hf).trans h1, h2, h3⟩⟩
theorem OwnG.on {s : Nat} {F : Nat → Prop} {h : AH} {v : Value} {n : Nat} {cs : List Value} (ho : OwnG s F h v n cs) {j : Nat} (hj : onId v j) : F j ∧ j < h.length := by
  obtain ⟨h0, ⟨rfl, rfl⟩ | ⟨id, c, hf, rfl, h1, h2, h3⟩⟩ := ho
  · exact hj.elim
  · have : id = j := hj
    subst this
    exact ⟨hf, lt_of_get h1⟩
theorem app_g {s : Nat} {F : Nat → Prop} {h : AH} {v x : Value} {n m : Nat} {cs news : List Value} {K : Value → AH → Prop} (hs : 0 < s) (ho : OwnG s F h v n cs) (hx : srcL s x h = some (m, news)) (hm : news.length = m * s) (hn : n + m < room40)
    (k : ∀ v' h', OwnG s (fun j => F j ∨ j = h.length) h' v' (n + m) (cs ++ news) → h.length ≤ h'.length → (∀ j, j < h.length → ¬ onId v j → h'[j]? = h[j]?) → (∀ j, onId v' j → onId v j ∨ j = h.length) → K v' h') : appS s v x h K := by
  refine .inl ?_
  obtain ⟨h0, ⟨rfl, rfl⟩ | ⟨id, c, hf, rfl, h1, h2, h3⟩⟩ := ho
  · by_cases m0 : m = 0
    · subst m0
      have hnews : news = [] := List.eq_nil_of_length_eq_zero (by omega)
      subst hnews
      have : pAppS s (.slice none 0 0) x h = some (.slice none 0 0, h) := by
        unfold pAppS
        simp only [hx]
        rw [if_pos hn, if_pos (by decide)]
        simp [pAppEx, stAt]
      rw [this]
      exact k _ _ ⟨by simpa using h0, .inl ⟨rfl, rfl⟩⟩ (Nat.le_refl _) (fun _ _ _ => rfl) (fun j hj => .inl hj)
    · have hcs : cs = [] := List.eq_nil_of_length_eq_zero (by omega)
      subst hcs
      have : pAppS s (.slice none 0 0) x h = some (.slice (some ⟨h.length, 0, none⟩) (0 + m) (openCap + s), h ++ [.row ([] ++ news) true]) := by
        unfold pAppS
        simp only [hx]
        rw [if_pos hn, if_pos (by decide)]
        simp only [pAppEx]
        rw [if_neg (by omega)]
        simp [firstL]
      rw [this]
      refine k _ _ ⟨by simp [hm], .inr ⟨h.length, _, .inr rfl, rfl, get_new _ _, by simp [hm], by simp [hm.symm]⟩⟩ (by simp) (fun j hj _ => List.getElem?_append_left hj) (fun j hj => .inr ?_)
      have : h.length = j := hj
      omega
  · have hid := lt_of_get h1
    have hl : (cs ++ news).length = (n + m) * s := by rw [List.length_append, h0, hm, Nat.add_mul]
    by_cases hfit : (n + m) * s ≤ c.length
    · have hnm : (n + m) * s = n * s + m * s := Nat.add_mul _ _ _
      cases hne : news with
      | nil =>
        have m0 : m = 0 := by
          have : m * s = 0 := by rw [← hm, hne]; rfl
          rcases Nat.mul_eq_zero.1 this with h | h
          · exact h
          · omega
        subst m0
        have : pAppS s (.slice (some ⟨id, 0, none⟩) n (openCap + s)) x h = some (.slice (some ⟨id, 0, none⟩) (n + 0) (openCap + s), h) := by
          unfold pAppS
          simp only [hx]
          rw [if_pos hn, if_neg (by simp), if_pos trivial]
          simp only [pAppOp, h1]
          rw [if_pos (by simpa using hfit), hne]
          simp [stAt]
        rw [this]
        exact k _ _ ⟨by simpa [hne] using h0, .inr ⟨id, c, .inl hf, rfl, h1, by simpa using h2, by simpa [hne] using h3⟩⟩ (Nat.le_refl _) (fun _ _ _ => rfl) (fun j hj => .inl hj)
      | cons a r =>
        have hst : stAt (some ⟨id, 0, none⟩) (n * s) news h = some (h.set id (.row (spliceL c (n * s) news) true)) := by
          rw [hne]
          simp only [stAt, stRow, Nat.zero_add, h1]
          rw [if_pos (by rw [← hne]; omega)]
        have : pAppS s (.slice (some ⟨id, 0, none⟩) n (openCap + s)) x h = some (.slice (some ⟨id, 0, none⟩) (n + m) (openCap + s), h.set id (.row (spliceL c (n * s) news) true)) := by
          unfold pAppS
          simp only [hx]
          rw [if_pos hn, if_neg (by simp), if_pos trivial]
          simp only [pAppOp, h1]
          rw [if_pos (by simpa using hfit), hst]
          rfl
        rw [this]
        refine k _ _ ⟨hl, .inr ⟨id, spliceL c (n * s) news, .inl hf, rfl, get_set _ hid _, ?_, ?_⟩⟩ (by simp) (fun j hj hne => get_ne (fun e => hne (by subst e; rfl)) _) (fun j hj => .inl hj)
        · unfold spliceL
          simp only [List.length_append, List.length_take, List.length_drop]
          omega
        · unfold spliceL
          rw [h3, ← hl, List.take_left]
    · have : pAppS s (.slice (some ⟨id, 0, none⟩) n (openCap + s)) x h = some (.slice (some ⟨h.length, 0, none⟩) (n + m) (openCap + s), h.set id .dead ++ [.row (cs ++ news) true]) := by
        unfold pAppS
        simp only [hx]
        rw [if_pos hn, if_neg (by simp), if_pos trivial]
        simp only [pAppOp, h1]
        rw [if_neg (by omega), if_pos (by omega)]
        simp [h3]
      rw [this]
      refine k _ _ ⟨hl, .inr ⟨h.length, cs ++ news, .inr rfl, rfl, ?_, by omega, by rw [← hl, List.take_length]⟩⟩ (by simp) (fun j hj hne => ?_) (fun j hj => .inr ?_)
      · rw [List.getElem?_append_right (by simp)]; simp
      · rw [List.getElem?_append_left (by simpa using hj), get_ne (fun e => hne (by subst e; rfl))]
      · have : h.length = j := hj
        omega
theorem cut_g {s : Nat} {F : Nat → Prop} {h : AH} {v : Value} {n m : Nat} {cs : List Value} {kd : IntKind} {K : Value → Prop} (ho : OwnG s F h v n cs) (hm : m ≤ n)
    (k : ∀ v', OwnG s F h v' m (cs.take (m * s)) → (∀ j, onId v' j → onId v j) → K v') : optW (pSliceSl s v none (some (.int kd (m : Int))) none) K := by
  obtain ⟨h0, ⟨rfl, rfl⟩ | ⟨id, c, hf, rfl, h1, h2, h3⟩⟩ := ho
  · have : m = 0 := by omega
    subst this
    refine w_some (v := .slice none 0 0) ?_ (k _ ⟨by simp, .inl ⟨rfl, rfl⟩⟩ fun j hj => hj)
    unfold pSliceSl
    dsimp only
    rw [if_pos (by decide)]
    simp [pSliceB, pSliceEx]
  · have hms : m * s ≤ n * s := Nat.mul_le_mul_right s hm
    refine w_some (v := .slice (some ⟨id, 0, none⟩) m (openCap + s)) ?_ (k _ ⟨by rw [List.length_take, h0]; omega, .inr ⟨id, c, hf, rfl, h1, by omega, by rw [← h3, List.take_take, Nat.min_eq_left hms]⟩⟩ fun j hj => hj)
    unfold pSliceSl
    dsimp only
    rw [if_neg (by simp), if_pos rfl]
    simp only [pSliceOp, pSliceB_in (Int.natCast_nonneg m) (by omega : (m : Int) ≤ (n : Int)), pSliceB, Int.toNat_natCast]
    simp [hm]
end Go.AM
end

section
/- Slices cut, bytes to strings and back: rules of the abstract machine's walk. Conditions: none. -/
namespace Go.AM
open Go
variable {P : Program}
end Go.AM
end

section
/- Rules for walking through printed functions: maps. Conditions: none. -/
namespace Go.AM
open Go
set_option linter.unusedVariables false
abbrev MEnt (α : Type) := α × Value × Nat
def encE {α : Type} (enc : α → Value) (l : List (MEnt α)) : List Ent := l.map fun t => (enc t.1, t.2)
def KeyOK {α : Type} [DecidableEq α] (P : Program) (kt : TypeId) (enc : α → Value) : Prop := ∀ x y : α, keyEq P kt (enc x) (enc y) = some (decide (x = y))
theorem KeyOK.self {α : Type} [DecidableEq α] {P : Program} {kt : TypeId} {enc : α → Value} (hk : KeyOK P kt enc) (x : α) : keyOK P kt (enc x) = true := by
  unfold keyOK
  rw [hk x x]
  rfl
def findE {α : Type} [DecidableEq α] (x : α) : List (MEnt α) → Nat → Option (Nat × Value)
  | [], _ => none
  | t :: r, i => if x = t.1 then some (i, t.2.1) else findE x r (i + 1)
theorem findL_enc {α : Type} [DecidableEq α] {P : Program} {kt : TypeId} {enc : α → Value} (hk : KeyOK P kt enc) (x : α) : ∀ (l : List (MEnt α)) (i : Nat), findL P kt (enc x) (encE enc l) i = some (findE x l i)
  | [], _ => rfl
  | t :: r, i => by
    show (match keyEq P kt (enc x) (enc t.1) with | some true => some (some (i, t.2.1)) | some false => findL P kt (enc x) (encE enc r) (i + 1) | none => none) = _
    rw [hk, findE]
    by_cases h : x = t.1
    · rw [decide_eq_true h, if_pos h]
    · rw [decide_eq_false h, if_neg h]
      exact findL_enc hk x r (i + 1)
theorem findE_none {α : Type} [DecidableEq α] {x : α} : ∀ {l : List (MEnt α)} {i : Nat}, findE x l i = none → ∀ t ∈ l, t.1 ≠ x
  | [], _, _, t, h => by cases h
  | a :: r, i, hf, t, h => by
    rw [findE] at hf
    by_cases e : x = a.1
    · rw [if_pos e] at hf; cases hf
    · rw [if_neg e] at hf
      rcases List.mem_cons.1 h with rfl | h
      · exact fun q => e q.symm
      · exact findE_none hf t h
theorem findE_some {α : Type} [DecidableEq α] {x : α} : ∀ {l : List (MEnt α)} {i j : Nat} {v : Value}, findE x l i = some (j, v) → i ≤ j ∧ ∃ n, l[j - i]? = some (x, v, n)
  | [], _, _, _, h => by cases h
  | a :: r, i, j, v, hf => by
    rw [findE] at hf
    by_cases e : x = a.1
    · rw [if_pos e] at hf
      cases hf
      exact ⟨Nat.le_refl _, a.2.2, by rw [Nat.sub_self, List.getElem?_cons_zero, e]⟩
    · rw [if_neg e] at hf
      obtain ⟨h1, n, h2⟩ := findE_some hf
      refine ⟨by omega, n, ?_⟩
      have : j - i = (j - (i + 1)) + 1 := by omega
      rw [this, List.getElem?_cons_succ]
      exact h2
def SetM {α : Type} (enc : α → Value) (one : Value) (h : AH) (id : Nat) (S : α → Prop) : Prop :=
  ∃ (l : List (α × Nat)) (ck : Nat), h[id]? = some (.map (l.map fun t => (enc t.1, one, t.2)) ck) ∧ (∀ x, S x ↔ ∃ n, (x, n) ∈ l) ∧ (∀ t ∈ l, t.2 < ck) ∧ (∀ t ∈ l, ∀ u ∈ l, t.2 = u.2 → t = u) ∧ (∀ t ∈ l, ∀ u ∈ l, t.1 = u.1 → t = u)
theorem SetM.same {α : Type} {enc : α → Value} {one : Value} {h h' : AH} {id : Nat} {S : α → Prop} (hs : SetM enc one h id S) (hh : h'[id]? = h[id]?) : SetM enc one h' id S := by
  obtain ⟨l, ck, h1, h2⟩ := hs
  exact ⟨l, ck, hh.trans h1, h2⟩
theorem SetM.ex {α : Type} {enc : α → Value} {one : Value} {h h' : AH} {id : Nat} {S : α → Prop} (hs : SetM enc one h id S) (hx : Ex h h') : SetM enc one h' id S := by
  obtain ⟨l, ck, h1, h2⟩ := hs
  exact ⟨l, ck, hx.some h1, h2⟩
theorem SetM.lt {α : Type} {enc : α → Value} {one : Value} {h : AH} {id : Nat} {S : α → Prop} (hs : SetM enc one h id S) : id < h.length := by
  obtain ⟨l, ck, h1, h2⟩ := hs
  exact lt_of_get h1
theorem SetM.congr {α : Type} {enc : α → Value} {one : Value} {h : AH} {id : Nat} {S T : α → Prop} (hs : SetM enc one h id S) (hST : ∀ x, T x ↔ S x) : SetM enc one h id T := by
  obtain ⟨l, ck, h1, h2, h3⟩ := hs
  exact ⟨l, ck, h1, fun x => (hST x).trans (h2 x), h3⟩
theorem SetM.empty {α : Type} {enc : α → Value} {one : Value} {h : AH} {id : Nat} (hh : h[id]? = some (.map [] 0)) : SetM enc one h id fun _ => False :=
  ⟨[], 0, hh, fun x => by simp, (fun t ht => by cases ht), (fun t ht => by cases ht), fun t ht => by cases ht⟩
def IterM {α : Type} (enc : α → Value) (one : Value) (h : AH) (r id : Nat) (S D : α → Prop) (m : Nat) : Prop :=
  ∃ (l : List (α × Nat)) (ck : Nat) (seen : List Nat), h[id]? = some (.map (l.map fun t => (enc t.1, one, t.2)) ck) ∧ (∀ x, S x ↔ ∃ n, (x, n) ∈ l) ∧ (∀ t ∈ l, t.2 < ck) ∧ (∀ t ∈ l, ∀ u ∈ l, t.2 = u.2 → t = u) ∧
    h[r]? = some (.mapIter (some id) ck seen ck) ∧ (∀ x n, (x, n) ∈ l → n ∉ seen ∨ D x) ∧ (∀ x, D x → S x) ∧ (∀ t ∈ l, ∀ u ∈ l, t.1 = u.1 → t = u) ∧ (∀ x n, (x, n) ∈ l → D x → n ∈ seen) ∧ m = (l.filter fun t => !seen.contains t.2).length
theorem IterM.keep {α : Type} {enc : α → Value} {one : Value} {h h' : AH} {r id : Nat} {S D : α → Prop} {m : Nat} (hi : IterM enc one h r id S D m) (h1 : h'[id]? = h[id]?) (h2 : h'[r]? = h[r]?) : IterM enc one h' r id S D m := by
  obtain ⟨l, ck, seen, g1, g2, g3, g4, g5, g6⟩ := hi
  exact ⟨l, ck, seen, h1.trans g1, g2, g3, g4, h2.trans g5, g6⟩
theorem range_set {α : Type} {P : Program} {t kt et : TypeId} {enc : α → Value} {one : Value} (ht : P.underlying t = some (.map kt et)) {h : AH} {id : Nat} {S : α → Prop} {K : Value → AH → Prop} (hs : SetM enc one h id S)
    (k : ∀ o m, IterM enc one (h ++ [o]) h.length id S (fun _ => False) m → K (.pointer (some ⟨h.length, 0, none⟩)) (h ++ [o])) : aRange P t (.map (some id)) none h K := by
  obtain ⟨l, ck, h1, h2, h3, h4, h4k⟩ := hs
  unfold aRange
  simp only [ht, h1, newW]
  exact k _ _ ⟨l, ck, [], (Ex.app h _).some h1, h2, h3, h4, get_new _ _, fun x n hx => .inl (by simp), fun x hx => hx.elim, h4k, fun x n _ hx => hx.elim, rfl⟩
end Go.AM
namespace Go.AM
open Go
variable {P : Program}
theorem w_slnil {t e : TypeId} (ht : P.underlying t = some (.slice e)) {a : Option Addr} {n c : Nat} {K : Value → Prop} (k : K (.bool a.isNone)) : optW (pBin P .eql t (.slice a n c) (.slice none 0 0)) K := by
  refine w_some (v := .bool a.isNone) ?_ k
  show (pBinE P t (.slice a n c) (.slice none 0 0)).map Value.bool = _
  show (pNil P t (.slice a n c) (.slice none 0 0)).map Value.bool = _
  unfold pNil
  rw [ht]
  cases a <;> rfl
theorem clone_tail {s : Nat} {z : List Value} (hz : z.length = s) (hs : 0 < s) {h : AH} {v : Value} {n : Nat} {cs : List Value} {K : Value → AH → Prop} (hv : Sl s h v n cs) (hn : n < room40)
    (k : ∀ v' h', Ex h h' → Sl s h' v' n cs → (∀ j, onId v' j → h.length ≤ j ∧ j < h'.length) → K v' h') :
    optW (bldSl s z 0 []) fun c => newW none (.row c true) h fun i h_1 => appSl s (.slice (some ⟨i, 0, none⟩) 0 0) v h_1 fun v7 h_2 => K v7 h_2 := by
  have hb : bldSl s z 0 [] = some [] := by
    unfold bldSl
    rw [if_pos ⟨hz, by omega, by omega⟩]
    rfl
  refine w_some hb ?_
  refine n_new ?_
  have hx : Ex h (h ++ [AObj.row [] true]) := .app _ _
  refine appSl_sl (hv.ex hx) (.inl ?_)
  have hsrc := srcL_sl hs (hv.ex hx)
  have hroom : 0 + n < room40 := by omega
  by_cases n0 : n = 0
  · subst n0
    have hcs : cs = [] := List.eq_nil_of_length_eq_zero (by have := hv.1; omega)
    subst hcs
    have : pAppS s (.slice (some ⟨h.length, 0, none⟩) 0 0) v (h ++ [AObj.row [] true]) = some (.slice (some ⟨h.length, 0, none⟩) (0 + 0) 0, h ++ [AObj.row [] true]) := by
      unfold pAppS
      simp only [hsrc]
      rw [if_pos hroom, if_pos (by decide)]
      simp [pAppEx, stAt]
    rw [this]
    exact k _ _ hx ⟨by simp, .inr ⟨h.length, 0, 0, rfl, .inl ⟨by decide, Nat.le_refl _⟩, .inl rfl⟩⟩ fun j hj => by
      have : h.length = j := hj
      simp
      omega
  · have : pAppS s (.slice (some ⟨h.length, 0, none⟩) 0 0) v (h ++ [AObj.row [] true]) = some (.slice (some ⟨(h ++ [AObj.row [] true]).length, 0, none⟩) (0 + n) (openCap + s), (h ++ [AObj.row [] true]) ++ [AObj.row ([] ++ cs) true]) := by
      unfold pAppS
      simp only [hsrc]
      rw [if_pos hroom, if_pos (by decide)]
      simp only [pAppEx]
      rw [if_neg (by omega), Nat.zero_mul]
      simp [firstL]
    rw [this]
    refine k _ _ (hx.trans (.app _ _)) ⟨hv.1, .inr ⟨_, 0, _, by rw [Nat.zero_add], .inr rfl, .inr ⟨cs, true, ?_, by have := hv.1; omega, by rw [← hv.1]; simp⟩⟩⟩ fun j hj => ?_
    · rw [List.nil_append]; exact get_new _ _
    · have : (h ++ [AObj.row [] true]).length = j := hj
      simp at this
      simp
      omega
theorem getElem?_of_lt {α : Type} {l : List α} {i : Nat} (h : i < l.length) : ∃ x, l[i]? = some x := ⟨_, List.getElem?_eq_getElem h⟩
end Go.AM
namespace Go.AM
open Go
theorem n_var {c : List Value} {v : Value} {n : Nat} {h : AH} {K : Value → AH → Prop} (hc : c.length = n) (hv : (cellsL v).length = n) (h1 : (cellsL v).all (·.oneCell') = true)
    (k : ∀ h', Ex h h' → h'.length = h.length + 1 → h'[h.length]? = some (.row (cellsL v) true) → K (.pointer (some ⟨h.length, 0, none⟩)) h') : newR none c h fun p h2 => optW (pStore n p v h2) fun h3 => K p h3 := by
  refine n_row ?_
  refine w_stPA (get_new _ _) hv (by omega) h1 ?_
  refine k _ ((Ex.app _ _).set (Nat.le_refl _) _) (by simp) ?_
  rw [get_set _ (by simp)]
  congr 2
  unfold spliceL
  rw [List.take_zero, List.nil_append, Nat.zero_add, List.drop_of_length_le (by omega), List.append_nil]
theorem n_map0 {h : AH} {K : Nat → AH → Prop} (k : ∀ h', Ex h h' → h'.length = h.length + 1 → h'[h.length]? = some (.map [] 0) → K h.length h') : newW none (.map [] 0) h K :=
  k _ (Ex.app _ _) (by simp) (get_new _ _)
theorem n_boxv {v : Value} {h : AH} {K : Value → AH → Prop} (hv : (cellsL v).all (·.oneCell') = true) (k : ∀ h', Ex h h' → h'.length = h.length + 1 → h'[h.length]? = some (.row (cellsL v) true) → K (.pointer (some ⟨h.length, 0, none⟩)) h') : aBox v none h K :=
  n_box hv (k _ (Ex.app _ _) (by simp) (get_new _ _))
theorem Ex.lt {h h' : AH} (x : Ex h h') {i : Nat} (hi : i < h.length) : i < h'.length := Nat.lt_of_lt_of_le hi x.len
theorem Ex.below {a h h' : AH} (x : Ex a h) (hl : h.length ≤ h'.length) (hh : ∀ j, j < a.length → h'[j]? = h[j]?) : Ex a h' := ⟨Nat.le_trans x.len hl, fun j hj => (hh j hj).trans (x.get j hj)⟩
end Go.AM
end

section
/- Rules for walking through printed functions: maps of values; guards in regions that draw. Conditions: none. -/
namespace Go.AM
open Go
set_option linter.unusedVariables false
theorem gd_tt {p : Prop} [Decidable p] {f : (Value → AH → HT → ST → Prop) → Prop} {h : AH} {H : HT} {S : ST} {K : Value → AH → HT → ST → Prop} (hp : p) (k : f K) : gopD (gB (.bool (decide p)) true) f h H S K := by
  rw [decide_eq_true hp]; exact k
theorem gd_tf {p : Prop} [Decidable p] {f : (Value → AH → HT → ST → Prop) → Prop} {h : AH} {H : HT} {S : ST} {K : Value → AH → HT → ST → Prop} (hp : ¬ p) (k : K undef h H S) : gopD (gB (.bool (decide p)) true) f h H S K := by
  rw [decide_eq_false hp]; exact k
theorem gd_ft {p : Prop} [Decidable p] {f : (Value → AH → HT → ST → Prop) → Prop} {h : AH} {H : HT} {S : ST} {K : Value → AH → HT → ST → Prop} (hp : p) (k : K undef h H S) : gopD (gB (.bool (decide p)) false) f h H S K := by
  rw [decide_eq_true hp]; exact k
theorem gd_ff {p : Prop} [Decidable p] {f : (Value → AH → HT → ST → Prop) → Prop} {h : AH} {H : HT} {S : ST} {K : Value → AH → HT → ST → Prop} (hp : ¬ p) (k : f K) : gopD (gB (.bool (decide p)) false) f h H S K := by
  rw [decide_eq_false hp]; exact k
theorem gdc_tt {f : (Value → AH → HT → ST → Prop) → Prop} {h : AH} {H : HT} {S : ST} {K : Value → AH → HT → ST → Prop} (k : f K) : gopD (gB (.bool true) true) f h H S K := k
theorem gdc_tf {f : (Value → AH → HT → ST → Prop) → Prop} {h : AH} {H : HT} {S : ST} {K : Value → AH → HT → ST → Prop} (k : K undef h H S) : gopD (gB (.bool false) true) f h H S K := k
theorem gdc_ft {f : (Value → AH → HT → ST → Prop) → Prop} {h : AH} {H : HT} {S : ST} {K : Value → AH → HT → ST → Prop} (k : K undef h H S) : gopD (gB (.bool true) false) f h H S K := k
theorem gdc_ff {f : (Value → AH → HT → ST → Prop) → Prop} {h : AH} {H : HT} {S : ST} {K : Value → AH → HT → ST → Prop} (k : f K) : gopD (gB (.bool false) false) f h H S K := k
theorem hist_nil {b : Array Nat} {i : Nat} {xs : List Nat} {K : Prop} (k : K) : histC b i xs [] K := k
theorem pw_keys {α : Type} {l : List (MEnt α)} (hp : l.Pairwise fun t u => t.1 ≠ u.1) {i j : Nat} {t u : MEnt α} (hi : l[i]? = some t) (hj : l[j]? = some u) (he : t.1 = u.1) : i = j := by
  obtain ⟨h1, rfl⟩ := List.getElem?_eq_some_iff.1 hi
  obtain ⟨h2, rfl⟩ := List.getElem?_eq_some_iff.1 hj
  rcases Nat.lt_trichotomy i j with h | h | h
  · exact absurd he (List.pairwise_iff_getElem.1 hp i j h1 h2 h)
  · exact h
  · exact absurd he.symm (List.pairwise_iff_getElem.1 hp j i h2 h1 h)
theorem upd_rule {α : Type} [DecidableEq α] {P : Program} {t kt et : TypeId} {enc : α → Value} (ht : P.underlying t = some (.map kt et)) (hk : KeyOK P kt enc) {h : AH} {id : Nat} {l : List (MEnt α)} {ck : Nat} {x : α} {v : Value} {K : AH → Prop}
    (hm : h[id]? = some (.map (encE enc l) ck)) (hu : l.Pairwise fun t u => t.1 ≠ u.1)
    (k : ∀ (l' : List (MEnt α)) ck', (∀ t ∈ l', (t.1 = x ∧ t.2.1 = v) ∨ (t ∈ l ∧ t.1 ≠ x)) → (∃ t ∈ l', t.1 = x ∧ t.2.1 = v) → (∀ t ∈ l, t.1 ≠ x → t ∈ l') → (l'.Pairwise fun t u => t.1 ≠ u.1) → K (h.set id (.map (encE enc l') ck'))) :
    optW (pMapUpd P t (.map (some id)) (enc x) v h) K := by
  unfold pMapUpd
  simp only [ht, hm]
  rw [if_pos (hk.self x), findL_enc hk]
  cases hf : findE x l 0 with
  | none =>
    have hno := findE_none hf
    have e : encE enc l ++ [(enc x, v, ck)] = encE enc (l ++ [(x, v, ck)]) := by simp [encE]
    simp only [e]
    refine k _ _ (fun t ht => ?_) ⟨(x, v, ck), by simp, rfl, rfl⟩ (fun t ht _ => by simp [ht]) ?_
    · simp only [List.mem_append, List.mem_singleton] at ht
      rcases ht with ht | rfl
      · exact .inr ⟨ht, hno t ht⟩
      · exact .inl ⟨rfl, rfl⟩
    · rw [List.pairwise_append]
      refine ⟨hu, List.pairwise_singleton _ _, fun t ht u hu' => ?_⟩
      rw [List.mem_singleton.1 hu']
      exact hno t ht
  | some r =>
    obtain ⟨j, v0⟩ := r
    obtain ⟨_, n, hj⟩ := findE_some hf
    rw [Nat.sub_zero] at hj
    have e : (encE enc l).modify j (fun e => (e.1, v, e.2.2)) = encE enc (l.map fun t => if t.1 = x then (x, v, t.2.2) else t) := by
      apply List.ext_getElem?
      intro i
      rw [List.getElem?_modify]
      unfold encE
      rw [List.getElem?_map, List.map_map, List.getElem?_map]
      cases hi : l[i]? with
      | none => rfl
      | some t =>
        simp only [Option.map_some, Function.comp_apply, Option.map_eq_map]
        by_cases hij : j = i
        · subst hij
          rw [hj] at hi
          cases hi
          simp
        · have : t.1 ≠ x := fun e => hij (pw_keys hu hj hi e.symm)
          simp [this, hij]
    simp only [e]
    refine k _ _ (fun t ht => ?_) ⟨(x, v, n), List.mem_map.2 ⟨_, List.mem_of_getElem? hj, by simp⟩, rfl, rfl⟩ (fun t ht hne => List.mem_map.2 ⟨t, ht, by simp [hne]⟩) ?_
    · obtain ⟨u, hu', rfl⟩ := List.mem_map.1 ht
      by_cases hx : u.1 = x
      · rw [if_pos hx]; exact .inl ⟨rfl, rfl⟩
      · rw [if_neg hx]; exact .inr ⟨hu', hx⟩
    · rw [List.pairwise_map]
      refine hu.imp fun {a b} hab => ?_
      have g : ∀ t : MEnt α, (if t.1 = x then ((x, v, t.2.2) : MEnt α) else t).1 = t.1 := by
        intro t
        by_cases hx : t.1 = x
        · rw [if_pos hx]; exact hx.symm
        · rw [if_neg hx]
      rw [g, g]
      exact hab
end Go.AM
namespace Go.AM
open Go
theorem reserve_one (h : AH) : reserve 1 h = h ++ [.dead] := rfl
theorem reserve_set (h : AH) (o : AObj) : (reserve 1 h).set h.length o = h ++ [o] := by
  rw [reserve_one, List.set_append_right _ _ (Nat.le_refl _)]
  simp
theorem Ex.res (h : AH) : Ex h (reserve 1 h) := Ex.app _ _
end Go.AM
end

section
/- Rules of one's own for walks, of no program: slices that are empty or one's own, what changes, what stays. Conditions: none. -/
namespace Go.AM
open Go
set_option linter.unusedVariables false
set_option maxRecDepth 100000
abbrev I64 (n : Int) : Prop := -9223372036854775808 ≤ n ∧ n ≤ 9223372036854775807
def isSl (v : Value) : Prop := ∃ a n c, v = .slice a n c
theorem Sl.isSl {s : Nat} {h : AH} {v : Value} {n : Nat} {cs : List Value} (hv : Sl s h v n cs) : isSl v := by
  obtain ⟨a, c, e⟩ := hv.shape
  exact ⟨a, _, c, e⟩
theorem Sl.same {s : Nat} {h h' : AH} {v : Value} {n : Nat} {cs : List Value} (hv : Sl s h v n cs) (hh : ∀ j, onId v j → h'[j]? = h[j]?) : Sl s h' v n cs := by
  refine ⟨hv.1, ?_⟩
  rcases hv.2 with h1 | ⟨id, off, cap, rfl, h2, h3⟩
  · exact .inl h1
  · refine .inr ⟨id, off, cap, rfl, h2, ?_⟩
    rcases h3 with h3 | ⟨c, w, h3, h4⟩
    · exact .inl h3
    · exact .inr ⟨c, w, (hh id rfl).trans h3, h4⟩
theorem hist_all {b : Array Nat} {j : Nat} {xs : List Nat} {K : Prop} (k : K) : ∀ {H : HT}, (∀ t ∈ H, ∀ x ∈ xs, t.2.1[x]? = t.2.2[x]?) → histC b j xs H K
  | [], _ => k
  | t :: H, hall => by
    unfold histC
    split
    · exact ⟨hall t (by simp), hist_all k fun u hu => hall u (by simp [hu])⟩
    · exact hist_all k fun u hu => hall u (by simp [hu])
theorem read_all {b : Array Nat} {j : Nat} {hb ha : AH} {K : Prop} (k : K) : ∀ {S : ST}, (∀ t ∈ S, ∀ x ∈ t.2, hb[x]? = ha[x]?) → readC b j hb ha S K
  | [], _ => k
  | t :: S, hall => by
    unfold readC
    split
    · exact ⟨hall t (by simp), read_all k fun u hu => hall u (by simp [hu])⟩
    · exact read_all k fun u hu => hall u (by simp [hu])
theorem idrow {a b : AH} {i off : Nat} {o : AObj} (h1 : a[i]? = some o) (h2 : b[i]? = some o) : ∀ z ∈ idOf (.pointer (some ⟨i, off, none⟩)), a[z]? = b[z]? := by
  intro z hz
  have : z = i := List.mem_singleton.1 hz
  rw [this, h1, h2]
theorem n_rowv {c : List Value} {h : AH} {K : Value → AH → Prop} (k : ∀ h', Ex h h' → h'.length = h.length + 1 → h'[h.length]? = some (.row c true) → K (.pointer (some ⟨h.length, 0, none⟩)) h') : newR none c h K :=
  n_row (k _ (.app _ _) (by simp) (get_new _ _))
theorem n_newv {o : AObj} {h : AH} {K : Nat → AH → Prop} (k : ∀ h', Ex h h' → h'.length = h.length + 1 → h'[h.length]? = some o → K h.length h') : newW none o h K :=
  n_new (k _ (.app _ _) (by simp) (get_new _ _))
theorem hopt {α : Type} {o : Option α} {x : α} (ho : optW o fun y => y = x) : o = some x := by
  cases o with
  | none => exact ho.elim
  | some y => have : y = x := ho; rw [this]
def QS (s b : Nat) (h : AH) (v : Value) (n : Nat) (cs : List Value) : Prop := OwnSl s b h v n cs ∨ ∃ i, b ≤ i ∧ i < h.length ∧ v = .slice (some ⟨i, 0, none⟩) 0 0 ∧ n = 0 ∧ cs = []
theorem QS.sl {s b : Nat} {h : AH} {v : Value} {n : Nat} {cs : List Value} (q : QS s b h v n cs) : Sl s h v n cs := by
  rcases q with q | ⟨i, hb, hi, rfl, rfl, rfl⟩
  · exact q.sl
  · exact ⟨by simp, .inr ⟨i, 0, 0, rfl, .inl ⟨by decide, Nat.le_refl _⟩, .inl rfl⟩⟩
theorem QS.ex {s b : Nat} {h h' : AH} {v : Value} {n : Nat} {cs : List Value} (q : QS s b h v n cs) (x : Ex h h') : QS s b h' v n cs := by
  rcases q with q | ⟨i, hb, hi, e⟩
  · exact .inl (q.ex x)
  · exact .inr ⟨i, hb, x.lt hi, e⟩
theorem QS.low {s b : Nat} {h : AH} {v : Value} {n : Nat} {cs : List Value} (q : QS s b h v n cs) {j : Nat} (hj : onId v j) : b ≤ j := by
  rcases q with (⟨rfl, _⟩ | ⟨id, hb, rfl, _⟩) | ⟨i, hb, hi, rfl, _⟩
  · exact hj.elim
  · have : id = j := hj
    omega
  · have : i = j := hj
    omega
theorem n_res {o : AObj} {h : AH} {K : Nat → AH → Prop} (k : newW none o h K) : newW (some h.length) o (reserve 1 h) K := by
  refine n_slot ?_
  rw [reserve_set]
  exact k
theorem flat_snoc {α : Type} (enc : α → List Value) (l : List α) (x : α) : flat enc (l ++ [x]) = flat enc l ++ enc x := by rw [flat_append]; simp [flat]
structure Exx (i : Nat) (a b : AH) : Prop where
  len : a.length ≤ b.length
  get : ∀ j, j < a.length → j ≠ i → b[j]? = a[j]?
theorem Exx.refl (i : Nat) (a : AH) : Exx i a a := ⟨Nat.le_refl _, fun _ _ _ => rfl⟩
theorem Exx.ex {i : Nat} {a b c : AH} (x : Exx i a b) (y : Ex b c) : Exx i a c := ⟨Nat.le_trans x.len y.len, fun j hj hi => (y.get j (Nat.lt_of_lt_of_le hj x.len)).trans (x.get j hj hi)⟩
theorem Exx.trans {i : Nat} {a b c : AH} (x : Exx i a b) (y : Exx i b c) : Exx i a c := ⟨Nat.le_trans x.len y.len, fun j hj hi => (y.get j (Nat.lt_of_lt_of_le hj x.len) hi).trans (x.get j hj hi)⟩
theorem Exx.base {i : Nat} {h a b : AH} (x : Ex h a) (y : Exx i a b) (hi : h.length ≤ i) : Ex h b := ⟨Nat.le_trans x.len y.len, fun j hj => (y.get j (Nat.lt_of_lt_of_le hj x.len) (by omega)).trans (x.get j hj)⟩
theorem Exx.some {i : Nat} {a b : AH} (x : Exx i a b) {j : Nat} {o : AObj} (h : a[j]? = some o) (hj : j ≠ i) : b[j]? = some o := (x.get j (lt_of_get h) hj).trans h
theorem PtrTo.ids {h : AH} {p : Value} {cs : List Value} (hp : PtrTo h p cs) {a b : AH} (x : Ex h a) (y : Ex h b) : ∀ z ∈ idOf p, a[z]? = b[z]? := by
  obtain ⟨id, off, c, w, rfl, h1, h2⟩ := hp
  intro z hz
  have : z = id := List.mem_singleton.1 hz
  subst this
  rw [x.get _ (lt_of_get h1), y.get _ (lt_of_get h1)]
structure Chg (F : Nat → Prop) (h : AH) (F' : Nat → Prop) (h' : AH) : Prop where
  len : h.length ≤ h'.length
  get : ∀ j, j < h.length → ¬ F j → h'[j]? = h[j]?
  dom : ∀ j, F' j → F j ∨ h.length ≤ j
theorem Chg.refl (F : Nat → Prop) (h : AH) : Chg F h F h := ⟨Nat.le_refl _, fun _ _ _ => rfl, fun _ h => .inl h⟩
theorem Chg.trans {F F1 F2 : Nat → Prop} {h h1 h2 : AH} (a : Chg F h F1 h1) (b : Chg F1 h1 F2 h2) : Chg F h F2 h2 where
  len := Nat.le_trans a.len b.len
  get j hj hF := by
    rw [b.get j (Nat.lt_of_lt_of_le hj a.len) (fun h => (a.dom j h).elim hF (by omega)), a.get j hj hF]
  dom j hj := (b.dom j hj).elim (a.dom j) fun h => .inr (Nat.le_trans a.len h)
theorem Chg.ex {h h' : AH} {F : Nat → Prop} (x : Ex h h') : Chg F h F h' := ⟨x.len, fun j hj _ => x.get j hj, fun _ hj => .inl hj⟩
theorem Chg.low {h h1 h2 : AH} {F F' : Nat → Prop} (c : Chg F h1 F' h2) (x : Ex h h1) (hF : ∀ j, F j → h.length ≤ j) : ∀ j, F' j → h.length ≤ j :=
  fun j hj => (c.dom j hj).elim (hF j) fun h => Nat.le_trans x.len h
end Go.AM
end

section
/- A run ahead of kept places, whatever they hold: what was there stays. Conditions: none. -/
namespace Go.AM
open Go
variable {P : Program}
def hsD : Nat → HS
  | 0 => hs0
  | n + 1 => ⟨Tr.set .dead 40 (hsD n).t (hsD n).n, Nat.succ (hsD n).n⟩
theorem hsD_rep : ∀ n, n < 1000 → RepH (hsD n) (List.replicate n .dead)
  | 0, _ => hs0_rep
  | n + 1, h => by
    have ih := hsD_rep n (by omega)
    have := ih.push .dead (by rw [ih.n, List.length_replicate]; omega)
    rw [List.replicate_succ']
    exact this
theorem run_any {orc : Orc} (ho : OrcOK P orc) {fuel d : Nat} {f : FuncId} {args : List Value} (m : Nat) (hm : m < 1000) (hb : callB P orc fuel d f args (hsD m) (fun v _ => isTrueV v) = true) :
    ∀ h : AH, h.length = m → callW P f args h fun v h' => v = .bool true ∧ Ex h h' := by
  intro h hl
  have base : callW P f args (List.replicate m .dead) fun v _ => v = .bool true := callB_ok ho d f args _ _ _ _ (hsD_rep m hm) (fun _ _ _ _ hh => isTrueV_eq hh) hb
  have key : ∀ j, j ≤ m → callW P f args (h.take j ++ List.replicate (m - j) .dead) fun v h' => v = .bool true ∧ ∀ i, i < j → h'[i]? = h[i]? := by
    intro j
    induction j with
    | zero => intro _; exact callW_mono _ _ _ _ _ (fun v h' hv => ⟨hv, fun i hi => by omega⟩) (by simpa using base)
    | succ j ih =>
      intro hj
      have ih := ih (by omega)
      have hjl : j < h.length := by omega
      have hd : (h.take j ++ List.replicate (m - j) AObj.dead)[j]? = some .dead := by
        rw [List.getElem?_append_right (by simp; omega), List.length_take, Nat.min_eq_left (by omega), Nat.sub_self, List.getElem?_replicate, if_pos (by omega)]
      have fr := callW_frame _ _ _ _ j h[j] hd ih
      have e : (h.take j ++ List.replicate (m - j) AObj.dead).set j h[j] = h.take (j + 1) ++ List.replicate (m - (j + 1)) .dead := by
        have e2 : m - j = (m - (j + 1)) + 1 := by omega
        rw [e2, List.replicate_succ, List.set_append, if_neg (by simp; omega), List.length_take, Nat.min_eq_left (by omega), Nat.sub_self, List.set_cons_zero, List.take_succ_eq_append_getElem hjl, List.append_assoc]
        rfl
      rw [e] at fr
      refine callW_mono _ _ _ _ _ ?_ fr
      rintro v h'' ⟨h', rfl, hd', hv, hh⟩
      refine ⟨hv, fun i hi => ?_⟩
      by_cases hij : i = j
      · subst hij
        rw [get_set _ (lt_of_get hd'), List.getElem?_eq_getElem hjl]
      · rw [get_ne (Ne.symm hij)]
        exact hh i (by omega)
  have := key m (Nat.le_refl m)
  rw [Nat.sub_self, List.replicate_zero, List.append_nil, ← hl, List.take_length] at this
  refine callW_mono _ _ _ _ _ ?_ this
  rintro v h' ⟨hv, hh⟩
  refine ⟨hv, ?_, hh⟩
  rcases Nat.eq_zero_or_pos h.length with h0 | h0
  · omega
  · have h1 : h[h.length - 1]? = some (h[h.length - 1]'(by omega)) := List.getElem?_eq_getElem (by omega)
    have := lt_of_get ((hh (h.length - 1) (by omega)).trans h1)
    omega
end Go.AM
end

section
/- Machines of modules, plain: which states are reached, which are told apart, the classes' numbers, which words are taken. No program in sight. Conditions: none. -/
namespace FoldPM
set_option linter.unusedVariables false
structure PM where
  n : Nat
  k : Nat
  pl : Nat
  cl : Nat
  of : Nat → Int
  en : Nat → Nat
  fi : Nat → Bool
  inn : Nat → Nat → Nat
  low : Nat → Nat → Nat
  ret : Nat → Nat → Nat → Nat
structure PM.OK (M : PM) : Prop where
  n1 : 1 ≤ M.n
  k1 : 1 ≤ M.k
  of : ∀ p, p < M.n → 0 ≤ M.of p ∧ M.of p < (M.k : Int)
  en : ∀ c, c < M.k → M.en c < M.n ∧ M.of (M.en c) = (c : Int)
  inn : ∀ p i, p < M.n → i < M.pl → M.inn p i < M.n ∧ M.of (M.inn p i) = M.of p
  low : ∀ p j, p < M.n → M.of p = 0 → j < M.cl → M.low p j < M.n ∧ M.of (M.low p j) = 0
  ret : ∀ p j q, p < M.n → q < M.n → M.of p ≠ 0 → j < M.cl → M.ret p j q < M.n ∧ M.of (M.ret p j q) = M.of q
inductive Rch (M : PM) : Nat → Prop
  | en {c : Nat} (h : c < M.k) : Rch M (M.en c)
  | inn {p i : Nat} (hp : Rch M p) (hi : i < M.pl) : Rch M (M.inn p i)
  | low {p j : Nat} (hp : Rch M p) (h0 : M.of p = 0) (hj : j < M.cl) : Rch M (M.low p j)
  | ret {p q j : Nat} (hp : Rch M p) (hq : Rch M q) (h0 : M.of p ≠ 0) (hj : j < M.cl) : Rch M (M.ret p j q)
theorem Rch.lt {M : PM} (ok : M.OK) {p : Nat} (h : Rch M p) : p < M.n := by
  induction h with
  | en h => exact (ok.en _ h).1
  | inn _ hi ih => exact (ok.inn _ _ ih hi).1
  | low _ h0 hj ih => exact (ok.low _ _ ih h0 hj).1
  | ret _ _ h0 hj i1 i2 => exact (ok.ret _ _ _ i1 i2 h0 hj).1
def E (M : PM) : Nat → Nat → Nat → Prop
  | 0, p, q => M.of p = M.of q ∧ M.fi p = M.fi q
  | t + 1, p, q => E M t p q ∧ (∀ i, i < M.pl → E M t (M.inn p i) (M.inn q i)) ∧ (M.of p = 0 → ∀ j, j < M.cl → E M t (M.low p j) (M.low q j)) ∧
      (M.of p ≠ 0 → ∀ j, j < M.cl → ∀ x, Rch M x → E M t (M.ret p j x) (M.ret q j x)) ∧ (∀ x, Rch M x → M.of x ≠ 0 → ∀ j, j < M.cl → E M t (M.ret x j p) (M.ret x j q))
theorem E.le {M : PM} {s t p q : Nat} (hst : s ≤ t) (h : E M t p q) : E M s p q := by
  induction hst with
  | refl => exact h
  | step _ ih => exact ih h.1
theorem E.of {M : PM} {t p q : Nat} (h : E M t p q) : M.of p = M.of q := (E.le (Nat.zero_le t) h).1
theorem E.fi {M : PM} {t p q : Nat} (h : E M t p q) : M.fi p = M.fi q := (E.le (Nat.zero_le t) h).2
theorem E.refl (M : PM) : ∀ t p, E M t p p
  | 0, p => ⟨rfl, rfl⟩
  | t + 1, p => ⟨E.refl M t p, fun i _ => E.refl M t _, fun _ j _ => E.refl M t _, fun _ j _ x _ => E.refl M t _, fun x _ _ j _ => E.refl M t _⟩
theorem E.symm {M : PM} : ∀ {t p q}, E M t p q → E M t q p
  | 0, p, q, h => ⟨h.1.symm, h.2.symm⟩
  | t + 1, p, q, h => by
    have ho := E.of h
    exact ⟨h.1.symm, fun i hi => (h.2.1 i hi).symm, fun h0 j hj => (h.2.2.1 (ho.trans h0) j hj).symm, fun h0 j hj x hx => (h.2.2.2.1 (fun e => h0 (ho ▸ e)) j hj x hx).symm, fun x hx h0 j hj => (h.2.2.2.2 x hx h0 j hj).symm⟩
theorem E.trans {M : PM} : ∀ {t p q r}, E M t p q → E M t q r → E M t p r
  | 0, p, q, r, h, k => ⟨h.1.trans k.1, h.2.trans k.2⟩
  | t + 1, p, q, r, h, k => by
    have ho := E.of h
    exact ⟨h.1.trans k.1, fun i hi => (h.2.1 i hi).trans (k.2.1 i hi), fun h0 j hj => (h.2.2.1 h0 j hj).trans (k.2.2.1 (ho ▸ h0) j hj), fun h0 j hj x hx => (h.2.2.2.1 h0 j hj x hx).trans (k.2.2.2.1 (ho ▸ h0) j hj x hx), fun x hx h0 j hj => (h.2.2.2.2 x hx h0 j hj).trans (k.2.2.2.2 x hx h0 j hj)⟩
def EE (M : PM) (p q : Nat) : Prop := ∀ t, E M t p q
theorem EE.refl (M : PM) (p : Nat) : EE M p p := fun t => E.refl M t p
theorem EE.symm {M : PM} {p q : Nat} (h : EE M p q) : EE M q p := fun t => (h t).symm
theorem EE.trans {M : PM} {p q r : Nat} (h : EE M p q) (k : EE M q r) : EE M p r := fun t => (h t).trans (k t)
theorem EE.of {M : PM} {p q : Nat} (h : EE M p q) : M.of p = M.of q := E.of (h 0)
theorem EE.fi {M : PM} {p q : Nat} (h : EE M p q) : M.fi p = M.fi q := E.fi (h 0)
theorem EE.inn {M : PM} {p q i : Nat} (h : EE M p q) (hi : i < M.pl) : EE M (M.inn p i) (M.inn q i) := fun t => (h (t + 1)).2.1 i hi
theorem EE.low {M : PM} {p q j : Nat} (h : EE M p q) (h0 : M.of p = 0) (hj : j < M.cl) : EE M (M.low p j) (M.low q j) := fun t => (h (t + 1)).2.2.1 h0 j hj
theorem EE.ret {M : PM} {p q x y j : Nat} (h : EE M p q) (k : EE M x y) (h0 : M.of p ≠ 0) (hj : j < M.cl) (hx : Rch M x) (hq : Rch M q) : EE M (M.ret p j x) (M.ret q j y) := fun t =>
  ((h (t + 1)).2.2.2.1 h0 j hj x hx).trans ((k (t + 1)).2.2.2.2 q hq (h.of ▸ h0) j hj)
theorem E.stable {M : PM} {t : Nat} (st : ∀ p q, Rch M p → Rch M q → E M t p q → E M (t + 1) p q) : ∀ s p q, Rch M p → Rch M q → E M t p q → E M (t + s) p q
  | 0, _, _, _, _, h => h
  | s + 1, p, q, hp, hq, h => by
    have h1 := st p q hp hq h
    have ho := E.of h
    exact ⟨E.stable st s p q hp hq h, fun i hi => E.stable st s _ _ (.inn hp hi) (.inn hq hi) (h1.2.1 i hi), fun h0 j hj => E.stable st s _ _ (.low hp h0 hj) (.low hq (ho ▸ h0) hj) (h1.2.2.1 h0 j hj),
      fun h0 j hj x hx => E.stable st s _ _ (.ret hp hx h0 hj) (.ret hq hx (ho ▸ h0) hj) (h1.2.2.2.1 h0 j hj x hx), fun x hx h0 j hj => E.stable st s _ _ (.ret hx hp h0 hj) (.ret hx hq h0 hj) (h1.2.2.2.2 x hx h0 j hj)⟩
theorem EE.of_stable {M : PM} {t : Nat} (st : ∀ p q, Rch M p → Rch M q → E M t p q → E M (t + 1) p q) {p q : Nat} (hp : Rch M p) (hq : Rch M q) (h : E M t p q) : EE M p q := fun s => by
  have := E.stable st s p q hp hq h
  exact E.le (Nat.le_add_left s t) this
structure Canon (n : Nat) (R : Nat → Prop) (S : Nat → Nat → Prop) (c : List Int) (cnt : Nat) : Prop where
  len : c.length = n
  un : ∀ p, p < n → ¬ R p → c[p]? = some (-1)
  re : ∀ p, p < n → R p → ∃ d : Nat, d < cnt ∧ c[p]? = some (d : Int)
  eq : ∀ p q, p < n → q < n → R p → R q → (c[p]? = c[q]? ↔ S p q)
  first : ∀ (p d : Nat), p < n → c[p]? = some (d : Int) → ∀ e, e < d → ∃ q, q < p ∧ c[q]? = some (e : Int)
  all : ∀ d, d < cnt → ∃ p, p < n ∧ c[p]? = some (d : Int)
theorem Canon.nil (R : Nat → Prop) (S : Nat → Nat → Prop) : Canon 0 R S [] 0 :=
  ⟨rfl, fun p h => by omega, fun p h => by omega, fun p q h => by omega, fun p d h => by omega, fun d h => by omega⟩
theorem get_snoc {c : List Int} {x : Int} {p n : Nat} (hl : c.length = n) (hp : p < n) : (c ++ [x])[p]? = c[p]? := List.getElem?_append_left (by omega)
theorem get_last {c : List Int} {x : Int} {n : Nat} (hl : c.length = n) : (c ++ [x])[n]? = some x := by subst hl; simp
theorem Canon.reached {n cnt : Nat} {R : Nat → Prop} {S : Nat → Nat → Prop} {c : List Int} (C : Canon n R S c cnt) {p : Nat} (hp : p < n) {d : Nat} (h : c[p]? = some (d : Int)) : R p := by
  by_cases hr : R p
  · exact hr
  · have := C.un p hp hr
    rw [this] at h
    injection h with h
    omega
theorem Canon.out {n cnt : Nat} {R : Nat → Prop} {S : Nat → Nat → Prop} {c : List Int} (C : Canon n R S c cnt) (hr : ¬ R n) : Canon (n + 1) R S (c ++ [-1]) cnt := by
  have hl := C.len
  refine ⟨by simp [hl], fun p hp h => ?_, fun p hp h => ?_, fun p q hp hq h1 h2 => ?_, fun p d hp h e he => ?_, fun d hd => ?_⟩
  · by_cases e : p = n
    · subst e; exact get_last hl
    · rw [get_snoc hl (by omega)]; exact C.un p (by omega) h
  · have e : p ≠ n := fun e => hr (e ▸ h)
    rw [get_snoc hl (by omega)]; exact C.re p (by omega) h
  · have e : p ≠ n := fun e => hr (e ▸ h1)
    have e' : q ≠ n := fun e => hr (e ▸ h2)
    rw [get_snoc hl (by omega), get_snoc hl (by omega)]; exact C.eq p q (by omega) (by omega) h1 h2
  · by_cases e' : p = n
    · subst e'
      rw [get_last hl] at h
      injection h with h
      omega
    · rw [get_snoc hl (by omega)] at h
      obtain ⟨q, h1, h2⟩ := C.first p d (by omega) h e he
      exact ⟨q, h1, by rw [get_snoc hl (by omega)]; exact h2⟩
  · obtain ⟨p, h1, h2⟩ := C.all d hd
    exact ⟨p, by omega, by rw [get_snoc hl h1]; exact h2⟩
theorem Canon.old {n cnt d q : Nat} {R : Nat → Prop} {S : Nat → Nat → Prop} {c : List Int} (C : Canon n R S c cnt) (hr : R n) (sy : ∀ a b, S a b → S b a) (tr : ∀ a b c, S a b → S b c → S a c) (rf : ∀ a, S a a) (hq : q < n) (rq : R q) (hs : S n q) (hd : c[q]? = some (d : Int)) :
    Canon (n + 1) R S (c ++ [(d : Int)]) cnt := by
  have hl := C.len
  have key : ∀ p, p < n → R p → (c[p]? = some (d : Int) ↔ S p n) := fun p hp rp => by
    rw [← hd, C.eq p q hp hq rp rq]
    exact ⟨fun h => tr _ _ _ h (sy _ _ hs), fun h => tr _ _ _ h hs⟩
  refine ⟨by simp [hl], fun p hp h => ?_, fun p hp h => ?_, fun p r hp hr' h1 h2 => ?_, fun p d' hp h e he => ?_, fun d' hd' => ?_⟩
  · have e : p ≠ n := fun e => h (e ▸ hr)
    rw [get_snoc hl (by omega)]; exact C.un p (by omega) h
  · by_cases e : p = n
    · subst e
      obtain ⟨d', h1, h2⟩ := C.re q hq rq
      rw [hd] at h2
      injection h2 with h2
      exact ⟨d, by omega, get_last hl⟩
    · rw [get_snoc hl (by omega)]; exact C.re p (by omega) h
  · by_cases e : p = n
    · subst e
      by_cases e' : r = p
      · subst e'; exact ⟨fun _ => rf _, fun _ => rfl⟩
      · rw [get_last hl, get_snoc hl (by omega)]
        exact ⟨fun h => sy _ _ ((key r (by omega) h2).1 h.symm), fun h => ((key r (by omega) h2).2 (sy _ _ h)).symm⟩
    · by_cases e' : r = n
      · subst e'
        rw [get_last hl, get_snoc hl (by omega)]
        exact key p (by omega) h1
      · rw [get_snoc hl (by omega), get_snoc hl (by omega)]
        exact C.eq p r (by omega) (by omega) h1 h2
  · by_cases e' : p = n
    · subst e'
      rw [get_last hl] at h
      injection h with h
      obtain ⟨q', h1, h2⟩ := C.first q d' hq (by rw [hd, h]) e he
      exact ⟨q', by omega, by rw [get_snoc hl (by omega)]; exact h2⟩
    · rw [get_snoc hl (by omega)] at h
      obtain ⟨q, h1, h2⟩ := C.first p d' (by omega) h e he
      exact ⟨q, h1, by rw [get_snoc hl (by omega)]; exact h2⟩
  · obtain ⟨p, h1, h2⟩ := C.all d' hd'
    exact ⟨p, by omega, by rw [get_snoc hl h1]; exact h2⟩
theorem Canon.new {n cnt : Nat} {R : Nat → Prop} {S : Nat → Nat → Prop} {c : List Int} (C : Canon n R S c cnt) (hr : R n) (sy : ∀ a b, S a b → S b a) (rf : ∀ a, S a a) (hn : ∀ q, q < n → R q → ¬ S n q) :
    Canon (n + 1) R S (c ++ [(cnt : Int)]) (cnt + 1) := by
  have hl := C.len
  have key : ∀ p, p < n → R p → c[p]? ≠ some (cnt : Int) := fun p hp rp h => by
    obtain ⟨d, h1, h2⟩ := C.re p hp rp
    rw [h] at h2
    injection h2 with h2
    omega
  refine ⟨by simp [hl], fun p hp h => ?_, fun p hp h => ?_, fun p r hp hr' h1 h2 => ?_, fun p d' hp h e he => ?_, fun d' hd' => ?_⟩
  · have e : p ≠ n := fun e => h (e ▸ hr)
    rw [get_snoc hl (by omega)]; exact C.un p (by omega) h
  · by_cases e : p = n
    · subst e
      exact ⟨cnt, by omega, get_last hl⟩
    · obtain ⟨d, h1, h2⟩ := C.re p (by omega) h
      exact ⟨d, by omega, by rw [get_snoc hl (by omega)]; exact h2⟩
  · by_cases e : p = n
    · subst e
      by_cases e' : r = p
      · subst e'; exact ⟨fun _ => rf _, fun _ => rfl⟩
      · rw [get_last hl, get_snoc hl (by omega)]
        exact ⟨fun h => absurd h.symm (key r (by omega) h2), fun h => absurd h (hn r (by omega) h2)⟩
    · by_cases e' : r = n
      · subst e'
        rw [get_last hl, get_snoc hl (by omega)]
        exact ⟨fun h => absurd h (key p (by omega) h1), fun h => absurd (sy _ _ h) (hn p (by omega) h1)⟩
      · rw [get_snoc hl (by omega), get_snoc hl (by omega)]
        exact C.eq p r (by omega) (by omega) h1 h2
  · by_cases e' : p = n
    · subst e'
      rw [get_last hl] at h
      injection h with h
      obtain ⟨q', h1, h2⟩ := C.all e (by omega)
      exact ⟨q', by omega, by rw [get_snoc hl h1]; exact h2⟩
    · rw [get_snoc hl (by omega)] at h
      obtain ⟨q, h1, h2⟩ := C.first p d' (by omega) h e he
      exact ⟨q, h1, by rw [get_snoc hl (by omega)]; exact h2⟩
  · by_cases e : d' = cnt
    · subst e; exact ⟨n, by omega, get_last hl⟩
    · obtain ⟨p, h1, h2⟩ := C.all d' (by omega)
      exact ⟨p, by omega, by rw [get_snoc hl h1]; exact h2⟩
theorem Canon.congr {n cnt : Nat} {R R' : Nat → Prop} {S S' : Nat → Nat → Prop} {c : List Int} (C : Canon n R S c cnt) (hR : ∀ p, p < n → (R p ↔ R' p)) (hS : ∀ p q, p < n → q < n → R p → R q → (S p q ↔ S' p q)) : Canon n R' S' c cnt :=
  ⟨C.len, fun p hp h => C.un p hp fun h' => h ((hR p hp).1 h'), fun p hp h => C.re p hp ((hR p hp).2 h), fun p q hp hq h1 h2 => (C.eq p q hp hq ((hR p hp).2 h1) ((hR q hq).2 h2)).trans (hS p q hp hq ((hR p hp).2 h1) ((hR q hq).2 h2)), C.first, C.all⟩
theorem Canon.uniq {n cnt cnt' : Nat} {R : Nat → Prop} {S : Nat → Nat → Prop} {c c' : List Int} (A : Canon n R S c cnt) (B : Canon n R S c' cnt') : c = c' ∧ cnt = cnt' := by
  have key : ∀ p, p < n → c[p]? = c'[p]? := by
    intro p
    induction p using Nat.strongRecOn with
    | ind p ih =>
      intro hp
      by_cases hr : R p
      · obtain ⟨a, ha, ea⟩ := A.re p hp hr
        obtain ⟨b, hb, eb⟩ := B.re p hp hr
        rcases Nat.lt_trichotomy a b with h | h | h
        · obtain ⟨q, hq, eq⟩ := B.first p b hp eb a h
          have e1 := ih q hq (by omega)
          have rq := B.reached (by omega) eq
          have : S p q := (A.eq p q hp (by omega) hr rq).1 (by rw [ea, e1, eq])
          have := (B.eq p q hp (by omega) hr rq).2 this
          rw [eb, eq] at this
          injection this with this
          omega
        · rw [ea, eb, h]
        · obtain ⟨q, hq, eq⟩ := A.first p a hp ea b h
          have e1 := ih q hq (by omega)
          have rq := A.reached (by omega) eq
          have : S p q := (B.eq p q hp (by omega) hr rq).1 (by rw [eb, ← e1, eq])
          have := (A.eq p q hp (by omega) hr rq).2 this
          rw [ea, eq] at this
          injection this with this
          omega
      · rw [A.un p hp hr, B.un p hp hr]
  have e : c = c' := List.ext_getElem? fun p => by
    by_cases hp : p < n
    · exact key p hp
    · rw [List.getElem?_eq_none (by have := A.len; omega), List.getElem?_eq_none (by have := B.len; omega)]
  refine ⟨e, ?_⟩
  subst e
  rcases Nat.lt_trichotomy cnt cnt' with h | h | h
  · obtain ⟨p, hp, e⟩ := B.all cnt h
    obtain ⟨d, hd, e'⟩ := A.re p hp (B.reached hp e)
    rw [e] at e'
    injection e' with e'
    omega
  · exact h
  · obtain ⟨p, hp, e⟩ := A.all cnt' h
    obtain ⟨d, hd, e'⟩ := B.re p hp (A.reached hp e)
    rw [e] at e'
    injection e' with e'
    omega
theorem nodup_le {l : List Nat} : ∀ {m : List Nat}, l.Nodup → (∀ x ∈ l, x ∈ m) → l.length ≤ m.length := by
  induction l with
  | nil => intro m _ _; exact Nat.zero_le _
  | cons a l ih =>
    intro m hd hs
    have ha := hs a (by simp)
    obtain ⟨s, t, rfl⟩ := List.append_of_mem ha
    rw [List.nodup_cons] at hd
    have := ih (m := s ++ t) hd.2 fun x hx => by
      have := hs x (List.mem_cons_of_mem _ hx)
      rw [List.mem_append, List.mem_cons] at this
      rw [List.mem_append]
      rcases this with h | h | h
      · exact .inl h
      · subst h; exact absurd hx hd.1
      · exact .inr h
    simp only [List.length_append, List.length_cons] at this ⊢
    omega
theorem onto_le {a b : Nat} (f : Nat → Nat) (on : ∀ y, y < b → ∃ x, x < a ∧ f x = y) : b ≤ a := by
  have := nodup_le (l := List.range b) (m := (List.range a).map f) List.nodup_range fun y hy => by
    obtain ⟨x, h1, h2⟩ := on y (List.mem_range.1 hy)
    exact List.mem_map.2 ⟨x, List.mem_range.2 h1, h2⟩
  simpa using this
theorem onto_inj {a : Nat} (f : Nat → Nat) (on : ∀ y, y < a → ∃ x, x < a ∧ f x = y) {x x' : Nat} (hx : x < a) (hx' : x' < a) (h : f x = f x') : x = x' := by
  by_cases e : x = x'
  · exact e
  · exfalso
    have : a ≤ a - 1 := onto_le (a := a - 1) (b := a) (fun i => f (if i < x then i else i + 1)) fun y hy => by
      obtain ⟨z, h1, h2⟩ := on y hy
      have h3 : ∃ z, z < a ∧ z ≠ x ∧ f z = y := by
        by_cases ez : z = x
        · exact ⟨x', hx', fun h => e h.symm, by rw [← h, ← ez]; exact h2⟩
        · exact ⟨z, h1, ez, h2⟩
      obtain ⟨z, h1, hz, h2⟩ := h3
      by_cases hzx : z < x
      · exact ⟨z, by omega, by rw [if_pos hzx]; exact h2⟩
      · exact ⟨z - 1, by omega, by rw [if_neg (by omega), show z - 1 + 1 = z by omega]; exact h2⟩
    omega
theorem Canon.map {n cnt cnt' : Nat} {R : Nat → Prop} {S S' : Nat → Nat → Prop} {c c' : List Int} (A : Canon n R S c cnt) (B : Canon n R S' c' cnt') (fine : ∀ p q, p < n → q < n → R p → R q → S' p q → S p q) :
    ∃ f : Nat → Nat, ∀ p, p < n → R p → ∀ d d' : Nat, c[p]? = some (d : Int) → c'[p]? = some (d' : Int) → f d' = d := by
  refine ⟨fun d' => match (List.range n).find? (fun p => decide (c'[p]? = some (d' : Int))) with
    | some p => ((c[p]?).getD 0).toNat
    | none => 0, fun p hp hr d d' h h' => ?_⟩
  cases hf : (List.range n).find? (fun p => decide (c'[p]? = some (d' : Int))) with
  | none =>
    rw [List.find?_eq_none] at hf
    have := hf p (List.mem_range.2 hp)
    simp [h'] at this
  | some q =>
    have h1 := List.find?_some hf
    have h2 := List.mem_of_find?_eq_some hf
    have hq := List.mem_range.1 h2
    have h3 : c'[q]? = some (d' : Int) := by simpa using h1
    have rq := B.reached hq h3
    have := fine p q hp hq hr rq ((B.eq p q hp hq hr rq).1 (by rw [h', h3]))
    have := (A.eq p q hp hq hr rq).2 this
    rw [h] at this
    dsimp only
    rw [hf]
    dsimp only
    rw [← this]
    rfl
theorem Canon.mono {n cnt cnt' : Nat} {R : Nat → Prop} {S S' : Nat → Nat → Prop} {c c' : List Int} (A : Canon n R S c cnt) (B : Canon n R S' c' cnt') (fine : ∀ p q, p < n → q < n → R p → R q → S' p q → S p q) :
    cnt ≤ cnt' ∧ (cnt = cnt' → ∀ p q, p < n → q < n → R p → R q → S p q → S' p q) := by
  obtain ⟨f, hf⟩ := A.map B fine
  have on : ∀ y, y < cnt → ∃ x, x < cnt' ∧ f x = y := fun y hy => by
    obtain ⟨p, hp, e⟩ := A.all y hy
    have hr := A.reached hp e
    obtain ⟨d, hd, e'⟩ := B.re p hp hr
    exact ⟨d, hd, hf p hp hr y d e e'⟩
  refine ⟨onto_le f on, fun e p q hp hq rp rq hs => ?_⟩
  subst e
  obtain ⟨a, ha, ea⟩ := A.re p hp rp
  obtain ⟨b, hb, eb⟩ := B.re p hp rp
  obtain ⟨b', hb', eb'⟩ := B.re q hq rq
  have ea' := (A.eq p q hp hq rp rq).2 hs
  rw [ea] at ea'
  have : b = b' := onto_inj f on hb hb' ((hf p hp rp a b ea eb).trans (hf q hq rq a b' ea'.symm eb').symm)
  exact (B.eq p q hp hq rp rq).1 (by rw [eb, eb', this])
theorem Canon.le {n cnt : Nat} {R : Nat → Prop} {S : Nat → Nat → Prop} {c : List Int} (A : Canon n R S c cnt) : cnt ≤ n := by
  refine onto_le (fun p => ((c[p]?).getD 0).toNat) fun d hd => ?_
  obtain ⟨p, hp, e⟩ := A.all d hd
  exact ⟨p, hp, by show ((c[p]?).getD 0).toNat = d; rw [e]; rfl⟩
def tk (M : PM) : List Nat → Nat → List (Int × Int) → Bool
  | _, p, [] => M.fi p
  | s, p, x :: w =>
    if x.1 = 1 ∧ 0 ≤ x.2 ∧ x.2 < (M.k : Int) - 1 then tk M (s ++ [p]) (M.en (x.2.toNat + 1)) w
    else if x.1 = 3 ∧ 0 ≤ x.2 ∧ x.2 < (M.pl : Int) then tk M s (M.inn p x.2.toNat) w
    else if x.1 = 2 ∧ 0 ≤ x.2 ∧ x.2 < (M.cl : Int) then
      match s.getLast? with
      | none => tk M s (M.low p x.2.toNat) w
      | some q => tk M s.dropLast (M.ret p x.2.toNat q) w
    else false
def takes (M : PM) (w : List (Int × Int)) : Bool := tk M [] (M.en 0) w
end FoldPM
end

section
/- Machines of modules, plain: what was pushed; words and states that are not told apart. No program in sight. Conditions: none. -/
namespace FoldPM
set_option linter.unusedVariables false
structure CI (M : PM) (s : List Nat) (p : Nat) : Prop where
  lt : p < M.n
  z : M.of p = 0 ↔ s = []
  st : ∀ (i q : Nat), s[i]? = some q → q < M.n ∧ (M.of q = 0 ↔ i = 0)
theorem CI.start {M : PM} (ok : M.OK) {p : Nat} (hp : p < M.n) (h0 : M.of p = 0) : CI M [] p := ⟨hp, ⟨fun _ => rfl, fun _ => h0⟩, fun i q h => by simp at h⟩
theorem CI.push {M : PM} (ok : M.OK) {s : List Nat} {p c : Nat} (h : CI M s p) (hc : c + 1 < M.k) : CI M (s ++ [p]) (M.en (c + 1)) := by
  have := ok.en _ hc
  refine ⟨this.1, ⟨fun h => by omega, fun h => by simp at h⟩, fun i q hq => ?_⟩
  by_cases hi : i < s.length
  · rw [List.getElem?_append_left hi] at hq
    exact h.st i q hq
  · have := (List.getElem?_eq_some_iff.1 hq).1
    simp only [List.length_append, List.length_cons, List.length_nil] at this
    have e : i = s.length := by omega
    subst e
    simp at hq
    subst hq
    refine ⟨h.lt, h.z.trans ⟨fun e => by rw [e]; rfl, fun e => List.eq_nil_of_length_eq_zero e⟩⟩
theorem CI.inn {M : PM} (ok : M.OK) {s : List Nat} {p i : Nat} (h : CI M s p) (hi : i < M.pl) : CI M s (M.inn p i) := by
  have := ok.inn p i h.lt hi
  exact ⟨this.1, by rw [this.2]; exact h.z, h.st⟩
theorem CI.low {M : PM} (ok : M.OK) {p j : Nat} (h : CI M [] p) (hj : j < M.cl) : CI M [] (M.low p j) := by
  have := ok.low p j h.lt (h.z.2 rfl) hj
  exact ⟨this.1, ⟨fun _ => rfl, fun _ => this.2⟩, h.st⟩
theorem last_get {s : List Nat} {q : Nat} (h : s.getLast? = some q) : s[s.length - 1]? = some q := by
  rw [List.getLast?_eq_getElem?] at h
  exact h
theorem CI.pop {M : PM} (ok : M.OK) {s : List Nat} {p q j : Nat} (h : CI M s p) (hq : s.getLast? = some q) (hj : j < M.cl) : CI M s.dropLast (M.ret p j q) := by
  have hg := last_get hq
  have hl := (List.getElem?_eq_some_iff.1 hg).1
  have hs := h.st _ _ hg
  have h0 : M.of p ≠ 0 := fun e => by rw [h.z.1 e] at hl; simp at hl
  have r := ok.ret p j q h.lt hs.1 h0 hj
  refine ⟨r.1, ?_, fun i x hx => ?_⟩
  · rw [r.2, hs.2]
    constructor
    · intro e
      apply List.eq_nil_of_length_eq_zero
      rw [List.length_dropLast]; omega
    · intro e
      have := congrArg List.length e
      rw [List.length_dropLast] at this
      simpa using this
  · rw [List.getElem?_dropLast] at hx
    split at hx
    · exact h.st i x hx
    · cases hx
structure Bis (M N : PM) (R : Nat → Nat → Prop) : Prop where
  k : M.k = N.k
  pl : M.pl = N.pl
  cl : M.cl = N.cl
  of : ∀ p q, R p q → M.of p = N.of q
  fi : ∀ p q, R p q → M.fi p = N.fi q
  en : ∀ c, 1 ≤ c → c < M.k → R (M.en c) (N.en c)
  inn : ∀ p q i, R p q → i < M.pl → R (M.inn p i) (N.inn q i)
  low : ∀ p q j, R p q → M.of p = 0 → j < M.cl → R (M.low p j) (N.low q j)
  ret : ∀ p q x y j, R p q → R x y → M.of p ≠ 0 → j < M.cl → R (M.ret p j x) (N.ret q j y)
theorem tk_bis {M N : PM} {R : Nat → Nat → Prop} (okM : M.OK) (B : Bis M N R) : ∀ (w : List (Int × Int)) (s t : List Nat) (p q : Nat), CI M s p → R p q → s.length = t.length → (∀ (i x y : Nat), s[i]? = some x → t[i]? = some y → R x y) → tk M s p w = tk N t q w
  | [], s, t, p, q, ci, r, hl, hs => B.fi p q r
  | x :: w, s, t, p, q, ci, r, hl, hs => by
    simp only [tk, ← B.k, ← B.pl, ← B.cl]
    split
    · rename_i h
      refine tk_bis okM B w _ _ _ _ (ci.push okM (by omega)) (B.en _ (by omega) (by omega)) (by simp [hl]) fun i a b ha hb => ?_
      by_cases hi : i < s.length
      · rw [List.getElem?_append_left hi] at ha
        rw [List.getElem?_append_left (by omega)] at hb
        exact hs i a b ha hb
      · have h1 := (List.getElem?_eq_some_iff.1 ha).1
        simp only [List.length_append, List.length_cons, List.length_nil] at h1
        have e : i = s.length := by omega
        subst e
        rw [List.getElem?_append_right (Nat.le_refl _)] at ha
        rw [List.getElem?_append_right (by omega), hl] at hb
        simp at ha hb
        rw [← ha, ← hb]
        exact r
    · split
      · rename_i h
        exact tk_bis okM B w _ _ _ _ (ci.inn okM (by omega)) (B.inn _ _ _ r (by omega)) hl hs
      · split
        · rename_i h
          have g : s.getLast? = s[s.length - 1]? := List.getLast?_eq_getElem?
          have g' : t.getLast? = t[t.length - 1]? := List.getLast?_eq_getElem?
          cases hg : s.getLast? with
          | none =>
            have s0 : s = [] := List.getLast?_eq_none_iff.1 hg
            subst s0
            have t0 : t = [] := List.eq_nil_of_length_eq_zero (by simpa using hl.symm)
            subst t0
            exact tk_bis okM B w _ _ _ _ (ci.low okM (by omega)) (B.low _ _ _ r (ci.z.2 rfl) (by omega)) rfl hs
          | some a =>
            have ga := last_get hg
            have la := (List.getElem?_eq_some_iff.1 ga).1
            have lb : t.length - 1 < t.length := by omega
            have gb : t.getLast? = some (t[t.length - 1]) := by rw [g', List.getElem?_eq_getElem lb]
            rw [gb]
            have h0 : M.of p ≠ 0 := fun e => by rw [ci.z.1 e] at la; simp at la
            have hr := hs (s.length - 1) a (t[t.length - 1]) ga (by rw [hl]; exact List.getElem?_eq_getElem lb)
            refine tk_bis okM B w _ _ _ _ (ci.pop okM hg (by omega)) (B.ret _ _ _ _ _ r hr h0 (by omega)) (by simp [hl]) fun i x y hx hy => ?_
            rw [List.getElem?_dropLast] at hx hy
            split at hx
            · split at hy
              · exact hs i x y hx hy
              · cases hy
            · cases hx
        · rfl
theorem EE.bis {M : PM} (ok : M.OK) : Bis M M fun p q => EE M p q ∧ Rch M p ∧ Rch M q :=
  ⟨rfl, rfl, rfl, fun p q h => h.1.of, fun p q h => h.1.fi, fun c _ hc => ⟨EE.refl M _, .en hc, .en hc⟩, fun p q i h hi => ⟨h.1.inn hi, .inn h.2.1 hi, .inn h.2.2 hi⟩,
   fun p q j h h0 hj => ⟨h.1.low h0 hj, .low h.2.1 h0 hj, .low h.2.2 (h.1.of ▸ h0) hj⟩, fun p q x y j h k h0 hj => ⟨h.1.ret k.1 h0 hj k.2.1 h.2.2, .ret h.2.1 k.2.1 h0 hj, .ret h.2.2 k.2.2 (h.1.of ▸ h0) hj⟩⟩
structure Quot (M N : PM) (c : Nat → Nat) : Prop where
  k : N.k = M.k
  pl : N.pl = M.pl
  cl : N.cl = M.cl
  on : ∀ d, d < N.n → ∃ p, Rch M p ∧ c p = d
  lt : ∀ p, Rch M p → c p < N.n
  cc : ∀ p q, Rch M p → Rch M q → (c p = c q ↔ EE M p q)
  of : ∀ p, Rch M p → N.of (c p) = M.of p
  fi : ∀ p, Rch M p → N.fi (c p) = M.fi p
  en : ∀ i, i < M.k → N.en i = c (M.en i)
  inn : ∀ p i, Rch M p → i < M.pl → N.inn (c p) i = c (M.inn p i)
  low : ∀ p j, Rch M p → M.of p = 0 → j < M.cl → N.low (c p) j = c (M.low p j)
  ret : ∀ p j x, Rch M p → Rch M x → M.of p ≠ 0 → j < M.cl → N.ret (c p) j (c x) = c (M.ret p j x)
theorem Quot.reach {M N : PM} {c : Nat → Nat} (Q : Quot M N c) {p : Nat} (h : Rch M p) : Rch N (c p) := by
  induction h with
  | en h => rw [← Q.en _ h]; exact .en (by rw [Q.k]; exact h)
  | inn hp hi ih => rw [← Q.inn _ _ hp hi]; exact .inn ih (by rw [Q.pl]; exact hi)
  | low hp h0 hj ih => rw [← Q.low _ _ hp h0 hj]; exact .low ih (by rw [Q.of _ hp]; exact h0) (by rw [Q.cl]; exact hj)
  | ret hp hq h0 hj i1 i2 => rw [← Q.ret _ _ _ hp hq h0 hj]; exact .ret i1 i2 (by rw [Q.of _ hp]; exact h0) (by rw [Q.cl]; exact hj)
theorem Quot.ok {M N : PM} {c : Nat → Nat} (ok : M.OK) (Q : Quot M N c) : N.OK := by
  have of' : ∀ d, d < N.n → 0 ≤ N.of d ∧ N.of d < (N.k : Int) := fun d hd => by
    obtain ⟨p, hp, rfl⟩ := Q.on d hd
    rw [Q.of p hp, Q.k]
    exact ok.of p (hp.lt ok)
  refine ⟨?_, by rw [Q.k]; exact ok.k1, of', fun i hi => ?_, fun d i hd hi => ?_, fun d j hd h0 hj => ?_, fun d j x hd hx h0 hj => ?_⟩
  · have := Q.lt _ (.en (show 0 < M.k from ok.k1))
    omega
  · rw [Q.k] at hi
    rw [Q.en i hi]
    exact ⟨Q.lt _ (.en hi), by rw [Q.of _ (.en hi)]; exact (ok.en i hi).2⟩
  · obtain ⟨p, hp, rfl⟩ := Q.on d hd
    rw [Q.pl] at hi
    rw [Q.inn p i hp hi]
    exact ⟨Q.lt _ (.inn hp hi), by rw [Q.of _ (.inn hp hi), Q.of _ hp]; exact (ok.inn p i (hp.lt ok) hi).2⟩
  · obtain ⟨p, hp, rfl⟩ := Q.on d hd
    rw [Q.cl] at hj
    rw [Q.of _ hp] at h0
    rw [Q.low p j hp h0 hj]
    exact ⟨Q.lt _ (.low hp h0 hj), by rw [Q.of _ (.low hp h0 hj)]; exact (ok.low p j (hp.lt ok) h0 hj).2⟩
  · obtain ⟨p, hp, rfl⟩ := Q.on d hd
    obtain ⟨y, hy, rfl⟩ := Q.on x hx
    rw [Q.cl] at hj
    rw [Q.of _ hp] at h0
    rw [Q.ret p j y hp hy h0 hj]
    exact ⟨Q.lt _ (.ret hp hy h0 hj), by rw [Q.of _ (.ret hp hy h0 hj), Q.of _ hy]; exact (ok.ret p j y (hp.lt ok) (hy.lt ok) h0 hj).2⟩
theorem Quot.bis {M N : PM} {c : Nat → Nat} (Q : Quot M N c) : Bis M N fun p d => Rch M p ∧ d = c p :=
  ⟨Q.k.symm, Q.pl.symm, Q.cl.symm, fun p d ⟨h, e⟩ => by rw [e, Q.of p h], fun p d ⟨h, e⟩ => by rw [e, Q.fi p h], fun i _ hi => ⟨.en hi, Q.en i hi⟩,
   fun p d i ⟨h, e⟩ hi => ⟨.inn h hi, by rw [e, Q.inn p i h hi]⟩, fun p d j ⟨h, e⟩ h0 hj => ⟨.low h h0 hj, by rw [e, Q.low p j h h0 hj]⟩,
   fun p d x y j ⟨h, e⟩ ⟨h', e'⟩ h0 hj => ⟨.ret h h' h0 hj, by rw [e, e', Q.ret p j x h h' h0 hj]⟩⟩
theorem Quot.takes {M N : PM} {c : Nat → Nat} (ok : M.OK) (Q : Quot M N c) (w : List (Int × Int)) : takes M w = takes N w := by
  unfold FoldPM.takes
  have h := ok.en 0 ok.k1
  exact tk_bis ok Q.bis w [] [] _ _ (.start ok h.1 (by have := h.2; simpa using this)) ⟨.en ok.k1, Q.en 0 ok.k1⟩ rfl fun i x y hx => by simp at hx
theorem Quot.reached {M N : PM} {c : Nat → Nat} (Q : Quot M N c) {d : Nat} (hd : d < N.n) : Rch N d := by
  obtain ⟨p, hp, rfl⟩ := Q.on d hd
  exact Q.reach hp
theorem Quot.E {M N : PM} {c : Nat → Nat} (ok : M.OK) (Q : Quot M N c) : ∀ t p q, Rch M p → Rch M q → (FoldPM.E N t (c p) (c q) ↔ FoldPM.E M t p q)
  | 0, p, q, hp, hq => by
    show (N.of (c p) = N.of (c q) ∧ N.fi (c p) = N.fi (c q)) ↔ (M.of p = M.of q ∧ M.fi p = M.fi q)
    rw [Q.of p hp, Q.of q hq, Q.fi p hp, Q.fi q hq]
  | t + 1, p, q, hp, hq => by
    have ih := Quot.E ok Q t
    constructor
    · intro h
      have h1 := (ih p q hp hq).1 h.1
      have ho := FoldPM.E.of h1
      refine ⟨h1, fun i hi => ?_, fun h0 j hj => ?_, fun h0 j hj x hx => ?_, fun x hx h0 j hj => ?_⟩
      · have := h.2.1 i (by rw [Q.pl]; exact hi)
        rw [Q.inn p i hp hi, Q.inn q i hq hi] at this
        exact (ih _ _ (.inn hp hi) (.inn hq hi)).1 this
      · have := h.2.2.1 (by rw [Q.of p hp]; exact h0) j (by rw [Q.cl]; exact hj)
        rw [Q.low p j hp h0 hj, Q.low q j hq (ho ▸ h0) hj] at this
        exact (ih _ _ (.low hp h0 hj) (.low hq (ho ▸ h0) hj)).1 this
      · have := h.2.2.2.1 (by rw [Q.of p hp]; exact h0) j (by rw [Q.cl]; exact hj) (c x) (Q.reach hx)
        rw [Q.ret p j x hp hx h0 hj, Q.ret q j x hq hx (ho ▸ h0) hj] at this
        exact (ih _ _ (.ret hp hx h0 hj) (.ret hq hx (ho ▸ h0) hj)).1 this
      · have := h.2.2.2.2 (c x) (Q.reach hx) (by rw [Q.of x hx]; exact h0) j (by rw [Q.cl]; exact hj)
        rw [Q.ret x j p hx hp h0 hj, Q.ret x j q hx hq h0 hj] at this
        exact (ih _ _ (.ret hx hp h0 hj) (.ret hx hq h0 hj)).1 this
    · intro h
      have ho := FoldPM.E.of h.1
      refine ⟨(ih p q hp hq).2 h.1, fun i hi => ?_, fun h0 j hj => ?_, fun h0 j hj d hd => ?_, fun d hd h0 j hj => ?_⟩
      · rw [Q.pl] at hi
        rw [Q.inn p i hp hi, Q.inn q i hq hi]
        exact (ih _ _ (.inn hp hi) (.inn hq hi)).2 (h.2.1 i hi)
      · rw [Q.of p hp] at h0
        rw [Q.cl] at hj
        rw [Q.low p j hp h0 hj, Q.low q j hq (ho ▸ h0) hj]
        exact (ih _ _ (.low hp h0 hj) (.low hq (ho ▸ h0) hj)).2 (h.2.2.1 h0 j hj)
      · rw [Q.of p hp] at h0
        rw [Q.cl] at hj
        obtain ⟨x, hx, rfl⟩ := Q.on d (hd.lt (Q.ok ok))
        rw [Q.ret p j x hp hx h0 hj, Q.ret q j x hq hx (ho ▸ h0) hj]
        exact (ih _ _ (.ret hp hx h0 hj) (.ret hq hx (ho ▸ h0) hj)).2 (h.2.2.2.1 h0 j hj x hx)
      · rw [Q.cl] at hj
        obtain ⟨x, hx, rfl⟩ := Q.on d (hd.lt (Q.ok ok))
        rw [Q.of x hx] at h0
        rw [Q.ret x j p hx hp h0 hj, Q.ret x j q hx hq h0 hj]
        exact (ih _ _ (.ret hx hp h0 hj) (.ret hx hq h0 hj)).2 (h.2.2.2.2 x hx h0 j hj)
end FoldPM
end

section
/- Machines of modules, plain: each state there twice. No program in sight. Conditions: none. -/
namespace FoldPM
set_option linter.unusedVariables false
structure Dbl (M N : PM) : Prop where
  n : N.n = 2 * M.n
  k : N.k = M.k
  pl : N.pl = M.pl
  cl : N.cl = M.cl
  of : ∀ p, p < N.n → N.of p = M.of (p % M.n)
  fi : ∀ p, p < N.n → N.fi p = M.fi (p % M.n)
  en : ∀ c, c < M.k → N.en c = M.en c
  inn : ∀ p i, p < N.n → i < M.pl → N.inn p i < N.n ∧ N.inn p i % M.n = M.inn (p % M.n) i
  low : ∀ p j, p < N.n → M.of (p % M.n) = 0 → j < M.cl → N.low p j < N.n ∧ N.low p j % M.n = M.low (p % M.n) j
  ret : ∀ p j q, p < N.n → q < N.n → M.of (p % M.n) ≠ 0 → j < M.cl → N.ret p j q < N.n ∧ N.ret p j q % M.n = M.ret (p % M.n) j (q % M.n)
variable {M N : PM}
theorem Dbl.ok (ok : M.OK) (D : Dbl M N) : N.OK := by
  have n1 := ok.n1
  have md : ∀ p, p % M.n < M.n := fun p => Nat.mod_lt _ n1
  refine ⟨by rw [D.n]; omega, by rw [D.k]; exact ok.k1, fun p hp => by rw [D.of p hp, D.k]; exact ok.of _ (md p), fun c hc => ?_, fun p i hp hi => ?_, fun p j hp h0 hj => ?_, fun p j q hp hq h0 hj => ?_⟩
  · rw [D.k] at hc
    have h := ok.en c hc
    rw [D.en c hc]
    refine ⟨by rw [D.n]; omega, ?_⟩
    rw [D.of _ (by rw [D.n]; omega), Nat.mod_eq_of_lt h.1]
    exact h.2
  · rw [D.pl] at hi
    have h := D.inn p i hp hi
    exact ⟨h.1, by rw [D.of _ h.1, h.2, D.of p hp]; exact (ok.inn _ _ (md p) hi).2⟩
  · rw [D.cl] at hj
    rw [D.of p hp] at h0
    have h := D.low p j hp h0 hj
    exact ⟨h.1, by rw [D.of _ h.1, h.2]; exact (ok.low _ _ (md p) h0 hj).2⟩
  · rw [D.cl] at hj
    rw [D.of p hp] at h0
    have h := D.ret p j q hp hq h0 hj
    exact ⟨h.1, by rw [D.of _ h.1, h.2, D.of q hq]; exact (ok.ret _ _ _ (md p) (md q) h0 hj).2⟩
theorem Dbl.rch (ok : M.OK) (D : Dbl M N) {p : Nat} (h : Rch N p) : Rch M (p % M.n) := by
  have okN := D.ok ok
  induction h with
  | en h =>
    rw [D.k] at h
    rw [D.en _ h, Nat.mod_eq_of_lt (ok.en _ h).1]
    exact .en h
  | inn hp hi ih =>
    rw [D.pl] at hi
    rw [(D.inn _ _ (hp.lt okN) hi).2]
    exact .inn ih hi
  | low hp h0 hj ih =>
    rw [D.cl] at hj
    rw [D.of _ (hp.lt okN)] at h0
    rw [(D.low _ _ (hp.lt okN) h0 hj).2]
    exact .low ih h0 hj
  | ret hp hq h0 hj i1 i2 =>
    rw [D.cl] at hj
    rw [D.of _ (hp.lt okN)] at h0
    rw [(D.ret _ _ _ (hp.lt okN) (hq.lt okN) h0 hj).2]
    exact .ret i1 i2 h0 hj
theorem Dbl.onto (ok : M.OK) (D : Dbl M N) {p : Nat} (h : Rch M p) : ∃ p', Rch N p' ∧ p' % M.n = p := by
  have okN := D.ok ok
  induction h with
  | en h => exact ⟨N.en _, .en (by rw [D.k]; exact h), by rw [D.en _ h]; exact Nat.mod_eq_of_lt (ok.en _ h).1⟩
  | inn hp hi ih =>
    obtain ⟨p', r, rfl⟩ := ih
    exact ⟨_, .inn r (by rw [D.pl]; exact hi), (D.inn _ _ (r.lt okN) hi).2⟩
  | low hp h0 hj ih =>
    obtain ⟨p', r, rfl⟩ := ih
    exact ⟨_, .low r (by rw [D.of _ (r.lt okN)]; exact h0) (by rw [D.cl]; exact hj), (D.low _ _ (r.lt okN) h0 hj).2⟩
  | ret hp hq h0 hj i1 i2 =>
    obtain ⟨p', r, rfl⟩ := i1
    obtain ⟨q', r', rfl⟩ := i2
    exact ⟨_, .ret r r' (by rw [D.of _ (r.lt okN)]; exact h0) (by rw [D.cl]; exact hj), (D.ret _ _ _ (r.lt okN) (r'.lt okN) h0 hj).2⟩
theorem Dbl.E (ok : M.OK) (D : Dbl M N) : ∀ t p q, p < N.n → q < N.n → (FoldPM.E N t p q ↔ FoldPM.E M t (p % M.n) (q % M.n))
  | 0, p, q, hp, hq => by
    show (N.of p = N.of q ∧ N.fi p = N.fi q) ↔ (M.of _ = M.of _ ∧ M.fi _ = M.fi _)
    rw [D.of p hp, D.of q hq, D.fi p hp, D.fi q hq]
  | t + 1, p, q, hp, hq => by
    have ih := Dbl.E ok D t
    have okN := D.ok ok
    constructor
    · intro h
      have h1 := (ih p q hp hq).1 h.1
      have ho := FoldPM.E.of h1
      refine ⟨h1, fun i hi => ?_, fun h0 j hj => ?_, fun h0 j hj x hx => ?_, fun x hx h0 j hj => ?_⟩
      · have a := D.inn p i hp hi
        have b := D.inn q i hq hi
        rw [← a.2, ← b.2]
        exact (ih _ _ a.1 b.1).1 (h.2.1 i (by rw [D.pl]; exact hi))
      · have a := D.low p j hp h0 hj
        have b := D.low q j hq (ho ▸ h0) hj
        rw [← a.2, ← b.2]
        exact (ih _ _ a.1 b.1).1 (h.2.2.1 (by rw [D.of p hp]; exact h0) j (by rw [D.cl]; exact hj))
      · obtain ⟨x', rx, rfl⟩ := D.onto ok hx
        have a := D.ret p j x' hp (rx.lt okN) h0 hj
        have b := D.ret q j x' hq (rx.lt okN) (ho ▸ h0) hj
        rw [← a.2, ← b.2]
        exact (ih _ _ a.1 b.1).1 (h.2.2.2.1 (by rw [D.of p hp]; exact h0) j (by rw [D.cl]; exact hj) x' rx)
      · obtain ⟨x', rx, rfl⟩ := D.onto ok hx
        have a := D.ret x' j p (rx.lt okN) hp h0 hj
        have b := D.ret x' j q (rx.lt okN) hq h0 hj
        rw [← a.2, ← b.2]
        exact (ih _ _ a.1 b.1).1 (h.2.2.2.2 x' rx (by rw [D.of _ (rx.lt okN)]; exact h0) j (by rw [D.cl]; exact hj))
    · intro h
      have ho := FoldPM.E.of h.1
      refine ⟨(ih p q hp hq).2 h.1, fun i hi => ?_, fun h0 j hj => ?_, fun h0 j hj x hx => ?_, fun x hx h0 j hj => ?_⟩
      · rw [D.pl] at hi
        have a := D.inn p i hp hi
        have b := D.inn q i hq hi
        refine (ih _ _ a.1 b.1).2 ?_
        rw [a.2, b.2]
        exact h.2.1 i hi
      · rw [D.cl] at hj
        rw [D.of p hp] at h0
        have a := D.low p j hp h0 hj
        have b := D.low q j hq (ho ▸ h0) hj
        refine (ih _ _ a.1 b.1).2 ?_
        rw [a.2, b.2]
        exact h.2.2.1 h0 j hj
      · rw [D.cl] at hj
        rw [D.of p hp] at h0
        have a := D.ret p j x hp (hx.lt okN) h0 hj
        have b := D.ret q j x hq (hx.lt okN) (ho ▸ h0) hj
        refine (ih _ _ a.1 b.1).2 ?_
        rw [a.2, b.2]
        exact h.2.2.2.1 h0 j hj _ (D.rch ok hx)
      · rw [D.cl] at hj
        rw [D.of _ (hx.lt okN)] at h0
        have a := D.ret x j p (hx.lt okN) hp h0 hj
        have b := D.ret x j q (hx.lt okN) hq h0 hj
        refine (ih _ _ a.1 b.1).2 ?_
        rw [a.2, b.2]
        exact h.2.2.2.2 _ (D.rch ok hx) h0 j hj
theorem Dbl.EE (ok : M.OK) (D : Dbl M N) {p q : Nat} (hp : p < N.n) (hq : q < N.n) : FoldPM.EE N p q ↔ FoldPM.EE M (p % M.n) (q % M.n) :=
  ⟨fun h t => (D.E ok t p q hp hq).1 (h t), fun h t => (D.E ok t p q hp hq).2 (h t)⟩
theorem Canon.same {n n' cnt cnt' : Nat} {R R' : Nat → Prop} {S S' : Nat → Nat → Prop} {c c' : List Int} (A : Canon n R S c cnt) (B : Canon n' R' S' c' cnt') (g : Nat → Nat) (gR : ∀ p, R' p → R (g p)) (gn : ∀ p, R' p → p < n') (gm : ∀ p, R p → p < n) (gS : ∀ p q, R' p → R' q → (S' p q ↔ S (g p) (g q))) (on : ∀ p, R p → ∃ p', R' p' ∧ g p' = p) : cnt = cnt' := by
  have cA : ∀ p, R p → ∃ d : Nat, d < cnt ∧ c[p]? = some (d : Int) := fun p h => A.re p (gm p h) h
  have cB : ∀ p, R' p → ∃ d : Nat, d < cnt' ∧ c'[p]? = some (d : Int) := fun p h => B.re p (gn p h) h
  have key : ∀ p q d d' e e', R' p → R' q → c'[p]? = some ((d : Nat) : Int) → c'[q]? = some ((d' : Nat) : Int) → c[g p]? = some ((e : Nat) : Int) → c[g q]? = some ((e' : Nat) : Int) → (d = d' ↔ e = e') := by
    intro p q d d' e e' hp hq h1 h2 h3 h4
    have a := (B.eq p q (gn p hp) (gn q hq) hp hq).trans (gS p q hp hq)
    have b := A.eq (g p) (g q) (gm _ (gR p hp)) (gm _ (gR q hq)) (gR p hp) (gR q hq)
    rw [h1, h2] at a
    rw [h3, h4] at b
    have ab := a.trans b.symm
    constructor
    · intro e5; subst e5
      have := ab.1 rfl
      injection this with this
      omega
    · intro e5; subst e5
      have := ab.2 rfl
      injection this with this
      omega
  have rB : ∀ d, ∃ p, d < cnt' → R' p ∧ c'[p]? = some ((d : Nat) : Int) := fun d => by
    by_cases hd : d < cnt'
    · obtain ⟨p, hp, e⟩ := B.all d hd
      exact ⟨p, fun _ => ⟨B.reached hp e, e⟩⟩
    · exact ⟨0, fun h => absurd h hd⟩
  have fA : ∀ d, ∃ e : Nat, d < cnt' → e < cnt ∧ ∃ p, R' p ∧ c'[p]? = some ((d : Nat) : Int) ∧ c[g p]? = some ((e : Nat) : Int) := fun d => by
    by_cases hd : d < cnt'
    · obtain ⟨p, h⟩ := rB d
      obtain ⟨e, he, hc⟩ := cA (g p) (gR p (h hd).1)
      exact ⟨e, fun _ => ⟨he, p, (h hd).1, (h hd).2, hc⟩⟩
    · exact ⟨0, fun h => absurd h hd⟩
  have fB : ∀ e, ∃ d : Nat, e < cnt → d < cnt' ∧ ∃ p, R' p ∧ c'[p]? = some ((d : Nat) : Int) ∧ c[g p]? = some ((e : Nat) : Int) := fun e => by
    by_cases he : e < cnt
    · obtain ⟨p, hp, hc⟩ := A.all e he
      obtain ⟨p', hp', rfl⟩ := on p (A.reached hp hc)
      obtain ⟨d, hd, hd'⟩ := cB p' hp'
      exact ⟨d, fun _ => ⟨hd, p', hp', hd', hc⟩⟩
    · exact ⟨0, fun h => absurd h he⟩
  obtain ⟨f, hf⟩ := Classical.axiomOfChoice fA
  obtain ⟨f', hf'⟩ := Classical.axiomOfChoice fB
  have le1 : cnt ≤ cnt' := onto_le f fun y hy => by
    obtain ⟨hd, p, rp, h1, h2⟩ := hf' y hy
    refine ⟨f' y, hd, ?_⟩
    obtain ⟨he, q, rq, h3, h4⟩ := hf (f' y) hd
    exact (key q p _ _ _ _ rq rp h3 h1 h4 h2).1 rfl
  have le2 : cnt' ≤ cnt := onto_le f' fun y hy => by
    obtain ⟨he, p, rp, h1, h2⟩ := hf y hy
    refine ⟨f y, he, ?_⟩
    obtain ⟨hd, q, rq, h3, h4⟩ := hf' (f y) he
    exact (key q p _ _ _ _ rq rp h3 h1 h4 h2).2 rfl
  omega
theorem Dbl.cnt (ok : M.OK) (D : Dbl M N) {c c' : List Int} {cnt cnt' : Nat} (A : Canon M.n (Rch M) (FoldPM.EE M) c cnt) (B : Canon N.n (Rch N) (FoldPM.EE N) c' cnt') : cnt = cnt' :=
  A.same B (· % M.n) (fun p h => D.rch ok h) (fun p h => h.lt (D.ok ok)) (fun p h => h.lt ok) (fun p q hp hq => D.EE ok (hp.lt (D.ok ok)) (hq.lt (D.ok ok))) fun p h => D.onto ok h
end FoldPM
end

section
/- From a run of the abstract machine to a call of Go's model: it returns true, and nothing that was there has turned. Conditions: the arguments that came in are only read. -/
namespace Go.AM
open Go Go.RowKit
variable {P : Program}
theorem law_lift (hmix : P.follows .mixedOrders = true) {f : FuncId} {args : List Value} {h : AH} {β : Bj} {args' : Array Value} {w : World} (hA : ListR β args args') (R : Rel β h w) (hro : ∀ i : Nat, live h[i]? = true → isRo h[i]? = true)
    (hc : callW P f args h fun v _ => v = .bool true) : Calls P f args' w fun e w' => e = .returned (.bool true) ∧ Below w.heap.size w w' := by
  refine Calls.mono ((callW_sim hmix _ _ _ _ hc).2 β args' w hA R) ?_
  rintro e w' ⟨v, v', β', h', rfl, rfl, hv, _, X⟩
  cases hv
  refine ⟨rfl, X.os, X.tape, X.out, X.size, fun k hk => X.cfr k hk ?_⟩
  rintro ⟨id, p, _, _, h1, h2⟩
  rw [hro id h1] at h2
  cases h2
def β0 : Bj := fun _ => none
structure InRow where
  has : Bool
  b : Nat
  off : Nat
  cells : List Value
def inObj (r : InRow) : AObj := if r.has = true then .row r.cells false else .dead
def InRow.pl (r : InRow) : Pl := ⟨r.b, r.off, r.off + r.cells.length, 1⟩
def βIn (rs : List InRow) : Bj := fun i => (rs[i]?).map InRow.pl
def InRow.at (r : InRow) (w : World) : Prop := r.has = true → ∃ cc e fr, w.heap[r.b]? = some (.cells cc e fr) ∧ r.off + r.cells.length ≤ cc.size ∧ (∀ i, i < r.cells.length → cc.getD (r.off + i) undef = r.cells.getD i undef) ∧ (∀ v ∈ r.cells, pureS v = true)
theorem roIn (rs : List InRow) : ∀ i : Nat, live (rs.map inObj)[i]? = true → isRo (rs.map inObj)[i]? = true := by
  intro k hk
  rw [List.getElem?_map] at hk ⊢
  cases e : rs[k]? with
  | none => rw [e] at hk; cases hk
  | some r =>
    rw [e] at hk
    simp only [Option.map_some, inObj] at hk ⊢
    cases hr : r.has with
    | false => rw [hr] at hk; cases hk
    | true => rfl
theorem relIn (rs : List InRow) (w : World) (h : ∀ r ∈ rs, r.at w) : Rel (βIn rs) (rs.map inObj) w where
  lt {id p} hp := by
    unfold βIn at hp
    cases e : rs[id]? with
    | none => rw [e] at hp; cases hp
    | some r => rw [List.length_map]; exact (List.getElem?_eq_some_iff.1 e).1
  obj {id p o} hp ho := by
    unfold βIn at hp
    cases e : rs[id]? with
    | none => rw [e] at hp; cases hp
    | some r =>
      rw [e] at hp
      rw [List.getElem?_map, e] at ho
      obtain rfl := Option.some.inj hp
      obtain rfl := Option.some.inj ho
      unfold inObj
      cases hr : r.has with
      | false => trivial
      | true =>
        obtain ⟨cc, el, fr, h1, h2, h3, h4⟩ := h r (List.mem_of_getElem? e) hr
        refine ⟨cc, el, fr, h1, Nat.le_refl _, h2, fun i hi => ?_, fun x => (by cases x), fun v hv => pureS_one (h4 v hv)⟩
        have := h3 i hi
        show VR _ _ (cc.getD (r.off + i) undef)
        rw [this]
        exact .ofPureS (h4 _ (by rw [List.getD_eq_getElem?_getD, List.getElem?_eq_getElem hi]; exact List.getElem_mem hi))
  sep {i j p q} hij hi hj li lj hr := by
    rw [roIn rs i li, roIn rs j lj] at hr
    cases hr
theorem inRow_of {w : World} {a : Addr} {cs : List Value} (hne : cs ≠ []) (hc : ∀ i v, cs[i]? = some v → w.cell? (a.add i) = some v) (hp : ∀ v ∈ cs, pureS v = true) : a.spot = none ∧ (InRow.mk true a.block a.off cs).at w := by
  have key : ∀ i v, cs[i]? = some v → a.spot = none ∧ ∃ cc e fr, w.heap[a.block]? = some (.cells cc e fr) ∧ cc[a.off + i]? = some v := by
    intro i v hv
    have h0 := hc i v hv
    have hs := World.cell?_spot h0
    have hb : (a.add i).block = a.block := by unfold Addr.add; split <;> rfl
    have ho : (a.add i).off = a.off + i := by
      unfold Addr.add
      split
      · rename_i h; rw [h]; rfl
      · rfl
    unfold World.cell? at h0
    rw [hb, hs, ho] at h0
    split at h0
    · rename_i c _ _ hh
      refine ⟨?_, c, _, _, hh, by simpa using h0⟩
      have h1 := hc 0
      cases cs with
      | nil => exact absurd rfl hne
      | cons x r =>
        have := World.cell?_spot (h1 x rfl)
        simpa [Addr.add] using this
    · cases h0
  cases cs with
  | nil => exact absurd rfl hne
  | cons x r =>
    obtain ⟨h1, cc, e, fr, h2, h3⟩ := key 0 x rfl
    refine ⟨h1, fun _ => ⟨cc, e, fr, h2, ?_, fun i hi => ?_, hp⟩⟩
    · have hl : r.length < (x :: r).length := by simp
      obtain ⟨_, cc', e', fr', g2, g3⟩ := key r.length _ (List.getElem?_eq_getElem hl)
      rw [h2] at g2
      cases g2
      have := (Array.getElem?_eq_some_iff.1 g3).1
      show a.off + (x :: r).length ≤ cc.size
      simp only [List.length_cons]
      omega
    · obtain ⟨_, cc', e', fr', g2, g3⟩ := key i _ (List.getElem?_eq_getElem hi)
      rw [h2] at g2
      cases g2
      show cc.getD (a.off + i) undef = (x :: r).getD i undef
      rw [List.getD_eq_getElem?_getD, List.getElem?_eq_getElem hi, ← Array.getElem?_toList] at *
      simp only [Array.getD_eq_getD_getElem?, ← Array.getElem?_toList, g3]
theorem no_at (b off : Nat) (w : World) : (InRow.mk false b off []).at w := fun h => by cases h
theorem in_slice {w : World} {s : Nat} (s0 : 0 < s) {a : Option Addr} {len cap : Nat} {cs : List Value} (hs : cs.length = len * s) (hlc : len ≤ cap) (hcap : cap < openCap) (hnil : a = none → len = 0 ∧ cap = 0)
    (hspot : ∀ x, a = some x → 0 < cap → x.spot = none) (hc : ∀ x, a = some x → ∀ i v, cs[i]? = some v → w.cell? (x.add i) = some v) (hp : ∀ v ∈ cs, pureS v = true) (j : Nat) :
    ∃ r : InRow, ∃ v, r.at w ∧ (∀ β : Bj, β j = some r.pl → VR β v (.slice a len cap)) ∧ ∀ h : AH, h[j]? = some (inObj r) → Sl s h v len cs := by
  cases a with
  | none =>
    obtain ⟨rfl, rfl⟩ := hnil rfl
    exact ⟨⟨false, 0, 0, []⟩, .slice none 0 0, no_at _ _ _, fun β _ => .nils, fun h _ => ⟨hs, .inl ⟨rfl, rfl⟩⟩⟩
  | some x =>
    by_cases hne : cs = []
    · subst hne
      have hl : len = 0 := by
        simp only [List.length_nil] at hs
        rcases Nat.mul_eq_zero.1 hs.symm with h | h
        · exact h
        · omega
      refine ⟨⟨false, x.block, x.off, []⟩, .slice (some ⟨j, 0, none⟩) len cap, no_at _ _ _, fun β hβ => .slx hβ hlc hcap ?_, fun h _ => ⟨hs, .inr ⟨j, 0, cap, rfl, .inl ⟨hcap, hlc⟩, .inl hl⟩⟩⟩
      rcases Nat.eq_zero_or_pos cap with h0 | h0
      · exact .inl h0
      · have := hspot x rfl h0
        cases x
        simp at this
        subst this
        exact .inr rfl
    · obtain ⟨h1, h2⟩ := inRow_of hne (hc x rfl) hp
      refine ⟨_, .slice (some ⟨j, 0, none⟩) len cap, h2, fun β hβ => .slx hβ hlc hcap (.inr (by cases x; simp at h1; subst h1; rfl)), fun h hj => ⟨hs, .inr ⟨j, 0, cap, rfl, .inl ⟨hcap, hlc⟩, .inr ⟨cs, false, hj, by omega, by rw [← hs]; simp⟩⟩⟩⟩
theorem maxLen_open {n : Nat} (h : n ≤ maxLen) : n < openCap := by
  unfold maxLen at h
  unfold openCap
  omega
def IsRow (k : IntKind) (w : World) (a : Option Addr) (len cap : Nat) (zs : List Int) : Prop :=
  (a = none ∧ len = 0 ∧ cap = 0 ∧ zs = []) ∨
  ∃ x, a = some x ∧ len ≤ cap ∧ cap ≤ maxLen ∧ zs.length = cap ∧ (∀ i, i < zs.length → w.cell? (x.add i) = some (.int k (zs.getD i 0))) ∧ ∀ n ∈ zs, (Lit.int k n).wf = true
def eK (k : IntKind) (n : Int) : List Value := [.int k n]
theorem flat_eK (k : IntKind) (l : List Int) : flat (eK k) l = l.map (.int k) := by
  induction l with
  | nil => rfl
  | cons x l ih => simp only [flat, List.flatMap_cons, List.map_cons] at ih ⊢; rw [ih]; rfl
theorem in_ints {w : World} {k : IntKind} {a : Option Addr} {len cap : Nat} {zs : List Int} (h : IsRow k w a len cap zs) (j : Nat) :
    ∃ r : InRow, ∃ v, r.at w ∧ (∀ β : Bj, β j = some r.pl → VR β v (.slice a len cap)) ∧ (∀ h : AH, h[j]? = some (inObj r) → SlT 1 (eK k) h v (zs.take len)) ∧ ∀ n ∈ zs.take len, (Lit.int k n).wf = true := by
  have hlen : len ≤ zs.length ∧ len ≤ cap ∧ cap < openCap := by
    rcases h with ⟨rfl, rfl, rfl, rfl⟩ | ⟨x, rfl, h1, h2, h3, _⟩
    · exact ⟨Nat.le_refl _, Nat.le_refl _, by decide⟩
    · exact ⟨by omega, h1, maxLen_open h2⟩
  have hl : (zs.take len).length = len := by rw [List.length_take]; omega
  obtain ⟨r, v, h1, h2, h3⟩ := in_slice (w := w) (s := 1) (by decide) (a := a) (len := len) (cap := cap) (cs := flat (eK k) (zs.take len)) (by rw [flat_eK, List.length_map, hl]; omega) hlen.2.1 hlen.2.2
    (by rcases h with ⟨rfl, rfl, rfl, rfl⟩ | ⟨x, rfl, _⟩
        · exact fun _ => ⟨rfl, rfl⟩
        · exact fun h => by cases h)
    (by rcases h with ⟨rfl, rfl, rfl, rfl⟩ | ⟨x, rfl, g1, g2, g3, g4, g5⟩
        · exact fun _ h => by cases h
        · intro y hy hc
          cases hy
          have := g4 0 (by omega)
          exact World.cell?_spot (by simpa [Addr.add] using this))
    (by rcases h with ⟨rfl, rfl, rfl, rfl⟩ | ⟨x, rfl, g1, g2, g3, g4, g5⟩
        · exact fun _ h => by cases h
        · intro y hy i v hv
          cases hy
          rw [flat_eK, List.getElem?_map] at hv
          cases e : (zs.take len)[i]? with
          | none => rw [e] at hv; cases hv
          | some n =>
            rw [e] at hv
            cases hv
            rw [List.getElem?_take] at e
            split at e
            · have hi := (List.getElem?_eq_some_iff.1 e).1
              have := g4 i hi
              rw [List.getD_eq_getElem?_getD, e] at this
              exact this
            · cases e)
    (by
      intro v hv
      rw [flat_eK] at hv
      obtain ⟨n, _, rfl⟩ := List.mem_map.1 hv
      rfl) j
  refine ⟨r, v, h1, h2, fun h hj => ?_, fun n hn => ?_⟩
  · have := h3 h hj
    unfold SlT
    rw [hl]
    exact this
  · rcases h with ⟨rfl, rfl, rfl, rfl⟩ | ⟨x, rfl, g1, g2, g3, g4, g5⟩
    · simp at hn
    · exact g5 n (List.mem_of_mem_take hn)
end Go.AM
namespace Go.AM
open Go
theorem i64_wf {n : Int} (h : (Lit.int .i64 n).wf = true) : -9223372036854775808 ≤ n ∧ n ≤ 9223372036854775807 := by
  simp [Lit.wf, IntKind.min, IntKind.max, IntKind.bits, IntKind.signed] at h
  omega
end Go.AM
end
