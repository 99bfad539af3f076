/- Parts of a proof, joined by a program. Conditions: none. -/
import Derived.Test.YtlenlhlipmkeeaaRA1
import Derived.KernelRfl
import Derived.Below

section
/- The abstract machine, run: regions, code, calls; and that a run that says yes is right. Conditions: none. -/
namespace Go.AM
open Go
variable {P : Program}
theorem optB_ok {α : Type} {o : Option α} {k : α → Bool} {K : α → Prop} (hb : optB o k = true) (hk : ∀ v, k v = true → K v) : optW o K := by
  obtain ⟨v, rfl, h⟩ := optB_elim hb
  exact hk v h
def convB (P : Program) (s d : TypeId) (x : Value) (slot : Option Nat) (h : HS) (k : KB) : Bool :=
  match P.underlying s, P.underlying d with
  | some .string, some (.slice e) => match P.underlying e, x with
    | some (.int .u8), .string b => cond (Nat.blt b.size room40) (newB slot (.row (bytesL b) false) h fun id h' => k (.slice (some ⟨id, 0, none⟩) b.size (openCap + 1)) h') false
    | _, _ => false
  | some (.slice e), some .string => match P.underlying e with
    | some (.int .u8) => optB (pBytesStrG x h.lookF) fun v => k v h
    | _ => false
  | some (.slice _), some (.slice e) => match P.underlying e, x, s == d with
    | some (.int .u8), .slice (some ⟨id, off, none⟩) (len + 1) cap, true => match h.lookF id with
      | some (.row _ true) => false
      | _ => false
    | _, _, _ => false
  | _, _ => optB (pConv P s d x) fun v => k v h
theorem convB_ok {s d : TypeId} {x : Value} {slot : Option Nat} {t : HS} {h : AH} {k : KB} {K : Value → AH → Prop} (R : RepH t h) (hk : KOK k K) (hb : convB P s d x slot t k = true) : convW P s d x slot h K := by
  unfold convB at hb
  unfold convW
  split at hb
  · rename_i h1 h2
    simp only [h1, h2]
    split at hb
    · rename_i h3
      simp only [h3]
      rename_i b
      cases hc : Nat.blt b.size room40 with
      | false => rw [hc] at hb; cases hb
      | true =>
        rw [hc] at hb
        exact ⟨blt_lt hc, newB_ok R hb fun i s h R' hh => hk _ _ _ R' hh⟩
    · cases hb
  · rename_i h1 h2
    simp only [h1, h2]
    split at hb
    · rename_i h3
      simp only [h3]
      rw [R.lf, pBytesStrG_eq] at hb
      exact optB_ok hb fun v hv => hk _ _ _ R hv
    · cases hb
  · rename_i h1 h2
    simp only [h1, h2]
    split at hb
    · rename_i h3 h4
      simp only [h3, h4]
      split at hb
      · rename_i h5
        rw [R.lf] at h5
        simp only [show h[_]? = _ from h5]
        cases hb
      · cases hb
    · cases hb
  · rename_i h1 h2 h3
    split
    · rename_i q1 q2; exact (h1 _ q1 q2).elim
    · rename_i q1 q2; exact (h2 _ q1 q2).elim
    · rename_i q1 q2; exact (h3 _ _ q1 q2).elim
    · exact optB_ok hb fun v hv => hk _ _ _ R hv
def XOK (X : CallB) (XX : CallT) : Prop := ∀ f args s k h K, RepH s h → KOK k K → X f args s k = true → XX f args h K
def callOpB (P : Program) (X : CallB) (c : Call) (e : TE) (h : HS) (k : KB) : Bool :=
  match c.callee with
  | .builtin b => match b, c.args.toList, c.argTypes.toList with
    | .len, [x], t :: _ => optB (lenG P t (tev e x) h.lookF) fun v => k v h
    | .append, [x, y], [t, u] => appendB P #[t, u] (tev e x) (tev e y) h k
    | .max, [x, y], _ => optB (pMax2 true (tev e x) (tev e y)) fun v => k v h
    | .min, [x, y], _ => optB (pMax2 false (tev e x) (tev e y)) fun v => k v h
    | .cap, [x], t :: _ => optB (pCap P t (tev e x)) fun v => k v h
    | _, _, _ => false
  | .value f => match tev e f with
    | .func (.func g) a b => X g (a.toList ++ c.args.toList.map (tev e) ++ b.toList) h k
    | _ => false
  | .invoke .. => false
theorem callOpB_ok {X : CallB} {XX : CallT} (hX : XOK X XX) {c : Call} {te : TE} {e : Env} (E : RepE te e) {t : HS} {h : AH} {k : KB} {K : Value → AH → Prop} (R : RepH t h) (hk : KOK k K) (hb : callOpB P X c te t k = true) : callOpW P XX c e h K := by
  unfold callOpB at hb
  unfold callOpW
  rw [E.fn] at hb
  split at hb
  · rename_i h1
    simp only [h1]
    split at hb
    · rename_i h2 h3
      simp only [h2, h3]
      rw [R.lf, lenG_eq] at hb
      exact optB_ok hb fun v hv => hk _ _ _ R hv
    · rename_i h2 h3
      simp only [h2, h3]
      exact appendB_ok R hk hb
    · rename_i h2
      simp only [h2]
      exact optB_ok hb fun v hv => hk _ _ _ R hv
    · rename_i h2
      simp only [h2]
      exact optB_ok hb fun v hv => hk _ _ _ R hv
    · rename_i h2 h3
      simp only [h2, h3]
      exact optB_ok hb fun v hv => hk _ _ _ R hv
    · cases hb
  · rename_i h1
    simp only [h1]
    split at hb
    · rename_i h2
      simp only [h2]
      exact hX _ _ _ _ _ _ R hk hb
    · cases hb
  · cases hb
def opB (P : Program) (X : CallB) (slot : Option Nat) (o : Oper) (e : TE) (h : HS) (k : KB) : Bool :=
  match o.op with
  | .move x | .assign x => k (tev e x) h
  | .pick c a b => optB (pPick (tev e c) (tev e a) (tev e b)) fun v => k v h
  | .alloc t => optB (zeroL P t) fun c => newB slot (.row c true) h fun id h' => k (.pointer (some ⟨id, 0, none⟩)) h'
  | .box _ x => cond ((cellsL (tev e x)).all (·.oneCell')) (newB slot (.row (cellsL (tev e x)) true) h fun id h' => k (.pointer (some ⟨id, 0, none⟩)) h') false
  | .build t ps => optB (pBuild P t (ps.toList.map fun p => (p.1, tev e p.2))) fun v => k v h
  | .buildSlice t n ps => optB (pBuildSlice P t n (ps.toList.map fun p => (p.1, tev e p.2))) fun c => newB slot (.row c true) h fun id h' => k (.slice (some ⟨id, 0, none⟩) n n) h'
  | .load t x => optB (pLoadG P t (tev e x) h.lookF) fun v => k v h
  | .store t x v => setB (stOfG P t (tev e x) (tev e v) h.lookF) h fun h' => k undef h'
  | .nilCheck x => optB (pNilCheck (tev e x)) fun v => k v h
  | .binOp op t x y _ => optB (pBinQ P op t (tev e x) (tev e y)) fun v => k v h
  | .unOp op _ x => optB (pUn op (tev e x)) fun v => k v h
  | .convert s d x => convB P s d (tev e x) slot h k
  | .makeFunc fn a b => k (.func fn (a.map (tev e)) (b.map (tev e))) h
  | .makeMap _ none => newB slot (.map [] 0) h fun id h' => k (.map (some id)) h'
  | .makeSlice t l c => optB (pMakeSlice P t (tev e l) (tev e c)) fun r => newB slot (.row r.2.2 true) h fun id h' => k (.slice (some ⟨id, 0, none⟩) r.1 r.2.1) h'
  | .slice t x lo hi mx => optB (pSliceQ P t (tev e x) (lo.map (tev e)) (hi.map (tev e)) (mx.map (tev e))) fun v => k v h
  | .fieldAddr s x f => optB (pFieldAddr P s f (tev e x)) fun v => k v h
  | .field t x f => optB (pField P t (tev e x) f) fun v => k v h
  | .indexAddr t x i => optB (pIndexAddr P t (tev e x) (tev e i)) fun v => k v h
  | .index t x i => optB (pIndexQ P t (tev e x) (tev e i)) fun v => k v h
  | .lookup t x i ok => optB (pLookG P t (tev e x) (tev e i) ok h.lookF) fun v => k v h
  | .mapUpdate t m kk v => setB (pMapUG P t (tev e m) (tev e kk) (tev e v) h.lookF) h fun h' => k undef h'
  | .range t x => rangeB P t (tev e x) slot h k
  | .next it s => nextB (tev e it) s h k
  | .entry it => optB (pEntryG (tev e it) h.lookF) fun v => k v h
  | .extract t i => optB (pExtract (tev e t) i) fun v => k v h
  | .call c => callOpB P X c e h k
  | _ => false
theorem setB_ok {u : Option (Nat × AObj)} {s : HS} {h : AH} {k : HS → Bool} (R : RepH s h) (hb : setB u s k = true) (hin : ∀ v, u = some v → ∃ o, h[v.1]? = some o) : ∃ v, u = some v ∧ RepH (s.put v.1 v.2) (setH h v) ∧ k (s.put v.1 v.2) = true := by
  unfold setB at hb
  split at hb
  · rename_i i o
    obtain ⟨o', ho⟩ := hin _ rfl
    exact ⟨_, rfl, R.put (List.getElem?_eq_some_iff.1 ho).1 _, hb⟩
  · cases hb
theorem cond_true {b c : Bool} (h : cond b c false = true) : b = true ∧ c = true := by
  cases b with
  | false => cases h
  | true => exact ⟨rfl, h⟩
theorem opB_ok {X : CallB} {XX : CallT} (hX : XOK X XX) {slot : Option Nat} {o : Oper} {te : TE} {e : Env} (E : RepE te e) {t : HS} {h : AH} {k : KB} {K : Value → AH → Prop} (R : RepH t h) (hk : KOK k K) (hb : opB P X slot o te t k = true) : opW P XX slot o e h K := by
  unfold opB at hb
  unfold opW
  have here : ∀ {v}, k v t = true → K v h := fun hv => hk _ _ _ R hv
  rw [E.fn] at hb
  split at hb <;> rename_i ho <;> simp only [ho]
  · exact here hb
  · exact here hb
  · exact optB_ok hb fun v hv => here hv
  · exact optB_ok hb fun v hv => newB_ok R hv fun i s h R' hh => hk _ _ _ R' hh
  · obtain ⟨h1, h2⟩ := cond_true hb
    exact ⟨h1, newB_ok R h2 fun i s h R' hh => hk _ _ _ R' hh⟩
  · exact optB_ok hb fun v hv => here hv
  · exact optB_ok hb fun v hv => newB_ok R hv fun i s h R' hh => hk _ _ _ R' hh
  · rw [R.lf, pLoadG_eq] at hb
    exact optB_ok hb fun v hv => here hv
  · rw [R.lf] at hb
    obtain ⟨v, hv, R', h2⟩ := setB_ok R hb fun v hv => stOfG_in hv
    rw [stOfG_eq hv]
    exact hk _ _ _ R' h2
  · exact optB_ok hb fun v hv => here hv
  · rw [pBinQ_eq] at hb
    exact optB_ok hb fun v hv => here hv
  · exact optB_ok hb fun v hv => here hv
  · exact convB_ok R hk hb
  · exact here hb
  · exact newB_ok R hb fun i s h R' hh => hk _ _ _ R' hh
  · exact optB_ok hb fun v hv => newB_ok R hv fun i s h R' hh => hk _ _ _ R' hh
  · rw [pSliceQ_eq] at hb
    exact optB_ok hb fun v hv => here hv
  · exact optB_ok hb fun v hv => here hv
  · exact optB_ok hb fun v hv => here hv
  · exact optB_ok hb fun v hv => here hv
  · rw [pIndexQ_eq] at hb
    exact optB_ok hb fun v hv => here hv
  · rw [R.lf, pLookG_eq] at hb
    exact optB_ok hb fun v hv => here hv
  · rw [R.lf] at hb
    obtain ⟨v, hv, R', h2⟩ := setB_ok R hb fun v hv => pMapUG_in hv
    rw [pMapUG_eq hv]
    exact hk _ _ _ R' h2
  · exact rangeB_ok R hk hb
  · exact nextB_ok R hk hb
  · rw [R.lf, pEntryG_eq] at hb
    exact optB_ok hb fun v hv => here hv
  · exact optB_ok hb fun v hv => here hv
  · exact callOpB_ok hX E R hk hb
  · cases hb
end Go.AM
end

section
/- The abstract machine, run: regions, code, calls; and that a run that says yes is right. Conditions: none. -/
namespace Go.AM
open Go
variable {P : Program}
def adEq : Option Addr → Option Addr → Bool
  | none, none => true
  | some ⟨a, x, none⟩, some ⟨b, y, none⟩ => Nat.beq a b && Nat.beq x y
  | _, _ => false
def nOEq : Option Nat → Option Nat → Bool
  | none, none => true
  | some a, some b => Nat.beq a b
  | _, _ => false
def veqS : Value → Value → Bool
  | .bool a, .bool b => a == b
  | .int k a, .int k' b => decide (k = k') && decide (a = b)
  | .string a, .string b => u8s a.data.toList b.data.toList
  | .pointer a, .pointer b => adEq a b
  | .slice a l c, .slice b l' c' => adEq a b && Nat.beq l l' && Nat.beq c c'
  | .map a, .map b => nOEq a b
  | .nilFunc, .nilFunc => true
  | .nilIface, .nilIface => true
  | _, _ => false
def listEq {α : Type} (f : α → α → Bool) : List α → List α → Bool
  | [], [] => true
  | a :: l, b :: m => f a b && listEq f l m
  | _, _ => false
theorem listEq_sound {α : Type} {f : α → α → Bool} (hf : ∀ a b, f a b = true → a = b) : ∀ {l m : List α}, listEq f l m = true → l = m
  | [], [], _ => rfl
  | [], _ :: _, h => by cases h
  | _ :: _, [], h => by cases h
  | a :: l, b :: m, h => by
    simp only [listEq, Bool.and_eq_true] at h
    rw [hf _ _ h.1, listEq_sound hf h.2]
theorem adEq_sound {a b : Option Addr} (h : adEq a b = true) : a = b := by
  unfold adEq at h
  split at h
  · rfl
  · simp only [Bool.and_eq_true] at h
    rw [Nat.eq_of_beq_eq_true h.1, Nat.eq_of_beq_eq_true h.2]
  · cases h
theorem nOEq_sound {a b : Option Nat} (h : nOEq a b = true) : a = b := by
  unfold nOEq at h
  split at h
  · rfl
  · rw [Nat.eq_of_beq_eq_true h]
  · cases h
theorem bytes_ext {x y : ByteArray} (h : x.data.toList = y.data.toList) : x = y := ByteArray.ext (Array.toList_inj.1 h)
theorem veqS_sound (x y : Value) (h : veqS x y = true) : x = y := by
  unfold veqS at h
  split at h
  · rw [eq_of_beq h]
  · simp only [Bool.and_eq_true, decide_eq_true_eq] at h
    rw [h.1, h.2]
  · rw [u8s_eq] at h
    rw [bytes_ext (eq_of_beq h)]
  · rw [adEq_sound h]
  · simp only [Bool.and_eq_true] at h
    rw [adEq_sound h.1.1, Nat.eq_of_beq_eq_true h.1.2, Nat.eq_of_beq_eq_true h.2]
  · rw [nOEq_sound h]
  · rfl
  · rfl
  · cases h
def veq : Value → Value → Bool
  | .agg a, .agg b => listEq veqS a.toList b.toList
  | .tuple a, .tuple b => listEq veqS a.toList b.toList
  | x, y => veqS x y
theorem veq_sound (x y : Value) (h : veq x y = true) : x = y := by
  unfold veq at h
  split at h
  · rw [Array.toList_inj.1 (listEq_sound veqS_sound h)]
  · rw [Array.toList_inj.1 (listEq_sound veqS_sound h)]
  · exact veqS_sound _ _ h
def entEq (a b : Ent) : Bool := veq a.1 b.1 && veq a.2.1 b.2.1 && Nat.beq a.2.2 b.2.2
theorem entEq_sound (a b : Ent) (h : entEq a b = true) : a = b := by
  simp only [entEq, Bool.and_eq_true] at h
  exact Prod.ext (veq_sound _ _ h.1.1) (Prod.ext (veq_sound _ _ h.1.2) (Nat.eq_of_beq_eq_true h.2))
def oEq : Option AObj → Option AObj → Bool
  | none, none => true
  | some .dead, some .dead => true
  | some (.row c w), some (.row c' w') => (w == w') && listEq veq c c'
  | some (.map es k), some (.map es' k') => listEq entEq es es' && Nat.beq k k'
  | _, _ => false
theorem oEq_sound {x y : Option AObj} (h : oEq x y = true) : x = y := by
  unfold oEq at h
  split at h
  · rfl
  · rfl
  · simp only [Bool.and_eq_true] at h
    rw [eq_of_beq h.1, listEq_sound veq_sound h.2]
  · simp only [Bool.and_eq_true] at h
    rw [listEq_sound entEq_sound h.1, Nat.eq_of_beq_eq_true h.2]
  · cases h
def gvalB (ops : Array Oper) (o : Oper) (e : TE) : Bool :=
  match o.guard with
  | none => true
  | some (j, want) => match (ops[j]?).bind (·.dst) with
    | some t => gB (tev e (.tmp t)) want
    | none => false
theorem gvalB_eq {ops : Array Oper} {o : Oper} {te : TE} {e : Env} (E : RepE te e) : gvalB ops o te = gval ops o e := by
  unfold gvalB gval
  simp only [E.ev]
  rfl
def ordB (P : Program) (X : CallB) (ops : Array Oper) : List Oper → TE → HS → (TE → HS → Bool) → Bool
  | [], e, h, q => q e h
  | o :: r, e, h, q => cond (gvalB ops o e) (opB P X none o e h fun v h' => ordB P X ops r (tput e o.dst v) h' q) (ordB P X ops r (tput e o.dst undef) h q)
def QOK (q : TE → HS → Bool) (Q : Env → AH → Prop) : Prop := ∀ te e s h, RepE te e → RepH s h → q te s = true → Q e h
theorem ordB_ok {X : CallB} {XX : CallT} (hX : XOK X XX) {ops : Array Oper} (hd : ∀ o ∈ ops.toList, ∀ d, o.dst = some d → d < 1000000) {q : TE → HS → Bool} {Q : Env → AH → Prop} (hq : QOK q Q) : ∀ (l : List Oper) (i : Nat) {te : TE} {e : Env} {s : HS} {h : AH},
    RepE te e → RepH s h → ops.toList.drop i = l → ordB P X ops l te s q = true → ordW P XX ops (fun _ => none) (List.range' i l.length) e h Q
  | [], _, _, _, _, _, E, R, _, hb => hq _ _ _ _ E R hb
  | o :: r, i, te, e, s, h, E, R, hdr, hb => by
    have ho : ops[i]? = some o := by
      rw [← Array.getElem?_toList]
      have : (ops.toList.drop i)[0]? = some o := by rw [hdr]; rfl
      simpa using this
    have hr : ops.toList.drop (i + 1) = r := by
      have : (ops.toList.drop i).drop 1 = r := by rw [hdr]; rfl
      simpa [List.drop_drop, Nat.add_comm] using this
    have hdo : ∀ d, o.dst = some d → d < 1000000 := hd o (by
      rw [← List.take_append_drop i ops.toList, hdr]; simp)
    show ordW P XX ops _ (i :: List.range' (i + 1) r.length) e h Q
    simp only [ordW, ho]
    rw [ordB, gvalB_eq E] at hb
    cases hg : gval ops o e with
    | true =>
      rw [hg, _root_.cond_true] at hb
      simp only [gopW]
      refine opB_ok hX E R ?_ hb
      intro v s' h' R' hh
      exact ordB_ok hX hd hq r (i + 1) (E.put _ _ hdo) R' hr hh
    | false =>
      rw [hg] at hb
      exact ordB_ok hX hd hq r (i + 1) (E.put _ _ hdo) R hr hb
abbrev HB := List (Nat × HS × HS)
def RepHB : HB → HT → Prop
  | [], [] => True
  | a :: l, b :: m => a.1 = b.1 ∧ RepH a.2.1 b.2.1 ∧ RepH a.2.2 b.2.2 ∧ RepHB l m
  | _, _ => False
theorem RepHB.cons {i : Nat} {s s' : HS} {h h' : AH} {l : HB} {m : HT} (h1 : RepH s h) (h2 : RepH s' h') (h3 : RepHB l m) : RepHB ((i, s, s') :: l) ((i, h, h') :: m) := by
  unfold RepHB
  exact ⟨rfl, h1, h2, h3⟩
theorem RepHB.nil : RepHB [] [] := by
  unfold RepHB
  trivial
def histB (b : Array Nat) (j : Nat) (xs : List Nat) : HB → Bool
  | [] => true
  | (k, hb, ha) :: r => cond (free b k j && Nat.blt k j) (xs.all fun x => oEq (hb.lookF x) (ha.lookF x)) true && histB b j xs r
theorem histB_ok {b : Array Nat} {j : Nat} {xs : List Nat} {K : Prop} (hK : K) : ∀ {HB : HB} {H : HT}, RepHB HB H → histB b j xs HB = true → histC b j xs H K
  | [], [], _, _ => hK
  | [], _ :: _, h, _ => h.elim
  | _ :: _, [], h, _ => h.elim
  | (k, x, y) :: l, (k', x', y') :: m, ⟨h1, h2, h3, h4⟩, hb => by
    dsimp only at h1 h2 h3
    subst h1
    simp only [histB, Bool.and_eq_true] at hb
    simp only [histC]
    cases hc : (free b k j && Nat.blt k j) with
    | true =>
      rw [hc] at hb
      refine ⟨fun z hz => ?_, histB_ok hK h4 hb.2⟩
      have := oEq_sound (List.all_eq_true.1 hb.1 z hz)
      rw [h2.lf, h3.lf] at this
      exact this
    | false => exact histB_ok hK h4 hb.2
def readB (b : Array Nat) (j : Nat) (hb ha : HS) : ST → Bool
  | [] => true
  | (k, xs) :: r => cond (free b k j && Nat.blt k j) (xs.all fun x => oEq (hb.lookF x) (ha.lookF x)) true && readB b j hb ha r
theorem readB_ok {b : Array Nat} {j : Nat} {x y : HS} {x' y' : AH} {K : Prop} (hK : K) (h2 : RepH x x') (h3 : RepH y y') : ∀ {S : ST}, readB b j x y S = true → readC b j x' y' S K
  | [], _ => hK
  | (k, xs) :: r, hb => by
    simp only [readB, Bool.and_eq_true] at hb
    simp only [readC]
    cases hc : (free b k j && Nat.blt k j) with
    | true =>
      rw [hc] at hb
      refine ⟨fun z hz => ?_, readB_ok hK h2 h3 hb.2⟩
      have := oEq_sound (List.all_eq_true.1 hb.1 z hz)
      rw [h2.lf, h3.lf] at this
      exact this
    | false => exact readB_ok hK h2 h3 hb.2
def touchB (o : Oper) (e : TE) : List Nat :=
  match o.op with
  | .load _ x => idOf (tev e x)
  | .lookup _ x _ _ => idOf (tev e x)
  | .convert _ _ x => idOf (tev e x)
  | .store _ x _ => idOf (tev e x)
  | .mapUpdate _ m _ _ => idOf (tev e m)
  | .call c => match c.args.toList with
    | [x] => idOf (tev e x)
    | [x, y] => idOf (tev e x) ++ idOf (tev e y)
    | _ => []
  | _ => []
theorem touchB_eq {o : Oper} {te : TE} {e : Env} (E : RepE te e) : touchB o te = touch o e := by
  unfold touchB touch
  rw [E.fn]
  rfl
abbrev KD := Value → HS → HB → ST → Bool
def KDOK (k : KD) (K : Value → AH → HT → ST → Prop) : Prop := ∀ v s h HB H S, RepH s h → RepHB HB H → k v s HB S = true → K v h H S
def opDB (P : Program) (X : CallB) (b : Array Nat) (sl : List (Option Nat)) (i : Nat) (o : Oper) (H : HB) (S : ST) (e : TE) (h : HS) (k : KD) : Bool :=
  match clOf P o with
  | .pure => opB P X none o e h fun v h' => k v h' H S
  | .rd => histB b i (touchB o e) H && opB P X none o e h fun v h' => k v h' H ((i, touchB o e) :: S)
  | .al => opB P X (slotAt sl i) o e h fun v h' => k v h' ((i, h, h') :: H) S
  | .eff => histB b i (touchB o e) H && opB P X none o e h fun v h' => readB b i h h' S && k v h' ((i, h, h') :: H) S
  | .call => opB P X none o e h fun v h' => readB b i h h' S && k v h' ((i, h, h') :: H) S
  | .bad => false
theorem opDB_ok {X : CallB} {XX : CallT} (hX : XOK X XX) {b : Array Nat} {sl : List (Option Nat)} {i : Nat} {o : Oper} {HB : HB} {H : HT} {S : ST} {te : TE} {e : Env} {s : HS} {h : AH} {k : KD} {K : Value → AH → HT → ST → Prop}
    (E : RepE te e) (R : RepH s h) (RH : RepHB HB H) (hk : KDOK k K) (hb : opDB P X b sl i o HB S te s k = true) : opD P XX b sl i o H S e h K := by
  unfold opDB at hb
  unfold opD
  split at hb <;> rename_i hc <;> simp only [hc]
  · exact opB_ok hX E R (fun v s h R' hh => hk _ _ _ _ _ _ R' RH hh) hb
  · rw [Bool.and_eq_true, touchB_eq E] at hb
    refine histB_ok (opB_ok hX E R ?_ hb.2) RH hb.1
    intro v s h R' hh
    exact hk _ _ _ _ _ _ R' RH hh
  · refine opB_ok hX E R ?_ hb
    intro v s h R' hh
    exact hk _ _ _ _ _ _ R' (.cons R R' RH) hh
  · rw [Bool.and_eq_true, touchB_eq E] at hb
    refine histB_ok (opB_ok hX E R (fun v s h R' hh => ?_) hb.2) RH hb.1
    rw [Bool.and_eq_true] at hh
    exact readB_ok (hk _ _ _ _ _ _ R' (.cons R R' RH) hh.2) R R' hh.1
  · refine opB_ok hX E R (fun v s h R' hh => ?_) hb
    rw [Bool.and_eq_true] at hh
    exact readB_ok (hk _ _ _ _ _ _ R' (.cons R R' RH) hh.2) R R' hh.1
  · cases hb
def textB (P : Program) (X : CallB) (ops : Array Oper) (b : Array Nat) (sl : List (Option Nat)) : List Oper → Nat → HB → ST → TE → HS → (TE → HS → Bool) → Bool
  | [], _, _, _, e, h, q => q e h
  | o :: r, i, H, S, e, h, q => cond (gvalB ops o e) (opDB P X b sl i o H S e h fun v h' H' S' => textB P X ops b sl r (Nat.succ i) H' S' (tput e o.dst v) h' q) (textB P X ops b sl r (Nat.succ i) H S (tput e o.dst undef) h q)
theorem textB_ok {X : CallB} {XX : CallT} (hX : XOK X XX) {ops : Array Oper} (hd : ∀ o ∈ ops.toList, ∀ d, o.dst = some d → d < 1000000) {b : Array Nat} {sl : List (Option Nat)} {q : TE → HS → Bool} {Q : Env → AH → Prop} (hq : QOK q Q) :
    ∀ (l : List Oper) (i : Nat) {HB : HB} {H : HT} {S : ST} {te : TE} {e : Env} {s : HS} {h : AH},
    RepE te e → RepH s h → RepHB HB H → ops.toList.drop i = l → textB P X ops b sl l i HB S te s q = true → textD P XX ops b sl (List.range' i l.length) H S e h Q
  | [], _, _, _, _, _, _, _, _, E, R, _, _, hb => hq _ _ _ _ E R hb
  | o :: r, i, HB, H, S, te, e, s, h, E, R, RH, hdr, hb => by
    have ho : ops[i]? = some o := by
      rw [← Array.getElem?_toList]
      have : (ops.toList.drop i)[0]? = some o := by rw [hdr]; rfl
      simpa using this
    have hr : ops.toList.drop (i + 1) = r := by
      have : (ops.toList.drop i).drop 1 = r := by rw [hdr]; rfl
      simpa [List.drop_drop, Nat.add_comm] using this
    have hdo : ∀ d, o.dst = some d → d < 1000000 := hd o (by
      rw [← List.take_append_drop i ops.toList, hdr]; simp)
    show textD P XX ops b sl (i :: List.range' (i + 1) r.length) H S e h Q
    simp only [textD, ho]
    rw [textB, gvalB_eq E] at hb
    cases hg : gval ops o e with
    | true =>
      rw [hg, _root_.cond_true] at hb
      simp only [gopD]
      refine opDB_ok hX E R RH ?_ hb
      intro v s' h' HB' H' S' R' RH' hh
      exact textB_ok hX hd hq r (i + 1) (E.put _ _ hdo) R' RH' hr hh
    | false =>
      rw [hg] at hb
      exact textB_ok hX hd hq r (i + 1) (E.put _ _ hdo) R RH hr hb
def reserveB : Nat → HS → (HS → Bool) → Bool
  | 0, h, k => k h
  | n + 1, h, k => h.push .dead fun _ h' => reserveB n h' k
theorem reserveB_ok {k : HS → Bool} {K : AH → Prop} (hk : ∀ s h, RepH s h → k s = true → K h) : ∀ (n : Nat) {s : HS} {h : AH}, RepH s h → reserveB n s k = true → K (reserve n h)
  | 0, _, _, R, hb => hk _ _ R hb
  | n + 1, s, h, R, hb => by
    simp only [reserveB, HS.push] at hb
    obtain ⟨h1, h2⟩ := cond_true hb
    exact reserveB_ok hk n (R.push .dead (blt_lt h1)) h2
def regB (P : Program) (X : CallB) (ops : Array Oper) (draw : Bool) (e : TE) (h : HS) (q : TE → HS → Bool) : Bool :=
  match draw with
  | false => ordB P X ops ops.toList e h q
  | true => cond (drawOK P ops) (reserveB (countAl P ops.toList) h fun h' => textB P X ops (Region.before ops) (slots P ops.toList h.n) ops.toList 0 [] [] e h' q) false
theorem regB_ok {X : CallB} {XX : CallT} (hX : XOK X XX) {ops : Array Oper} (hd : ∀ o ∈ ops.toList, ∀ d, o.dst = some d → d < 1000000) {draw : Bool} {q : TE → HS → Bool} {Q : Env → AH → Prop} (hq : QOK q Q) {te : TE} {e : Env} {s : HS} {h : AH}
    (E : RepE te e) (R : RepH s h) (hb : regB P X ops draw te s q = true) : regW P XX ops draw e h Q := by
  cases draw with
  | false =>
    have := ordB_ok hX hd hq ops.toList 0 E R rfl hb
    simp only [regW]
    rw [List.range_eq_range']
    exact this
  | true =>
    simp only [regB] at hb
    obtain ⟨h1, h2⟩ := cond_true hb
    simp only [regW, h1]
    rw [← R.n, List.range_eq_range']
    exact reserveB_ok (K := fun h' => textD P XX ops (Region.before ops) (slots P ops.toList s.n) (List.range' 0 ops.size) [] [] e h' Q) (fun s' h' R' hh => textB_ok hX hd hq ops.toList 0 E R' .nil rfl hh) _ R h2
end Go.AM
end

section
/- The abstract machine, run: code and calls; a run that says yes is right. Conditions: none. -/
namespace Go.AM
open Go
variable {P : Program}
abbrev KE := Exit → TE → HS → Bool
def EOK (k : KE) (Q : Exit → Env → AH → Prop) : Prop := ∀ x te e s h, RepE te e → RepH s h → k x te s = true → Q x e h
def iterB : Nat → (KE → TE → HS → Bool) → KE → TE → HS → Bool
  | 0, _, _, _, _ => false
  | n + 1, B, k, e, s => B (fun x e s => match x with
      | .normal => iterB n B k e s
      | x => k x e s) e s
def codeB (P : Program) (X : CallB) (fuel : Nat) : Code → KE → TE → HS → Bool
  | .skip, k, e, h => k .normal e h
  | .region _ ops draw, k, e, h => regB P X ops draw e h (k .normal)
  | .seq a b, k, e, h => codeB P X fuel a (fun x e h => match x with
      | .normal => codeB P X fuel b k e h
      | x => k x e h) e h
  | .cond c a b, k, e, h => match tev e c with
      | .bool true => codeB P X fuel a k e h
      | .bool false => codeB P X fuel b k e h
      | _ => false
  | .block id c, k, e, h => codeB P X fuel c (fun x e h => match x with
      | .exit id' => cond (Nat.beq id' id) (k .normal e h) (k (.exit id') e h)
      | x => k x e h) e h
  | .loop c, k, e, h => iterB fuel (codeB P X fuel c) k e h
  | .exit id, k, e, h => k (.exit id) e h
  | .ret, k, e, h => k .ret e h
  | _, _, _, _ => false
theorem ops_dst {nt : Nat} (hnt : nt < 1000000) {ops : Array Oper} (h : ops.toList.all (operOK nt) = true) : ∀ o ∈ ops.toList, ∀ d, o.dst = some d → d < 1000000 := by
  intro o ho d hd
  exact Nat.lt_trans ((operOK_dst (List.all_eq_true.1 h o ho)).2 d hd) hnt
theorem codeB_ok {X : CallB} {XX : CallT} (hX : XOK X XX) {fuel nt : Nat} (hnt : nt < 1000000) : ∀ (c : Code), codeOK nt c = true → ∀ {k : KE} {Q : Exit → Env → AH → Prop} {te : TE} {e : Env} {s : HS} {h : AH}, EOK k Q → RepE te e → RepH s h → codeB P X fuel c k te s = true → cwp P XX c Q e h
  | .skip, _, k, Q, te, e, s, h, hk, E, R, hb => hk _ _ _ _ _ E R hb
  | .region _ ops draw, hok, k, Q, te, e, s, h, hk, E, R, hb => regB_ok hX (ops_dst hnt hok) (fun te e s h E R hh => hk _ _ _ _ _ E R hh) E R hb
  | .seq a b, hok, k, Q, te, e, s, h, hk, E, R, hb => by
    simp only [codeOK, Bool.and_eq_true] at hok
    refine codeB_ok hX hnt a hok.1 (Q := thenW (cwp P XX b Q) Q) ?_ E R hb
    intro x te e s h E R hh
    cases x with
    | normal => exact codeB_ok hX hnt b hok.2 hk E R hh
    | _ => exact hk _ _ _ _ _ E R hh
  | .cond c a b, hok, k, Q, te, e, s, h, hk, E, R, hb => by
    simp only [codeOK, Bool.and_eq_true] at hok
    simp only [codeB, E.ev] at hb
    simp only [cwp]
    split at hb
    · rename_i hv
      rw [hv]
      exact codeB_ok hX hnt a hok.1.2 hk E R hb
    · rename_i hv
      rw [hv]
      exact codeB_ok hX hnt b hok.2 hk E R hb
    · cases hb
  | .block id c, hok, k, Q, te, e, s, h, hk, E, R, hb => by
    refine codeB_ok hX hnt c hok (Q := blockW id Q) ?_ E R hb
    intro x te e s h E R hh
    cases x with
    | exit id' =>
      simp only [blockW]
      dsimp only at hh
      cases hi : Nat.beq id' id with
      | true => rw [hi] at hh; exact hk _ _ _ _ _ E R hh
      | false => rw [hi] at hh; exact hk _ _ _ _ _ E R hh
    | _ => exact hk _ _ _ _ _ E R hh
  | .loop c, hok, k, Q, te, e, s, h, hk, E, R, hb => by
    intro I hI
    have key : ∀ (n : Nat) {te : TE} {e : Env} {s : HS} {h : AH}, RepE te e → RepH s h → iterB n (codeB P X fuel c) k te s = true → I e h := by
      intro n
      induction n with
      | zero => intro te e s h _ _ hb; cases hb
      | succ n ih =>
        intro te e s h E R hb
        refine hI e h (codeB_ok hX hnt c hok (Q := thenW I Q) ?_ E R hb)
        intro x te e s h E R hh
        cases x with
        | normal => exact ih E R hh
        | _ => exact hk _ _ _ _ _ E R hh
    exact key fuel E R hb
  | .exit id, _, k, Q, te, e, s, h, hk, E, R, hb => hk _ _ _ _ _ E R hb
  | .ret, _, k, Q, te, e, s, h, hk, E, R, hb => hk _ _ _ _ _ E R hb
  | .rangeFunc .., _, _, _, _, _, _, _, _, _, _, hb => by cases hb
  | .scope _, _, _, _, _, _, _, _, _, _, _, hb => by cases hb
  | .label _, _, _, _, _, _, _, _, _, _, _, hb => by cases hb
  | .goto _, _, _, _, _, _, _, _, _, _, _, hb => by cases hb
  | .refuse _, _, _, _, _, _, _, _, _, _, _, hb => by cases hb
def teOf : List Value → Nat → TE → TE
  | [], _, t => t
  | v :: r, i, t => teOf r (Nat.succ i) (Tr.set v 40 t i)
theorem teOf_get : ∀ (l : List Value) (i : Nat) (t : TE), i + l.length < 1000000 → ∀ j, Tr.get (teOf l i t) j = if i ≤ j ∧ j < i + l.length then l[j - i]? else Tr.get t j
  | [], i, t, _, j => by
    have : ¬ (i ≤ j ∧ j < i + ([] : List Value).length) := by simp
    rw [if_neg this]; rfl
  | v :: r, i, t, h, j => by
    simp only [List.length_cons] at h ⊢
    rw [teOf, teOf_get r (i + 1) _ (by omega), Tr.get_set _ _ _ _ _ (by omega)]
    by_cases h1 : j = i
    · subst h1
      rw [if_neg (by omega), if_pos rfl, if_pos (by omega)]
      simp
    · by_cases h2 : i + 1 ≤ j ∧ j < i + 1 + r.length
      · rw [if_pos h2, if_pos (by omega)]
        have : j - i = (j - (i + 1)) + 1 := by omega
        rw [this, List.getElem?_cons_succ]
      · rw [if_neg h2, if_neg h1, if_neg (by omega)]
theorem teOf_rep {args : List Value} (h : args.length < 1000000) : RepE (teOf args 0 .leaf) (envOf args) := by
  intro j
  rw [teOf_get args 0 .leaf (by omega)]
  show args.getD j undef = _
  by_cases hj : j < args.length
  · rw [if_pos (by omega)]; simp [List.getD_eq_getElem?_getD]
  · rw [if_neg (by omega), Tr.get_leaf]
    simp [List.getD_eq_getElem?_getD, List.getElem?_eq_none (by omega : args.length ≤ j)]
def resCellB (P : Program) (e : TE) (h : HS) : ResultVar → Option Value
  | .tmp t => some (tev e (.tmp t))
  | .cell a t => pLoadG P t (tev e (.tmp a)) h.lookF
def resListB (P : Program) (e : TE) (h : HS) : List ResultVar → Option (List Value)
  | [] => some []
  | r :: rs => match resCellB P e h r with
    | some v => match resListB P e h rs with
      | some vs => some (v :: vs)
      | none => none
    | none => none
theorem resListB_eq {te : TE} {e : Env} {s : HS} {h : AH} (E : RepE te e) (R : RepH s h) : ∀ (l : List ResultVar), resListB P te s l = resList P e h l
  | [] => rfl
  | r :: rs => by
    have h1 : resCellB P te s r = resCell P e h r := by
      cases r with
      | tmp t => exact congrArg some (E t).symm
      | cell a t =>
        show pLoadG P t (tev te (.tmp a)) s.lookF = pLoad P t (e a) h
        rw [R.lf, pLoadG_eq, E.ev]
        rfl
    rw [resListB, resList, h1, resListB_eq E R rs]
    rfl
def endB (P : Program) (fn : Func) (k : KB) : KE
  | .normal, e, h | .ret, e, h => optB (resListB P e h fn.results.toList) fun vs => k (resOf vs) h
  | _, _, _ => false
abbrev Orc := FuncId → List Value → (Nat → Option AObj) → Option (List Value)
def OrcOK (P : Program) (orc : Orc) : Prop := ∀ f args outs (h : AH), orc f args (fun i => h[i]?) = some outs → ∀ (K : Value → AH → Prop), (∀ v ∈ outs, K v h) → callW P f args h K
def callB (P : Program) (orc : Orc) (fuel : Nat) : Nat → CallB
  | 0, _, _, _, _ => false
  | d + 1, f, args, s, k => match orc f args s.lookF with
    | some outs => outs.all fun v => k v s
    | none => match P.funcs[f]? with
      | some fn => match fn.body, fnOK fn && decide (args.length ≤ fn.ntmps) && Nat.blt fn.ntmps 1000000 with
        | some c, true => codeB P (callB P orc fuel d) fuel c (endB P fn k) (teOf args 0 .leaf) s
        | _, _ => false
      | none => false
theorem callB_ok {orc : Orc} (ho : OrcOK P orc) {fuel : Nat} : ∀ (d : Nat), XOK (callB P orc fuel d) (callW P)
  | 0 => fun f args s k h K R hk hb => by cases hb
  | d + 1 => fun f args s k h K R hk hb => by
    simp only [callB] at hb
    split at hb
    · rename_i outs hout
      rw [R.lf] at hout
      exact ho _ _ _ h hout K fun v hv => hk _ _ _ R (List.all_eq_true.1 hb v hv)
    · split at hb
      · rename_i fn hfn
        split at hb
        · rename_i c hc hok
          simp only [Bool.and_eq_true] at hok
          have hnt := blt_lt hok.2
          have hlen : args.length ≤ fn.ntmps := of_decide_eq_true hok.1.2
          refine callW_step (.inr ?_)
          unfold stepF
          simp only [hfn, hc, hok.1.1, hok.1.2, Bool.and_self]
          have hco : codeOK fn.ntmps c = true := by
            have := hok.1.1
            unfold fnOK at this
            rw [hc, Bool.and_eq_true] at this
            exact this.2
          refine codeB_ok (callB_ok ho d) hnt c hco ?_ (teOf_rep (by omega)) R hb
          intro x te e s h E R hh
          cases x with
          | normal =>
            simp only [endB, resListB_eq E R] at hh
            exact optB_ok hh fun v hv => hk _ _ _ R hv
          | ret =>
            simp only [endB, resListB_eq E R] at hh
            exact optB_ok hh fun v hv => hk _ _ _ R hv
          | _ => cases hh
        · cases hb
      · cases hb
def orcJoin (g : Nat) : Orc := fun f args look => cond (Nat.beq f g) (match args with
  | [v, .string sep] => match strsL v look with
    | some xs => cond (Nat.ble xs.length 1000000 && Nat.ble (Lib.join (xs.map (·.data.toList)) sep.data.toList).length 1000000) (some [.string (joinS xs sep)]) none
    | none => none
  | _ => none) none
theorem orcJoin_ok {g : Nat} (hj : isJoin P g) : OrcOK P (orcJoin g) := fun f args outs h ho K hK => by
  unfold orcJoin at ho
  rw [Tr.cond_beq] at ho
  split at ho
  · rename_i hf
    subst hf
    split at ho
    · rename_i v sep
      split at ho
      · rename_i xs hx
        cases hb : (Nat.ble xs.length 1000000 && Nat.ble (Lib.join (xs.map (·.data.toList)) sep.data.toList).length 1000000) with
        | false => rw [hb] at ho; cases ho
        | true =>
          rw [hb] at ho
          cases ho
          rw [Bool.and_eq_true] at hb
          exact callW_step (.inl ⟨hj, v, sep, xs, rfl, hx, Nat.le_of_ble_eq_true hb.1, Nat.le_of_ble_eq_true hb.2, hK _ (by simp)⟩)
      · cases ho
    · cases ho
  · cases ho
def hs0 : HS := ⟨.leaf, 0⟩
theorem hs0_rep : RepH hs0 [] where
  look i := by show Tr.get .leaf i = _; rw [Tr.get_leaf]; simp
  n := rfl
  le := by decide
def isTrueV (v : Value) : Bool :=
  match v with
  | .bool true => true
  | _ => false
theorem isTrueV_eq {v : Value} (h : isTrueV v = true) : v = .bool true := by
  unfold isTrueV at h
  split at h
  · rfl
  · cases h
end Go.AM
end

section
/- The words of printed functions: operations with their types looked up, loops, calls. Conditions: none. -/
namespace Go.AM
open Go
variable {P : Program}
def bs (l : List UInt8) : ByteArray := ⟨⟨l⟩⟩
def bld (z : List Value) (pl : List (Nat × Nat)) (parts : List (Nat × Value)) : Option Value :=
  (fillL (fun i => pl[i]?) z parts).map fun cs => .agg cs.toArray
def bldSl (size : Nat) (z : List Value) (len : Nat) (parts : List (Nat × Value)) : Option (List Value) :=
  if z.length = size ∧ len * size ≤ 16777216 ∧ len ≤ 16777216 then fillL (fun j => some (j * size, size)) (repL z len) parts else none
def lenSl (x : Value) : Option Value :=
  match x with
  | .slice _ n _ => some (.int .i64 n)
  | _ => none
def lenStr (x : Value) : Option Value :=
  match x with
  | .string s => some (.int .i64 s.size)
  | _ => none
def appSl (s : Nat) (b x : Value) (h : AH) (K : Value → AH → Prop) : Prop :=
  match x with
  | .slice .. => appS s b x h K
  | _ => False
def strB (x : Value) (slot : Option Nat) (h : AH) (K : Value → AH → Prop) : Prop :=
  match x with
  | .string b => aStrBytes b slot h K
  | _ => False
def newR (slot : Option Nat) (c : List Value) (h : AH) (K : Value → AH → Prop) : Prop :=
  newW slot (.row c true) h fun id h' => K (.pointer (some ⟨id, 0, none⟩)) h'
def loopE (B : (Env → AH → Prop) → Env → AH → Prop) (e : Env) (h : AH) : Prop :=
  ∀ I : Env → AH → Prop, (∀ e h, B I e h → I e h) → I e h
def joinE (B : (Env → AH → Prop) → Prop) (J : Env → AH → Prop) : Prop := B J
def gvalS (ops : Array Oper) (g : Nat × Bool) (e : Env) : Bool :=
  match (ops[g.1]?).bind (·.dst) with
  | some t => gB (e t) g.2
  | none => false
theorem gval_some {ops : Array Oper} {o : Oper} {g : Nat × Bool} (h : o.guard = some g) (e : Env) : gval ops o e = gvalS ops g e := by
  unfold gval gvalS
  rw [h]
  rfl
theorem gval_none {ops : Array Oper} {o : Oper} (h : o.guard = none) (e : Env) : gval ops o e = true := by
  unfold gval
  rw [h]
def ordW2 (P : Program) (X : CallT) (ops : Array Oper) : List Nat → Env → AH → (Env → AH → Prop) → Prop
  | [], e, h, Q => Q e h
  | i :: r, e, h, Q => match ops[i]? with
    | none => ordW2 P X ops r e h Q
    | some o => match o.guard with
      | none => opW P X none o e h fun v h' => ordW2 P X ops r (putE e o.dst v) h' Q
      | some g => gopW (gvalS ops g e) (opW P X none o e h) h fun v h' => ordW2 P X ops r (putE e o.dst v) h' Q
theorem ordW2_eq (P : Program) (X : CallT) (ops : Array Oper) (Q : Env → AH → Prop) : ∀ (l : List Nat) (e : Env) (h : AH), ordW2 P X ops l e h Q = ordW P X ops (fun _ => none) l e h Q
  | [], _, _ => rfl
  | i :: r, e, h => by
    rw [ordW2, ordW]
    cases ho : ops[i]? with
    | none => exact ordW2_eq P X ops Q r e h
    | some o =>
      dsimp only
      have hr : (fun v h' => ordW2 P X ops r (putE e o.dst v) h' Q) = fun v h' => ordW P X ops (fun _ => none) r (putE e o.dst v) h' Q := by
        funext v h'
        exact ordW2_eq P X ops Q r _ _
      rw [hr]
      cases hg : o.guard with
      | none => rw [gval_none hg]; rfl
      | some g => rw [gval_some hg]
def textD2 (P : Program) (X : CallT) (ops : Array Oper) (b : Array Nat) (sl : List (Option Nat)) : List Nat → HT → ST → Env → AH → (Env → AH → Prop) → Prop
  | [], _, _, e, h, Q => Q e h
  | i :: r, H, S, e, h, Q => match ops[i]? with
    | none => False
    | some o => match o.guard with
      | none => opD P X b sl i o H S e h fun v h' H' S' => textD2 P X ops b sl r H' S' (putE e o.dst v) h' Q
      | some g => gopD (gvalS ops g e) (opD P X b sl i o H S e h) h H S fun v h' H' S' => textD2 P X ops b sl r H' S' (putE e o.dst v) h' Q
theorem textD2_eq (P : Program) (X : CallT) (ops : Array Oper) (b : Array Nat) (sl : List (Option Nat)) (Q : Env → AH → Prop) : ∀ (l : List Nat) (H : HT) (S : ST) (e : Env) (h : AH), textD2 P X ops b sl l H S e h Q = textD P X ops b sl l H S e h Q
  | [], _, _, _, _ => rfl
  | i :: r, H, S, e, h => by
    rw [textD2, textD]
    cases ho : ops[i]? with
    | none => rfl
    | some o =>
      dsimp only
      have hr : (fun v h' H' S' => textD2 P X ops b sl r H' S' (putE e o.dst v) h' Q) = fun v h' H' S' => textD P X ops b sl r H' S' (putE e o.dst v) h' Q := by
        funext v h' H' S'
        exact textD2_eq P X ops b sl Q r _ _ _ _
      rw [hr]
      cases hg : o.guard with
      | none => rw [gval_none hg]; rfl
      | some g => rw [gval_some hg]
def regW2 (P : Program) (X : CallT) (ops : Array Oper) (draw : Bool) (e : Env) (h : AH) (Q : Env → AH → Prop) : Prop :=
  match draw with
  | false => ordW2 P X ops (List.range ops.size) e h Q
  | true => match drawOK P ops with
    | true => textD2 P X ops (Region.before ops) (slots P ops.toList h.length) (List.range ops.size) [] [] e (reserve (countAl P ops.toList) h) Q
    | false => False
theorem regW2_eq (P : Program) (X : CallT) (ops : Array Oper) (draw : Bool) (e : Env) (h : AH) (Q : Env → AH → Prop) : regW2 P X ops draw e h Q = regW P X ops draw e h Q := by
  cases draw with
  | false => exact ordW2_eq _ _ _ _ _ _ _
  | true =>
    simp only [regW2, regW]
    cases drawOK P ops with
    | false => rfl
    | true => exact textD2_eq _ _ _ _ _ _ _ _ _ _ _
def cwp2 (P : Program) (X : CallT) : Code → (Exit → Env → AH → Prop) → Env → AH → Prop
  | .skip, Q, e, h => Q .normal e h
  | .region _ ops draw, Q, e, h => regW2 P X ops draw e h (Q .normal)
  | .seq a b, Q, e, h => cwp2 P X a (thenW (cwp2 P X b Q) Q) e h
  | .cond c a b, Q, e, h => condW (ev e c) (cwp2 P X a Q e h) (cwp2 P X b Q e h)
  | .block id c, Q, e, h => cwp2 P X c (blockW id Q) e h
  | .loop c, Q, e, h => loopW (cwp2 P X c) Q e h
  | .exit id, Q, e, h => Q (.exit id) e h
  | .ret, Q, e, h => Q .ret e h
  | _, _, _, _ => False
theorem cwp2_eq (P : Program) (X : CallT) : ∀ (c : Code), cwp2 P X c = cwp P X c
  | .skip => rfl
  | .region _ ops draw => by funext Q e h; exact regW2_eq _ _ _ _ _ _ _
  | .seq a b => by funext Q e h; simp only [cwp2, cwp, cwp2_eq P X a, cwp2_eq P X b]
  | .cond c a b => by funext Q e h; simp only [cwp2, cwp, cwp2_eq P X a, cwp2_eq P X b]
  | .block id c => by funext Q e h; simp only [cwp2, cwp, cwp2_eq P X c]
  | .loop c => by funext Q e h; simp only [cwp2, cwp, cwp2_eq P X c]
  | .exit id => rfl
  | .ret => rfl
  | .rangeFunc .. => rfl
  | .scope _ => rfl
  | .label _ => rfl
  | .goto _ => rfl
  | .refuse _ => rfl
theorem callW_of {f : FuncId} {fn : Func} {args : List Value} {h : AH} {K : Value → AH → Prop} (hf : P.funcs[f]? = some fn) (hok : (fnOK fn && decide (args.length ≤ fn.ntmps)) = true)
    (hw : cwp2 P (callW P) (fn.body.getD .skip) (endW P fn K) (envOf args) h) : callW P f args h K := by
  rw [cwp2_eq] at hw
  refine callW_step (.inr ?_)
  unfold stepF
  rw [hf]
  dsimp only
  have hb : ∃ c, fn.body = some c := by
    simp only [Bool.and_eq_true] at hok
    have := hok.1
    unfold fnOK at this
    cases h : fn.body with
    | none => rw [h] at this; simp at this
    | some c => exact ⟨c, rfl⟩
  obtain ⟨c, hb⟩ := hb
  rw [hb] at hw ⊢
  rw [hok]
  exact hw
end Go.AM
namespace Go.AM
open Go
abbrev pt (e : Env) (d : Nat) (v : Value) : Env := putE e (some d) v
end Go.AM
end

section
/- Rules for walking through printed functions: numbers, tests, words. Conditions: none. -/
namespace Go.AM
open Go
variable {P : Program} {t : Nat}
theorem w_some {α : Type} {o : Option α} {v : α} {K : α → Prop} (h : o = some v) (k : K v) : optW o K := by rw [h]; exact k
theorem wrap_in (n : Int) (h1 : -9223372036854775808 ≤ n) (h2 : n ≤ 9223372036854775807) : IntKind.i64.wrap n = n := by
  simp only [IntKind.wrap, IntKind.bits, IntKind.signed]
  simp
  omega
theorem w_add {a b : Int} {K : Value → Prop} (h1 : -9223372036854775808 ≤ a + b) (h2 : a + b ≤ 9223372036854775807) (k : K (.int .i64 (a + b))) : optW (pBin P .add t (.int .i64 a) (.int .i64 b)) K := by
  refine w_some (v := .int .i64 (a + b)) ?_ k
  show (if IntKind.i64 = IntKind.i64 then pBinI .add .i64 a b else none) = _
  rw [if_pos rfl, pBinI, wrap_in _ h1 h2]
theorem w_sub {a b : Int} {K : Value → Prop} (h1 : -9223372036854775808 ≤ a - b) (h2 : a - b ≤ 9223372036854775807) (k : K (.int .i64 (a - b))) : optW (pBin P .sub t (.int .i64 a) (.int .i64 b)) K := by
  refine w_some (v := .int .i64 (a - b)) ?_ k
  show (if IntKind.i64 = IntKind.i64 then pBinI .sub .i64 a b else none) = _
  rw [if_pos rfl, pBinI, wrap_in _ h1 h2]
theorem w_tmod {kd : IntKind} {a b : Int} {K : Value → Prop} (h : b ≠ 0) (k : K (.int kd (a.tmod b))) : optW (pBin P .rem t (.int kd a) (.int kd b)) K := by
  refine w_some (v := .int kd (a.tmod b)) ?_ k
  show (if kd = kd then pBinI .rem kd a b else none) = _
  rw [if_pos rfl, pBinI, if_neg h]
theorem w_rem {kd : IntKind} {a b : Int} {K : Value → Prop} (h : 0 < b) (h0 : 0 ≤ a) (k : K (.int kd (a % b))) : optW (pBin P .rem t (.int kd a) (.int kd b)) K := by
  refine w_tmod (by omega) ?_
  rw [Int.tmod_eq_emod_of_nonneg h0]
  exact k
theorem w_quo {a b : Int} {K : Value → Prop} (h : 0 < b) (h0 : 0 ≤ a) (h1 : a ≤ 9223372036854775807) (k : K (.int .i64 (a / b))) : optW (pBin P .quo t (.int .i64 a) (.int .i64 b)) K := by
  refine w_some (v := .int .i64 (a / b)) ?_ k
  show (if IntKind.i64 = IntKind.i64 then pBinI .quo .i64 a b else none) = _
  rw [if_pos rfl, pBinI, if_neg (by omega), Int.tdiv_eq_ediv_of_nonneg h0]
  have g1 : 0 ≤ a / b := Int.ediv_nonneg h0 (by omega)
  have g2 : a / b ≤ a := Int.ediv_le_self _ h0
  rw [wrap_in _ (by omega) (by omega)]
theorem w_lss {kd : IntKind} {a b : Int} {K : Value → Prop} (k : K (.bool (decide (a < b)))) : optW (pBin P .lss t (.int kd a) (.int kd b)) K := by
  refine w_some (v := .bool (decide (a < b))) ?_ k
  show (if kd = kd then pBinI .lss kd a b else none) = _
  rw [if_pos rfl, pBinI]
theorem w_leq {kd : IntKind} {a b : Int} {K : Value → Prop} (k : K (.bool (decide (a ≤ b)))) : optW (pBin P .leq t (.int kd a) (.int kd b)) K := by
  refine w_some (v := .bool (decide (a ≤ b))) ?_ k
  show (if kd = kd then pBinI .leq kd a b else none) = _
  rw [if_pos rfl, pBinI]
theorem w_gtr {kd : IntKind} {a b : Int} {K : Value → Prop} (k : K (.bool (decide (b < a)))) : optW (pBin P .gtr t (.int kd a) (.int kd b)) K := by
  refine w_some (v := .bool (decide (b < a))) ?_ k
  show (if kd = kd then pBinI .gtr kd a b else none) = _
  rw [if_pos rfl, pBinI]
theorem w_geq {kd : IntKind} {a b : Int} {K : Value → Prop} (k : K (.bool (decide (b ≤ a)))) : optW (pBin P .geq t (.int kd a) (.int kd b)) K := by
  refine w_some (v := .bool (decide (b ≤ a))) ?_ k
  show (if kd = kd then pBinI .geq kd a b else none) = _
  rw [if_pos rfl, pBinI]
theorem w_eql {kd : IntKind} {a b : Int} {K : Value → Prop} (k : K (.bool (decide (a = b)))) : optW (pBin P .eql t (.int kd a) (.int kd b)) K := by
  refine w_some (v := .bool (decide (a = b))) ?_ k
  show (if kd = kd then pBinI .eql kd a b else none) = _
  rw [if_pos rfl, pBinI]
  rfl
theorem w_neq {kd : IntKind} {a b : Int} {K : Value → Prop} (k : K (.bool (decide (¬ a = b)))) : optW (pBin P .neq t (.int kd a) (.int kd b)) K := by
  refine w_some (v := .bool (decide (¬ a = b))) ?_ k
  show (if kd = kd then pBinI .neq kd a b else none) = _
  rw [if_pos rfl, pBinI]
  congr 2
  by_cases h : a = b <;> simp [h]
theorem bs_data (l : List UInt8) : (bs l).data.toList = l := rfl
theorem w_seql {l m : List UInt8} {K : Value → Prop} (k : K (.bool (decide (l = m)))) : optW (pBin P .eql t (.string (bs l)) (.string (bs m))) K := by
  refine w_some (v := .bool (decide (l = m))) ?_ k
  show pBinS .eql (bs l) (bs m) = _
  rw [pBinS, bytes_toList, bytes_toList, bs_data, bs_data]
  congr 2
  by_cases h : l = m <;> simp [h]
theorem w_sneq {l m : List UInt8} {K : Value → Prop} (k : K (.bool (decide (¬ l = m)))) : optW (pBin P .neq t (.string (bs l)) (.string (bs m))) K := by
  refine w_some (v := .bool (decide (¬ l = m))) ?_ k
  show pBinS .neq (bs l) (bs m) = _
  rw [pBinS, bytes_toList, bytes_toList, bs_data, bs_data]
  congr 2
  by_cases h : l = m <;> simp [h]
theorem w_lenStr {l : List UInt8} {K : Value → Prop} (k : K (.int .i64 (l.length : Nat))) : optW (lenStr (.string (bs l))) K := k
theorem w_not {p : Prop} [Decidable p] {K : Value → Prop} (k : K (.bool (decide (¬ p)))) : optW (pUn .not (.bool (decide p))) K := by
  refine w_some (v := .bool (decide (¬ p))) ?_ k
  by_cases h : p <;> simp [pUn, h]
theorem pk_tt {p : Prop} [Decidable p] {a b : Value} {K : Value → Prop} (h : p) (k : K a) : optW (pPick (.bool (decide p)) a b) K := by
  rw [decide_eq_true h]; exact k
theorem pk_ff {p : Prop} [Decidable p] {a b : Value} {K : Value → Prop} (h : ¬ p) (k : K b) : optW (pPick (.bool (decide p)) a b) K := by
  rw [decide_eq_false h]; exact k
theorem pk_t {a b : Value} {K : Value → Prop} (k : K a) : optW (pPick (.bool true) a b) K := k
theorem pk_f {a b : Value} {K : Value → Prop} (k : K b) : optW (pPick (.bool false) a b) K := k
theorem c_dec {p : Prop} [Decidable p] {A B : Prop} (ha : p → A) (hb : ¬ p → B) : condW (.bool (decide p)) A B := by
  by_cases h : p
  · rw [decide_eq_true h]; exact ha h
  · rw [decide_eq_false h]; exact hb h
theorem c_tt {p : Prop} [Decidable p] {A B : Prop} (h : p) (ha : A) : condW (.bool (decide p)) A B := by
  rw [decide_eq_true h]; exact ha
theorem c_ff {p : Prop} [Decidable p] {A B : Prop} (h : ¬ p) (hb : B) : condW (.bool (decide p)) A B := by
  rw [decide_eq_false h]; exact hb
theorem c_t {A B : Prop} (ha : A) : condW (.bool true) A B := ha
theorem c_f {A B : Prop} (hb : B) : condW (.bool false) A B := hb
theorem c_b {b : Bool} {A B : Prop} (ha : b = true → A) (hb : b = false → B) : condW (.bool b) A B := by
  cases b with
  | true => exact ha rfl
  | false => exact hb rfl
theorem g_dec {p : Prop} [Decidable p] {f : (Value → AH → Prop) → Prop} {h : AH} {K : Value → AH → Prop} (ha : p → f K) (hb : ¬ p → K undef h) : gopW (gB (.bool (decide p)) true) f h K := by
  by_cases h : p
  · rw [decide_eq_true h]; exact ha h
  · rw [decide_eq_false h]; exact hb h
theorem g_decf {p : Prop} [Decidable p] {f : (Value → AH → Prop) → Prop} {h : AH} {K : Value → AH → Prop} (ha : p → K undef h) (hb : ¬ p → f K) : gopW (gB (.bool (decide p)) false) f h K := by
  by_cases h : p
  · rw [decide_eq_true h]; exact ha h
  · rw [decide_eq_false h]; exact hb h
theorem g_tt {p : Prop} [Decidable p] {f : (Value → AH → Prop) → Prop} {h : AH} {K : Value → AH → Prop} (hp : p) (k : f K) : gopW (gB (.bool (decide p)) true) f h K := by
  rw [decide_eq_true hp]; exact k
theorem g_tf {p : Prop} [Decidable p] {f : (Value → AH → Prop) → Prop} {h : AH} {K : Value → AH → Prop} (hp : ¬ p) (k : K undef h) : gopW (gB (.bool (decide p)) true) f h K := by
  rw [decide_eq_false hp]; exact k
theorem g_ft {p : Prop} [Decidable p] {f : (Value → AH → Prop) → Prop} {h : AH} {K : Value → AH → Prop} (hp : p) (k : K undef h) : gopW (gB (.bool (decide p)) false) f h K := by
  rw [decide_eq_true hp]; exact k
theorem g_ff {p : Prop} [Decidable p] {f : (Value → AH → Prop) → Prop} {h : AH} {K : Value → AH → Prop} (hp : ¬ p) (k : f K) : gopW (gB (.bool (decide p)) false) f h K := by
  rw [decide_eq_false hp]; exact k
theorem gc_tt {f : (Value → AH → Prop) → Prop} {h : AH} {K : Value → AH → Prop} (k : f K) : gopW (gB (.bool true) true) f h K := k
theorem gc_ft {f : (Value → AH → Prop) → Prop} {h : AH} {K : Value → AH → Prop} (k : K undef h) : gopW (gB (.bool true) false) f h K := k
theorem gc_tf {f : (Value → AH → Prop) → Prop} {h : AH} {K : Value → AH → Prop} (k : K undef h) : gopW (gB (.bool false) true) f h K := k
theorem gc_ff {f : (Value → AH → Prop) → Prop} {h : AH} {K : Value → AH → Prop} (k : f K) : gopW (gB (.bool false) false) f h K := k
theorem w_lenSl {a : Option Addr} {n c : Nat} {K : Value → Prop} (k : K (.int .i64 n)) : optW (lenSl (.slice a n c)) K := k
end Go.AM
end

section
/- A known function 'within': what a run may take of it. Conditions: none. -/
namespace Go.AM
open Go
set_option linter.unusedVariables false
theorem tmod_emod (a n : Int) (h : 0 < n) : (if a.tmod n < 0 then a.tmod n + n else a.tmod n) = a % n ∧ (a.tmod n < 0 → a.tmod n + n = a % n) ∧ (¬ a.tmod n < 0 → a.tmod n = a % n) ∧ - n < a.tmod n ∧ a.tmod n < n := by
  have h2 := Int.emod_nonneg a (by omega : n ≠ 0)
  have h3 := Int.emod_lt_of_pos a h
  have h4 := Int.tmod_eq_emod (a := a) (b := n)
  split at h4
  · generalize a % n = r at *
    generalize a.tmod n = m at *
    refine ⟨?_, ?_, ?_, ?_, ?_⟩
    · rw [if_neg (by omega)]; omega
    all_goals omega
  · rename_i hx
    have h5 : a % n ≠ 0 := fun e => hx (.inr (Int.dvd_of_emod_eq_zero e))
    have h6 : (n.natAbs : Int) = n := by omega
    generalize a % n = r at *
    generalize a.tmod n = m at *
    refine ⟨?_, ?_, ?_, ?_, ?_⟩
    · rw [if_pos (by omega)]; omega
    all_goals omega
end Go.AM
namespace Go.AM
open Go
theorem callW_unstep {P : Program} {f : FuncId} {args : List Value} {h : AH} {K : Value → AH → Prop} (hc : callW P f args h K) : stepW P (callW P) f args h K :=
  hc (stepW P (callW P)) fun _ _ _ _ hs => stepW_mono (X := stepW P (callW P)) (Y := callW P) (fun f args h K K' hm hx => callW_step (stepW_mono callW_mono _ _ _ _ _ hm hx)) _ _ _ _ _ (fun _ _ h => h) hs
theorem callW_body {P : Program} {f : FuncId} {fn : Func} {args : List Value} {h : AH} {K : Value → AH → Prop} (hf : P.funcs[f]? = some fn) (hc : callW P f args h K) (hn : (fn.name == "strings.Join") = false := by rfl) : cwp2 P (callW P) (fn.body.getD .skip) (endW P fn K) (envOf args) h := by
  have := (callW_unstep hc).resolve_left fun hl => by
    rw [isJoin_name hl.1 hf] at hn
    exact absurd hn (by decide)
  unfold stepF at this
  rw [hf] at this
  dsimp only at this
  rw [cwp2_eq]
  split at this
  · rename_i c hb _
    rw [hb]
    exact this
  · exact this.elim
end Go.AM
end

section
/- Rules for walking through printed functions: memory. Conditions: none. -/
namespace Go.AM
open Go
structure Ex (h h' : AH) : Prop where
  len : h.length ≤ h'.length
  get : ∀ j, j < h.length → h'[j]? = h[j]?
theorem Ex.refl (h : AH) : Ex h h := ⟨Nat.le_refl _, fun _ _ => rfl⟩
theorem Ex.trans {a b c : AH} (x : Ex a b) (y : Ex b c) : Ex a c := ⟨Nat.le_trans x.len y.len, fun j hj => (y.get j (Nat.lt_of_lt_of_le hj x.len)).trans (x.get j hj)⟩
theorem Ex.app (h : AH) (t : AH) : Ex h (h ++ t) := ⟨by simp, fun j hj => List.getElem?_append_left hj⟩
theorem Ex.push {a h : AH} (x : Ex a h) (o : AObj) : Ex a (h ++ [o]) := x.trans (.app h [o])
theorem Ex.set {a h : AH} (x : Ex a h) {i : Nat} (hi : a.length ≤ i) (o : AObj) : Ex a (h.set i o) :=
  ⟨by rw [List.length_set]; exact x.len, fun j hj => by rw [List.getElem?_set, if_neg (by omega)]; exact x.get j hj⟩
theorem Ex.some {h h' : AH} (x : Ex h h') {i : Nat} {o : AObj} (hi : h[i]? = some o) : h'[i]? = some o := by
  rw [x.get i (List.getElem?_eq_some_iff.1 hi).1]; exact hi
theorem get_set (h : AH) {i : Nat} (hi : i < h.length) (o : AObj) : (h.set i o)[i]? = some o := by simp [hi]
def PtrTo (h : AH) (p : Value) (cs : List Value) : Prop := ∃ id off c w, p = .pointer (some ⟨id, off, none⟩) ∧ h[id]? = some (.row c w) ∧ off + cs.length ≤ c.length ∧ (c.drop off).take cs.length = cs
theorem PtrTo.ex {h h' : AH} {p : Value} {cs : List Value} (hp : PtrTo h p cs) (x : Ex h h') : PtrTo h' p cs := by
  obtain ⟨id, off, c, w, rfl, h1, h2, h3⟩ := hp
  exact ⟨id, off, c, w, rfl, x.some h1, h2, h3⟩
def Sl (s : Nat) (h : AH) (v : Value) (n : Nat) (cs : List Value) : Prop :=
  cs.length = n * s ∧ ((v = .slice none 0 0 ∧ n = 0) ∨ ∃ id off cap, v = .slice (some ⟨id, off, none⟩) n cap ∧ (cap < openCap ∧ n ≤ cap ∨ cap = openCap + s) ∧
    (n = 0 ∨ ∃ c w, h[id]? = some (.row c w) ∧ off + n * s ≤ c.length ∧ (c.drop off).take (n * s) = cs))
theorem Sl.ex {s : Nat} {h h' : AH} {v : Value} {n : Nat} {cs : List Value} (hv : Sl s h v n cs) (x : Ex h h') : Sl s h' v n cs := by
  refine ⟨hv.1, ?_⟩
  rcases hv.2 with h1 | ⟨id, off, cap, h1, h2, h3⟩
  · exact .inl h1
  · refine .inr ⟨id, off, cap, h1, h2, ?_⟩
    rcases h3 with h3 | ⟨c, w, h3, h4⟩
    · exact .inl h3
    · exact .inr ⟨c, w, x.some h3, h4⟩
def OwnSl (s : Nat) (b : Nat) (h : AH) (v : Value) (n : Nat) (cs : List Value) : Prop :=
  (v = .slice none 0 0 ∧ n = 0 ∧ cs = []) ∨ ∃ id, b ≤ id ∧ v = .slice (some ⟨id, 0, none⟩) n (openCap + s) ∧ h[id]? = some (.row cs true) ∧ cs.length = n * s
theorem OwnSl.sl {s b : Nat} {h : AH} {v : Value} {n : Nat} {cs : List Value} (ho : OwnSl s b h v n cs) : Sl s h v n cs := by
  rcases ho with ⟨rfl, rfl, rfl⟩ | ⟨id, hb, rfl, h1, h2⟩
  · exact ⟨by simp, .inl ⟨rfl, rfl⟩⟩
  · exact ⟨h2, .inr ⟨id, 0, _, rfl, .inr rfl, .inr ⟨cs, true, h1, by omega, by rw [← h2]; simp⟩⟩⟩
theorem OwnSl.ex {s b : Nat} {h h' : AH} {v : Value} {n : Nat} {cs : List Value} (ho : OwnSl s b h v n cs) (x : Ex h h') : OwnSl s b h' v n cs := by
  rcases ho with h1 | ⟨id, hb, h1, h2, h3⟩
  · exact .inl h1
  · exact .inr ⟨id, hb, h1, x.some h2, h3⟩
theorem OwnSl.nil (s b : Nat) (h : AH) : OwnSl s b h (.slice none 0 0) 0 [] := .inl ⟨rfl, rfl, rfl⟩
theorem OwnSl.mono {s b b' : Nat} {h : AH} {v : Value} {n : Nat} {cs : List Value} (ho : OwnSl s b h v n cs) (hb : b' ≤ b) : OwnSl s b' h v n cs := by
  rcases ho with h1 | ⟨id, h0, h1⟩
  · exact .inl h1
  · exact .inr ⟨id, Nat.le_trans hb h0, h1⟩
end Go.AM
namespace Go.AM
open Go
end Go.AM
namespace Go.AM
end Go.AM
namespace Go.AM
open Go
end Go.AM
end

section
/- From a run of the abstract machine to a call of Go's model: it returns true, and nothing that was there has turned. Conditions: the arguments that came in are only read. -/
namespace Go.AM
open Go Go.RowKit
variable {P : Program}
theorem law_lift (hmix : P.follows .mixedOrders = true) {f : FuncId} {args : List Value} {h : AH} {β : Bj} {args' : Array Value} {w : World} (hA : ListR β args args') (R : Rel β h w) (hro : ∀ i : Nat, live h[i]? = true → isRo h[i]? = true)
    (hc : callW P f args h fun v _ => v = .bool true) : Calls P f args' w fun e w' => e = .returned (.bool true) ∧ Below w.heap.size w w' := by
  refine Calls.mono ((callW_sim hmix _ _ _ _ hc).2 β args' w hA R) ?_
  rintro e w' ⟨v, v', β', h', rfl, rfl, hv, _, X⟩
  cases hv
  refine ⟨rfl, X.os, X.tape, X.out, X.size, fun k hk => X.cfr k hk ?_⟩
  rintro ⟨id, p, _, _, h1, h2⟩
  rw [hro id h1] at h2
  cases h2
def β0 : Bj := fun _ => none
structure InRow where
  has : Bool
  b : Nat
  off : Nat
  cells : List Value
def inObj (r : InRow) : AObj := if r.has = true then .row r.cells false else .dead
def InRow.pl (r : InRow) : Pl := ⟨r.b, r.off, r.off + r.cells.length, 1⟩
def βIn (rs : List InRow) : Bj := fun i => (rs[i]?).map InRow.pl
def InRow.at (r : InRow) (w : World) : Prop := r.has = true → ∃ cc e fr, w.heap[r.b]? = some (.cells cc e fr) ∧ r.off + r.cells.length ≤ cc.size ∧ (∀ i, i < r.cells.length → cc.getD (r.off + i) undef = r.cells.getD i undef) ∧ (∀ v ∈ r.cells, pureS v = true)
theorem roIn (rs : List InRow) : ∀ i : Nat, live (rs.map inObj)[i]? = true → isRo (rs.map inObj)[i]? = true := by
  intro k hk
  rw [List.getElem?_map] at hk ⊢
  cases e : rs[k]? with
  | none => rw [e] at hk; cases hk
  | some r =>
    rw [e] at hk
    simp only [Option.map_some, inObj] at hk ⊢
    cases hr : r.has with
    | false => rw [hr] at hk; cases hk
    | true => rfl
theorem relIn (rs : List InRow) (w : World) (h : ∀ r ∈ rs, r.at w) : Rel (βIn rs) (rs.map inObj) w where
  lt {id p} hp := by
    unfold βIn at hp
    cases e : rs[id]? with
    | none => rw [e] at hp; cases hp
    | some r => rw [List.length_map]; exact (List.getElem?_eq_some_iff.1 e).1
  obj {id p o} hp ho := by
    unfold βIn at hp
    cases e : rs[id]? with
    | none => rw [e] at hp; cases hp
    | some r =>
      rw [e] at hp
      rw [List.getElem?_map, e] at ho
      obtain rfl := Option.some.inj hp
      obtain rfl := Option.some.inj ho
      unfold inObj
      cases hr : r.has with
      | false => trivial
      | true =>
        obtain ⟨cc, el, fr, h1, h2, h3, h4⟩ := h r (List.mem_of_getElem? e) hr
        refine ⟨cc, el, fr, h1, Nat.le_refl _, h2, fun i hi => ?_, fun x => (by cases x), fun v hv => pureS_one (h4 v hv)⟩
        have := h3 i hi
        show VR _ _ (cc.getD (r.off + i) undef)
        rw [this]
        exact .ofPureS (h4 _ (by rw [List.getD_eq_getElem?_getD, List.getElem?_eq_getElem hi]; exact List.getElem_mem hi))
  sep {i j p q} hij hi hj li lj hr := by
    rw [roIn rs i li, roIn rs j lj] at hr
    cases hr
end Go.AM
namespace Go.AM
open Go
theorem i64_wf {n : Int} (h : (Lit.int .i64 n).wf = true) : -9223372036854775808 ≤ n ∧ n ≤ 9223372036854775807 := by
  simp [Lit.wf, IntKind.min, IntKind.max, IntKind.bits, IntKind.signed] at h
  omega
end Go.AM
end
