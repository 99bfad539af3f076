/- Parts of a proof, joined by a program. Conditions: none. -/
import Derived.Calls
import Derived.Laws.Sem
import Derived.Laws.Entries
import Derived.Laws.StructEq
import Derived.Deep.AppendSrc
import Derived.Laws.IdiomCopy
import Derived.Laws.Cells
import Derived.Laws.Small
import Derived.Laws.Append
import Derived.Shelf.Strings.OnBuilder
import Derived.LaidEql

section
/- An abstract machine for Go's model: values, heap, and how an abstract heap stands for a world. Conditions: none. -/
namespace Go.AM
open Go
inductive AObj where
  | row (c : List Value) (wr : Bool)
  | map (es : List (Value × Value × Nat)) (clock : Nat)
  | mapIter (m : Option Nat) (since : Nat) (seen : List Nat) (last : Nat)
  | strIter (s : ByteArray) (pos : Nat)
  | dead
abbrev AH := List AObj
structure Pl where
  b : Nat
  sh : Nat
  room : Nat
  es : Nat
abbrev Bj := Nat → Option Pl
def openCap : Nat := 18446744073709551616
inductive VR (β : Bj) : Value → Value → Prop
  | bool (b : Bool) : VR β (.bool b) (.bool b)
  | int (k : IntKind) (n : Int) : VR β (.int k n) (.int k n)
  | float (k : FloatKind) (n : Nat) : VR β (.float k n) (.float k n)
  | complex (k : FloatKind) (n m : Nat) : VR β (.complex k n m) (.complex k n m)
  | str (s : ByteArray) : VR β (.string s) (.string s)
  | nilp : VR β (.pointer none) (.pointer none)
  | ptr {id off : Nat} {p : Pl} (h : β id = some p) : VR β (.pointer (some ⟨id, off, none⟩)) (.pointer (some ⟨p.b, p.sh + off, none⟩))
  | nils : VR β (.slice none 0 0) (.slice none 0 0)
  | slx {id off len cap : Nat} {p : Pl} {a : Addr} (h : β id = some p) (hl : len ≤ cap) (hc : cap < openCap) (ha : cap = 0 ∨ a = ⟨p.b, p.sh + off, none⟩) : VR β (.slice (some ⟨id, off, none⟩) len cap) (.slice (some a) len cap)
  | slo {id off len cap : Nat} {p : Pl} {a : Addr} (h : β id = some p) (hl : len ≤ cap) (hc : cap < openCap) (hr : p.sh + off + cap * p.es = p.room) (ha : cap = 0 ∨ a = ⟨p.b, p.sh + off, none⟩) :
      VR β (.slice (some ⟨id, off, none⟩) len (openCap + p.es)) (.slice (some a) len cap)
  | nilm : VR β (.map none) (.map none)
  | map {id : Nat} {p : Pl} (h : β id = some p) : VR β (.map (some id)) (.map (some p.b))
  | func (fn : Fn) {a b a' b' : Array Value} (ha : a.size = a'.size) (hb : b.size = b'.size) (h1 : ∀ i, i < a.size → VR β (a.getD i undef) (a'.getD i undef)) (h2 : ∀ i, i < b.size → VR β (b.getD i undef) (b'.getD i undef)) :
      VR β (.func fn a b) (.func fn a' b')
  | nilFunc : VR β .nilFunc .nilFunc
  | iface (t : TypeId) {v v' : Value} (h : VR β v v') : VR β (.iface t v) (.iface t v')
  | nilIface : VR β .nilIface .nilIface
  | agg {a a' : Array Value} (hs : a.size = a'.size) (h1 : ∀ v ∈ a, v.oneCell' = true) (h : ∀ i, i < a.size → VR β (a.getD i undef) (a'.getD i undef)) : VR β (.agg a) (.agg a')
  | tuple {a a' : Array Value} (hs : a.size = a'.size) (h : ∀ i, i < a.size → VR β (a.getD i undef) (a'.getD i undef)) : VR β (.tuple a) (.tuple a')
def BLe (β β' : Bj) : Prop := ∀ id p, β id = some p → β' id = some p
theorem BLe.refl (β : Bj) : BLe β β := fun _ _ h => h
theorem BLe.trans {a b c : Bj} (h : BLe a b) (k : BLe b c) : BLe a c := fun _ _ e => k _ _ (h _ _ e)
theorem VR.mono {β β' : Bj} (hb : BLe β β') {v v' : Value} (h : VR β v v') : VR β' v v' := by
  induction h with
  | bool b => exact .bool b
  | int k n => exact .int k n
  | float k n => exact .float k n
  | complex k n m => exact .complex k n m
  | str s => exact .str s
  | nilp => exact .nilp
  | ptr h => exact .ptr (hb _ _ h)
  | nils => exact .nils
  | slx h hl hc ha => exact .slx (hb _ _ h) hl hc ha
  | slo h hl hc hr ha => exact .slo (hb _ _ h) hl hc hr ha
  | nilm => exact .nilm
  | map h => exact .map (hb _ _ h)
  | func fn ha hb' _ _ i1 i2 => exact .func fn ha hb' i1 i2
  | nilFunc => exact .nilFunc
  | iface t _ ih => exact .iface t ih
  | nilIface => exact .nilIface
  | agg hs h1 _ ih => exact .agg hs h1 ih
  | tuple hs _ ih => exact .tuple hs ih
theorem VR.undef (β : Bj) : VR β undef undef := .tuple rfl fun i hi => absurd hi (by simp)
def pureS : Value → Bool
  | .bool _ | .int .. | .float .. | .complex .. | .string _ | .pointer none | .slice none 0 0 | .map none | .nilFunc | .nilIface => true
  | .func _ a b => a.size == 0 && b.size == 0
  | _ => false
def pureV : Value → Bool
  | .agg a => a.all pureS
  | .tuple a => a.all pureS
  | v => pureS v
theorem VR.ofPureS {β : Bj} {v : Value} (h : pureS v = true) : VR β v v := by
  unfold pureS at h
  split at h
  case h_1 => exact .bool _
  case h_2 => exact .int _ _
  case h_3 => exact .float _ _
  case h_4 => exact .complex _ _ _
  case h_5 => exact .str _
  case h_6 => exact .nilp
  case h_7 => exact .nils
  case h_8 => exact .nilm
  case h_9 => exact .nilFunc
  case h_10 => exact .nilIface
  case h_11 =>
    simp only [Bool.and_eq_true, beq_iff_eq] at h
    exact .func _ rfl rfl (fun i hi => by omega) (fun i hi => by omega)
  case h_12 => cases h
theorem getD_mem {a : Array Value} {i : Nat} (hi : i < a.size) : a.getD i undef ∈ a := by
  simp [Array.getD, hi]
theorem pureS_one {v : Value} (h : pureS v = true) : v.oneCell' = true := by
  cases v <;> first | rfl | (simp [pureS] at h)
theorem VR.ofPure {β : Bj} {v : Value} (h : pureV v = true) : VR β v v := by
  unfold pureV at h
  split at h
  · exact .agg rfl (fun v hv => pureS_one (Array.all_eq_true'.1 h _ hv)) fun i hi => .ofPureS (Array.all_eq_true'.1 h _ (getD_mem hi))
  · exact .tuple rfl fun i hi => .ofPureS (Array.all_eq_true'.1 h _ (getD_mem hi))
  · exact .ofPureS h
theorem VR.pureS_eq {β : Bj} {v v' : Value} (h : VR β v v') (hp : pureS v = true) : v' = v := by
  cases h <;> first | rfl | (simp [pureS] at hp; done) | skip
  rename_i fn a b a' b' ha hb _ _
  simp [pureS] at hp
  obtain ⟨h1, h2⟩ := hp
  have e1 : a' = #[] := Array.eq_empty_of_size_eq_zero (by rw [← ha, h1]; rfl)
  have e2 : b' = #[] := Array.eq_empty_of_size_eq_zero (by rw [← hb, h2]; rfl)
  rw [e1, e2, h1, h2]
theorem array_ext_getD {a a' : Array Value} (hs : a.size = a'.size) (h : ∀ i, i < a.size → a'.getD i undef = a.getD i undef) : a' = a := by
  apply Array.ext hs.symm
  intro i h1 h2
  have := h i h2
  simpa [Array.getD, h1, h2] using this
theorem VR.pure_eq {β : Bj} {v v' : Value} (h : VR β v v') (hp : pureV v = true) : v' = v := by
  cases h with
  | agg hs _ hh =>
    unfold pureV at hp
    rw [array_ext_getD hs fun i hi => (hh i hi).pureS_eq (Array.all_eq_true'.1 hp _ (getD_mem hi))]
  | tuple hs hh =>
    unfold pureV at hp
    rw [array_ext_getD hs fun i hi => (hh i hi).pureS_eq (Array.all_eq_true'.1 hp _ (getD_mem hi))]
  | bool => rfl
  | int => rfl
  | float => rfl
  | complex => rfl
  | str => rfl
  | nilp => rfl
  | nils => rfl
  | nilm => rfl
  | nilFunc => rfl
  | nilIface => rfl
  | ptr => simp [pureV, pureS] at hp
  | slx => simp [pureV, pureS] at hp
  | slo => simp [pureV, pureS] at hp
  | map => simp [pureV, pureS] at hp
  | iface => simp [pureV, pureS] at hp
  | func fn ha hb h1 h2 => exact VR.pureS_eq (β := β) (.func fn ha hb h1 h2) hp
def EntR (β : Bj) (e : Value × Value × Nat) (c : MapEntry) : Prop := VR β e.1 c.key ∧ VR β e.2.1 c.val ∧ e.2.2 = c.born
def EntsR (β : Bj) : List (Value × Value × Nat) → List MapEntry → Prop
  | [], [] => True
  | e :: es, c :: cs => EntR β e c ∧ EntsR β es cs
  | _, _ => False
def ObjAt (β : Bj) (o : AObj) (p : Pl) (w : World) : Prop :=
  match o with
  | .row c wr => ∃ cc e fr, w.heap[p.b]? = some (.cells cc e fr) ∧ p.sh + c.length ≤ p.room ∧ p.room ≤ cc.size ∧
      (∀ i, i < c.length → VR β (c.getD i undef) (cc.getD (p.sh + i) undef)) ∧ (wr = true → fr = (0, 0)) ∧ (∀ v ∈ c, v.oneCell' = true)
  | .map es ck => ∃ ees, w.heap[p.b]? = some (.map ees ck) ∧ EntsR β es ees.toList
  | .mapIter m since seen last => p.sh = 0 ∧ ∃ m', w.heap[p.b]? = some (.mapIter m' since seen.toArray last) ∧ VR β (.map m) (.map m')
  | .strIter s pos => p.sh = 0 ∧ w.heap[p.b]? = some (.stringIter s pos)
  | .dead => True
def live : Option AObj → Bool
  | none | some .dead => false
  | _ => true
def isRo : Option AObj → Bool
  | some (.row _ false) => true
  | _ => false
structure Rel (β : Bj) (h : AH) (w : World) : Prop where
  lt : ∀ {id p}, β id = some p → id < h.length
  obj : ∀ {id p o}, β id = some p → h[id]? = some o → ObjAt β o p w
  sep : ∀ {i j p q}, i ≠ j → β i = some p → β j = some q → live h[i]? = true → live h[j]? = true → (isRo h[i]? && isRo h[j]?) = false → p.b ≠ q.b
def WB (β : Bj) (h : AH) (b : Nat) : Prop := ∃ id p, β id = some p ∧ p.b = b ∧ live h[id]? = true ∧ isRo h[id]? = false
structure Ext (D : Nat → Prop) (β : Bj) (h : AH) (w : World) (β' : Bj) (h' : AH) (w' : World) : Prop where
  ble : BLe β β'
  dom : ∀ id, D id → β' id ≠ none → β id ≠ none
  len : h.length ≤ h'.length
  afr : ∀ id, D id → β id = none → h'[id]? = h[id]?
  size : w.heap.size ≤ w'.heap.size
  tape : w'.tape = w.tape
  os : w'.os = w.os
  out : w'.output = w.output
  cfr : ∀ b, b < w.heap.size → ¬ WB β h b → w'.heap[b]? = w.heap[b]?
  wb : ∀ b, WB β' h' b → WB β h b ∨ w.heap.size ≤ b
theorem Ext.refl (D : Nat → Prop) (β : Bj) (h : AH) (w : World) : Ext D β h w β h w :=
  ⟨.refl β, fun _ _ h => h, Nat.le_refl _, fun _ _ _ => rfl, Nat.le_refl _, rfl, rfl, rfl, fun _ _ _ => rfl, fun _ h => .inl h⟩
theorem Ext.trans {D : Nat → Prop} {β β1 β2 : Bj} {h h1 h2 : AH} {w w1 w2 : World} (a : Ext D β h w β1 h1 w1) (b : Ext D β1 h1 w1 β2 h2 w2) : Ext D β h w β2 h2 w2 where
  ble := a.ble.trans b.ble
  dom id hid h2 := a.dom id hid (b.dom id hid h2)
  len := Nat.le_trans a.len b.len
  afr id hid hb := by
    rw [b.afr id hid, a.afr id hid hb]
    cases e : β1 id with
    | none => rfl
    | some p => exact absurd hb (a.dom id hid (by rw [e]; simp))
  size := Nat.le_trans a.size b.size
  tape := b.tape.trans a.tape
  os := b.os.trans a.os
  out := b.out.trans a.out
  cfr bl hbl hw := by
    rw [b.cfr bl (Nat.lt_of_lt_of_le hbl a.size) (fun hw1 => (a.wb bl hw1).elim hw (by omega)), a.cfr bl hbl hw]
  wb bl hw := (b.wb bl hw).elim (a.wb bl) fun hl => .inr (Nat.le_trans a.size hl)
theorem Ext.mono {D E : Nat → Prop} {β β' : Bj} {h h' : AH} {w w' : World} (a : Ext D β h w β' h' w') (hm : ∀ id, E id → D id) : Ext E β h w β' h' w' :=
  { a with dom := fun id hid => a.dom id (hm id hid), afr := fun id hid => a.afr id (hm id hid) }
theorem EntsR.mono {β β' : Bj} (hb : BLe β β') : ∀ {es : List (Value × Value × Nat)} {cs : List MapEntry}, EntsR β es cs → EntsR β' es cs
  | [], [], _ => trivial
  | _ :: _, _ :: _, ⟨⟨h1, h2, h3⟩, h⟩ => ⟨⟨h1.mono hb, h2.mono hb, h3⟩, h.mono hb⟩
theorem ObjAt.congr {β β' : Bj} (hb : BLe β β') {o : AObj} {p : Pl} {w w' : World} (h : ObjAt β o p w) (hw : w'.heap[p.b]? = w.heap[p.b]?) : ObjAt β' o p w' := by
  cases o with
  | row c wr =>
    obtain ⟨cc, e, fr, h1, h3, h4, h5, h6⟩ := h
    exact ⟨cc, e, fr, hw.trans h1, h3, h4, fun i hi => (h5 i hi).mono hb, h6⟩
  | map es ck =>
    obtain ⟨ees, h1, h2⟩ := h
    exact ⟨ees, hw.trans h1, h2.mono hb⟩
  | mapIter m s se l =>
    obtain ⟨h0, m', h1, h2⟩ := h
    exact ⟨h0, m', hw.trans h1, h2.mono hb⟩
  | strIter s pos => exact ⟨h.1, hw.trans h.2⟩
  | dead => trivial
theorem ObjAt.lt {β : Bj} {o : AObj} {p : Pl} {w : World} (h : ObjAt β o p w) (hl : live (some o) = true) : p.b < w.heap.size := by
  have key : ∀ {x : Obj}, w.heap[p.b]? = some x → p.b < w.heap.size := fun hx => (Array.getElem?_eq_some_iff.1 hx).1
  cases o with
  | row c wr => obtain ⟨cc, e, fr, h1, _⟩ := h; exact key h1
  | map es ck => obtain ⟨ees, h1, _⟩ := h; exact key h1
  | mapIter m s se l => obtain ⟨_, m', h1, _⟩ := h; exact key h1
  | strIter s pos => exact key h.2
  | dead => cases hl
theorem live_some {h : AH} {i : Nat} (hl : live h[i]? = true) : ∃ o, h[i]? = some o ∧ live (some o) = true := by
  cases e : h[i]? with
  | none => rw [e] at hl; cases hl
  | some o => exact ⟨o, rfl, by rw [← e]; exact hl⟩
theorem Rel.blt {β : Bj} {h : AH} {w : World} (R : Rel β h w) {id : Nat} {p : Pl} (hp : β id = some p) (hl : live h[id]? = true) : p.b < w.heap.size := by
  obtain ⟨o, ho, hlo⟩ := live_some hl
  exact (R.obj hp ho).lt hlo
theorem getElem?_set_same {h : AH} {i : Nat} {o : AObj} (hi : i < h.length) : (h.set i o)[i]? = some o := by
  simp [hi]
theorem getElem?_set_other {h : AH} {i j : Nat} {o : AObj} (hij : i ≠ j) : (h.set i o)[j]? = h[j]? := by
  simp [hij]
theorem Rel.update {β : Bj} {h : AH} {w w' : World} (R : Rel β h w) {id : Nat} {p : Pl} {o' : AObj} (hp : β id = some p) (hl : live h[id]? = true) (hro : isRo h[id]? = false)
    (hw : ∀ b, b ≠ p.b → b < w.heap.size → w'.heap[b]? = w.heap[b]?) (ho : ObjAt β o' p w') : Rel β (h.set id o') w' where
  lt hj := by rw [List.length_set]; exact R.lt hj
  obj {j q o} hj hjo := by
    by_cases e : id = j
    · subst e
      rw [hp] at hj
      obtain rfl := Option.some.inj hj
      rw [getElem?_set_same (R.lt hp)] at hjo
      obtain rfl := Option.some.inj hjo
      exact ho
    · rw [getElem?_set_other e] at hjo
      have h0 := R.obj hj hjo
      cases hd : live (some o) with
      | false => cases o <;> simp [live] at hd; trivial
      | true =>
        have hne : p.b ≠ q.b := R.sep e hp hj hl (by rw [hjo]; exact hd) (by rw [hro]; rfl)
        exact h0.congr (.refl β) (hw _ (fun x => hne x.symm) (h0.lt hd))
  sep {i j q r} hij hi hj li lj hr := by
    by_cases e1 : id = i
    · subst e1
      rw [hp] at hi
      obtain rfl := Option.some.inj hi
      rw [getElem?_set_other hij] at lj hr
      exact R.sep hij hp hj hl lj (by rw [hro]; rfl)
    · rw [getElem?_set_other e1] at li hr
      by_cases e2 : id = j
      · subst e2
        rw [hp] at hj
        obtain rfl := Option.some.inj hj
        exact R.sep hij hi hp li hl (by rw [hro, Bool.and_false])
      · rw [getElem?_set_other e2] at lj hr
        exact R.sep hij hi hj li lj hr
def upd (β : Bj) (id : Nat) (p : Pl) : Bj := fun j => if j = id then some p else β j
theorem upd_same (β : Bj) (id : Nat) (p : Pl) : upd β id p id = some p := by simp [upd]
theorem upd_other {β : Bj} {id j : Nat} {p : Pl} (h : j ≠ id) : upd β id p j = β j := by simp [upd, h]
theorem upd_le {β : Bj} {id : Nat} {p : Pl} (h : β id = none) : BLe β (upd β id p) := by
  intro j q hj
  by_cases e : j = id
  · subst e; rw [h] at hj; cases hj
  · rw [upd_other e, hj]
theorem Rel.add {β : Bj} {h h' : AH} {w w' : World} (R : Rel β h w) {id : Nat} {p : Pl} {o' : AObj} (hn : β id = none) (hid : h'[id]? = some o') (hoth : ∀ j, j ≠ id → j < h.length → h'[j]? = h[j]?) (hlen : h.length ≤ h'.length)
    (hfree : ∀ j q, β j = some q → live h[j]? = true → q.b ≠ p.b) (hw : ∀ b, b ≠ p.b → b < w.heap.size → w'.heap[b]? = w.heap[b]?) (ho : ObjAt (upd β id p) o' p w') : Rel (upd β id p) h' w' where
  lt {j q} hj := by
    by_cases e : j = id
    · subst e; exact (List.getElem?_eq_some_iff.1 hid).1
    · rw [upd_other e] at hj; exact Nat.lt_of_lt_of_le (R.lt hj) hlen
  obj {j q o} hj hjo := by
    by_cases e : j = id
    · subst e
      rw [upd_same] at hj
      obtain rfl := Option.some.inj hj
      rw [hid] at hjo
      obtain rfl := Option.some.inj hjo
      exact ho
    · rw [upd_other e] at hj
      rw [hoth j e (R.lt hj)] at hjo
      have h0 := R.obj hj hjo
      cases hd : live (some o) with
      | false => cases o <;> simp [live] at hd; trivial
      | true => exact h0.congr (upd_le hn) (hw _ (hfree j q hj (by rw [hjo]; exact hd)) (h0.lt hd))
  sep {i j q r} hij hi hj li lj hr := by
    by_cases e1 : i = id
    · subst e1
      have e2 : j ≠ i := fun x => hij x.symm
      rw [upd_same] at hi
      obtain rfl := Option.some.inj hi
      rw [upd_other e2] at hj
      rw [hoth j e2 (R.lt hj)] at lj
      exact fun x => hfree j r hj lj x.symm
    · rw [upd_other e1] at hi
      rw [hoth i e1 (R.lt hi)] at li hr
      by_cases e2 : j = id
      · subst e2
        rw [upd_same] at hj
        obtain rfl := Option.some.inj hj
        exact hfree i q hi li
      · rw [upd_other e2] at hj
        rw [hoth j e2 (R.lt hj)] at lj hr
        exact R.sep hij hi hj li lj hr
theorem Rel.heap {β : Bj} {h : AH} {w w' : World} (R : Rel β h w) (hw : w'.heap = w.heap) : Rel β h w' where
  lt := R.lt
  obj hp ho := (R.obj hp ho).congr (.refl β) (by rw [hw])
  sep := R.sep
end Go.AM
end

section
/- The abstract machine's operations that touch no memory, and that Go's model does the same. Conditions: none. -/
namespace Go.AM
open Go
abbrev Env := Nat → Value
def Env.set (e : Env) (d : Nat) (v : Value) : Env := fun i => cond (Nat.beq i d) v (e i)
def putE (e : Env) : Option Nat → Value → Env
  | some d, v => e.set d v
  | none, _ => e
def ev (e : Env) : Operand → Value
  | .tmp t => e t
  | .const v => v
  | .global g => .pointer (some ⟨g, 0, none⟩)
  | .func f => .func (.func f) #[] #[]
theorem VR.one {β : Bj} {v v' : Value} (h : VR β v v') : v'.oneCell' = v.oneCell' := by cases h <;> rfl
def optW {α : Type} (o : Option α) (K : α → Prop) : Prop :=
  match o with
  | some v => K v
  | none => False
@[simp] theorem optW_some {α : Type} (v : α) (K : α → Prop) : optW (some v) K = K v := rfl
@[simp] theorem optW_none {α : Type} (K : α → Prop) : optW none K = False := rfl
theorem optW_elim {α : Type} {o : Option α} {K : α → Prop} (h : optW o K) : ∃ v, o = some v ∧ K v := by
  cases o with
  | none => exact h.elim
  | some v => exact ⟨v, rfl, h⟩
def pPick (c a b : Value) : Option Value :=
  match c with
  | .bool t => some (cond t a b)
  | _ => none
def pBinI (op : BinOp) (k : IntKind) (a b : Int) : Option Value :=
  match op with
  | .add => some (.int k (k.wrap (a + b)))
  | .sub => some (.int k (k.wrap (a - b)))
  | .mul => some (.int k (k.wrap (a * b)))
  | .quo => if b = 0 then none else some (.int k (k.wrap (a.tdiv b)))
  | .rem => if b = 0 then none else some (.int k (a.tmod b))
  | .and => some (.int k (k.wrap (BitVec.ofInt k.bits a &&& BitVec.ofInt k.bits b).toNat))
  | .eql => some (.bool (a == b))
  | .neq => some (.bool (a != b))
  | .lss => some (.bool (decide (a < b)))
  | .leq => some (.bool (decide (a ≤ b)))
  | .gtr => some (.bool (decide (a > b)))
  | .geq => some (.bool (decide (a ≥ b)))
  | _ => none
def pShift (op : BinOp) (k : IntKind) (a b : Int) : Option Value :=
  if b < 0 then none else
  match op with
  | .shl => some (.int k (k.wrap (a * 2 ^ (min b.toNat k.bits))))
  | .shr => some (.int k (a.fdiv (2 ^ (min b.toNat k.bits))))
  | _ => none
def pBinS (op : BinOp) (x y : ByteArray) : Option Value :=
  match op with
  | .add => if x.size + y.size < 9223372036854775808 then some (.string (x ++ y)) else none
  | .eql => some (.bool (x.toList == y.toList))
  | .neq => some (.bool !(x.toList == y.toList))
  | _ => none
def flatScalar (P : Program) (t : TypeId) : Bool :=
  match P.underlying t with
  | some (.int _) | some .string | some .bool => true
  | _ => false
def isScal (P : Program) (t : TypeId) (v : Value) : Bool :=
  match P.underlying t, v with
  | some (.int _), .int _ _ => true
  | some .string, .string _ => true
  | some .bool, .bool _ => true
  | _, _ => false
def flatFields (P : Program) : Nat → List Field → Bool
  | _, [] => true
  | i, f :: fs => (f.name != "_" && f.offset == i && flatScalar P f.type) && flatFields P (i + 1) fs
def sameScal : Value → Value → Option Bool
  | .int k a, .int k' b => if k = k' then some (a == b) else none
  | .string a, .string b => some (a.toList == b.toList)
  | .bool a, .bool b => some (a == b)
  | _, _ => none
def sameScals : List Value → List Value → Option Bool
  | [], [] => some true
  | x :: xs, y :: ys => match sameScal x y with
    | some true => sameScals xs ys
    | some false => some false
    | none => none
  | _, _ => none
def scalsOf (P : Program) : List Field → List Value → Bool
  | [], [] => true
  | f :: fs, v :: vs => isScal P f.type v && scalsOf P fs vs
  | _, _ => false
def allScal (P : Program) (t : TypeId) : List Value → Bool
  | [] => true
  | v :: vs => isScal P t v && allScal P t vs
def sameAgg (P : Program) (t : TypeId) (x y : List Value) : Option Bool :=
  match P.underlying t with
  | some (.struct fs) => if P.stoodInHeld t = false ∧ flatFields P 0 fs.toList = true ∧ scalsOf P fs.toList x = true ∧ scalsOf P fs.toList y = true then sameScals x y else none
  | some (.array n e) => if flatScalar P e = true ∧ (P.info? e).map (·.size) = some 1 ∧ x.length = n ∧ y.length = n ∧ allScal P e x = true ∧ allScal P e y = true then sameScals x y else none
  | _ => none
def pNil (P : Program) (t : TypeId) (x y : Value) : Option Bool :=
  match P.underlying t, x, y with
  | some .bool, .bool a, .bool b => some (a == b)
  | some (.pointer _), .pointer none, .pointer b => some b.isNone
  | some (.pointer _), .pointer (some _), .pointer none => some false
  | some (.slice _), .slice none _ _, .slice b _ _ => some b.isNone
  | some (.slice _), .slice (some _) _ _, .slice none _ _ => some false
  | some (.map ..), .map none, .map b => some b.isNone
  | some (.map ..), .map (some _), .map none => some false
  | some (.func ..), .nilFunc, .nilFunc => some true
  | some (.func ..), .nilFunc, .func .. => some false
  | some (.func ..), .func .., .nilFunc => some false
  | _, _, _ => none
def subN (P : Program) (t : TypeId) : Option (List Field) :=
  match P.underlying t with
  | some (.struct gs) => if P.stoodInHeld t = false ∧ flatFields P 0 gs.toList = true ∧ (P.info? t).map (·.size) = some gs.toList.length then some gs.toList else none
  | _ => none
def sameNest (P : Program) (cmp : List Value → List Value → Option Bool) : Nat → List Field → List Value → List Value → Option Bool
  | _, [], _, _ => some true
  | i, f :: fs, x, y => if (f.name != "_" && f.offset == i) = true then match subN P f.type with
      | some gs => if scalsOf P gs (x.take gs.length) = true ∧ scalsOf P gs (y.take gs.length) = true then match cmp (x.take gs.length) (y.take gs.length) with
          | some true => sameNest P cmp (i + gs.length) fs (x.drop gs.length) (y.drop gs.length)
          | some false => some false
          | none => none
        else none
      | none => if flatScalar P f.type = true ∧ scalsOf P [f] (x.take 1) = true ∧ scalsOf P [f] (y.take 1) = true then match cmp (x.take 1) (y.take 1) with
          | some true => sameNest P cmp (i + 1) fs (x.drop 1) (y.drop 1)
          | some false => some false
          | none => none
        else none
    else none
def nestT (P : Program) (t : TypeId) : Bool :=
  match P.underlying t with
  | some (.struct fs) => !flatFields P 0 fs.toList
  | _ => false
def sameAggN (P : Program) (cmp : List Value → List Value → Option Bool) (t : TypeId) (x y : List Value) : Option Bool :=
  match P.underlying t with
  | some (.struct fs) => if P.stoodInHeld t = false ∧ x.all pureS = true ∧ y.all pureS = true then sameNest P cmp 0 fs.toList x y else none
  | _ => none
def pBinE (P : Program) (t : TypeId) (x y : Value) : Option Bool :=
  match x, y with
  | .agg a, .agg b => if P.eqGuardType P.depth t = false then match nestT P t with
      | true => sameAggN P sameScals t a.toList b.toList
      | false => sameAgg P t a.toList b.toList
    else none
  | x, y => pNil P t x y
def pBin (P : Program) (op : BinOp) (t : TypeId) (x y : Value) : Option Value :=
  match op, x, y with
  | .shl, .int k a, .int _ b => pShift .shl k a b
  | .shr, .int k a, .int _ b => pShift .shr k a b
  | op, .int k a, .int k' b => if k = k' then pBinI op k a b else none
  | op, .string a, .string b => pBinS op a b
  | .eql, x, y => (pBinE P t x y).map .bool
  | .neq, x, y => (pBinE P t x y).map fun b => .bool !b
  | _, _, _ => none
def pUn (op : UnOp) (x : Value) : Option Value :=
  match op, x with
  | .neg, .int k n => some (.int k (k.wrap (0 - n)))
  | .not, .bool b => some (.bool !b)
  | _, _ => none
def pOff (n : Nat) (x : Value) : Option Value :=
  match x with
  | .pointer (some ⟨id, off, none⟩) => some (.pointer (some ⟨id, off + n, none⟩))
  | _ => none
def pFieldAddr (P : Program) (s : TypeId) (f : Nat) (x : Value) : Option Value :=
  match P.underlying s with
  | some (.struct fs) => match fs[f]? with
    | some fd => match P.info? fd.type with
      | some i => if i.size = 0 then none else pOff fd.offset x
      | none => none
    | none => none
  | _ => none
def pIdxS (s : Nat) (x i : Value) : Option Value :=
  match x, i with
  | .slice (some ⟨id, off, none⟩) len _, .int _ n => if 0 ≤ n ∧ n < (len : Int) then some (.pointer (some ⟨id, off + n.toNat * s, none⟩)) else none
  | _, _ => none
def pIdxA (len s : Nat) (x i : Value) : Option Value :=
  match x, i with
  | .pointer (some ⟨id, off, none⟩), .int _ n => if 0 ≤ n ∧ n < (len : Int) then some (.pointer (some ⟨id, off + n.toNat * s, none⟩)) else none
  | _, _ => none
def pIndexAddr (P : Program) (t : TypeId) (x i : Value) : Option Value :=
  match P.underlying t with
  | some (.slice e) => match P.info? e with
    | some inf => pIdxS inf.size x i
    | none => none
  | some (.array len e) => match P.info? e with
    | some inf => pIdxA len inf.size x i
    | none => none
  | _ => none
def pIdxStr (x i : Value) : Option Value :=
  match x, i with
  | .string s, .int _ n => if 0 ≤ n then (s[n.toNat]?).map fun b => .int .u8 b.toNat else none
  | _, _ => none
def partV (agg : Bool) (size : Nat) (cs : List Value) (off : Nat) : Option Value :=
  match agg with
  | true => some (.agg ((cs.drop off).take size).toArray)
  | false => cs[off]?
def isAggT (P : Program) (t : TypeId) : Option Bool :=
  match P.underlying t with
  | some (.struct _) | some (.array _ _) => some true
  | some _ => some false
  | none => none
def pIndex (P : Program) (t : TypeId) (x i : Value) : Option Value :=
  match P.underlying t with
  | some .string => pIdxStr x i
  | some (.array len e) => match P.info? e, isAggT P e, x, i with
    | some inf, some ag, .agg cs, .int _ n => if 0 ≤ n ∧ n < (len : Int) then partV ag inf.size cs.toList (n.toNat * inf.size) else none
    | _, _, _, _ => none
  | _ => none
def pField (P : Program) (t : TypeId) (x : Value) (f : Nat) : Option Value :=
  match P.underlying t with
  | some (.struct fs) => match fs[f]? with
    | some fd => match P.info? fd.type, isAggT P fd.type, x with
      | some inf, some ag, .agg cs => partV ag inf.size cs.toList fd.offset
      | _, _, _ => none
    | none => none
  | _ => none
def pExtract (x : Value) (i : Nat) : Option Value :=
  match x with
  | .tuple vs => vs.toList[i]?
  | _ => none
def pNilCheck (x : Value) : Option Value :=
  match x with
  | .pointer (some a) => some (.pointer (some a))
  | _ => none
def pConv (P : Program) (src dst : TypeId) (x : Value) : Option Value :=
  match P.underlying src, P.underlying dst, x with
  | some _, some (.int k), .int _ n => some (.int k (k.wrap n))
  | some _, some .string, .string s => some (.string s)
  | _, _, _ => none
def cellsL (v : Value) : List Value :=
  match v with
  | .agg cs => cs.toList
  | v => [v]
def fillL (place : Nat → Option (Nat × Nat)) (cells : List Value) : List (Nat × Value) → Option (List Value)
  | [] => some cells
  | (i, v) :: rest =>
    match place i with
    | none => none
    | some (off, size) =>
      if (cellsL v).length = size ∧ off + (cellsL v).length ≤ cells.length ∧ (cellsL v).all (·.oneCell') = true then
        fillL place (cells.take off ++ cellsL v ++ cells.drop (off + (cellsL v).length)) rest
      else none
def zeroL (P : Program) (t : TypeId) : Option (List Value) :=
  match P.info? t with
  | some i => match i.zero with
    | some z => if pureV z = true ∧ (cellsL z).all (·.oneCell') = true then some (cellsL z) else none
    | none => none
  | none => none
def placesOf (P : Program) (fs : List Field) : List (Nat × Nat) := fs.map fun f => (f.offset, P.cellsOf f.type)
def knownTypes (P : Program) (fs : List Field) : Bool := fs.all fun f => (P.info? f.type).isSome
def pBuild (P : Program) (t : TypeId) (parts : List (Nat × Value)) : Option Value :=
  match zeroL P t, P.underlying t with
  | some z, some (.struct fs) => if knownTypes P fs.toList = true then (fillL (fun i => (placesOf P fs.toList)[i]?) z parts).map fun cs => .agg cs.toArray else none
  | some z, some (.array _ e) => match P.info? e with
    | some i => (fillL (fun j => some (j * i.size, i.size)) z parts).map fun cs => .agg cs.toArray
    | none => none
  | _, _ => none
def pSliceB (x : Option Value) (y d : Nat) : Option Nat :=
  match x with
  | none => some d
  | some (.int _ i) => if 0 ≤ i ∧ i ≤ (y : Int) then some i.toNat else none
  | some _ => none
def pSliceStr (x : Value) (lo hi : Option Value) : Option Value :=
  match x with
  | .string s => match pSliceB hi s.size s.size with
    | some h => match pSliceB lo h 0 with
      | some l => some (.string (s.extract l h))
      | none => none
    | none => none
  | _ => none
def pSliceOp (s : Nat) (a : Option Addr) (len : Nat) (lo hi : Option Value) : Option Value :=
  match pSliceB hi len len with
  | some h => match pSliceB lo h 0 with
    | some l => some (.slice (a.map (fun x => ⟨x.block, x.off + l * s, none⟩)) (h - l) (openCap + s))
    | none => none
  | none => none
def pSliceEx (s : Nat) (a : Option Addr) (len m : Nat) (lo hi : Option Value) : Option Value :=
  match pSliceB hi m len with
  | some h => match pSliceB lo h 0 with
    | some l => some (.slice (if m = l then a else a.map (fun x => ⟨x.block, x.off + l * s, none⟩)) (h - l) (m - l))
    | none => none
  | none => none
def pSliceSl (s : Nat) (x : Value) (lo hi mx : Option Value) : Option Value :=
  match x with
  | .slice a len cap =>
    if cap < openCap then
      match pSliceB mx cap cap with
      | some m => pSliceEx s a len m lo hi
      | none => none
    else if cap = openCap + s then
      match mx with
      | none => pSliceOp s a len lo hi
      | some _ => match pSliceB mx len 0 with
        | some m => pSliceEx s a len m lo hi
        | none => none
    else none
  | _ => none
def pSlice (P : Program) (t : TypeId) (x : Value) (lo hi mx : Option Value) : Option Value :=
  match P.underlying t with
  | some .string => if mx.isNone then pSliceStr x lo hi else none
  | some (.slice e) => match P.info? e with
    | some i => if mx.isSome = true ∧ hi.isNone = true then none else pSliceSl i.size x lo hi mx
    | none => none
  | some (.array n e) => match P.info? e, x, lo, hi, mx with
    | some _, .pointer (some ⟨id, off, none⟩), none, none, none => if n < openCap then some (.slice (some ⟨id, off, none⟩) n n) else none
    | _, _, _, _, _ => none
  | _ => none
def pMax2 (mx : Bool) (x y : Value) : Option Value :=
  match x, y with
  | .int k a, .int k' b => if k = k' then some (.int k (cond mx (if b > a then b else a) (if b < a then b else a))) else none
  | _, _ => none
def pLen (P : Program) (t : TypeId) (x : Value) : Option Value :=
  match P.underlying t, x with
  | some .string, .string s => some (.int .i64 s.size)
  | some (.slice _), .slice _ n _ => some (.int .i64 n)
  | some (.array n _), _ => some (.int .i64 n)
  | _, _ => none
def pCap (P : Program) (t : TypeId) (x : Value) : Option Value :=
  match P.underlying t, x with
  | some (.slice _), .slice _ _ c => if c < openCap then some (.int .i64 c) else none
  | _, _ => none
end Go.AM
end

section
/- Go's model carries out each operation that touches no memory as the abstract machine does. Conditions: none. -/
namespace Go.AM
open Go
set_option linter.unusedSimpArgs false
variable {P : Program} {β : Bj} (w : World)
theorem run_info {t : TypeId} {i : TypeInfo} (h : P.info? t = some i) : (typeInfo t).run P w = .ok i w := by simp [typeInfo, h]
theorem run_size {t : TypeId} {i : TypeInfo} (h : P.info? t = some i) : (sizeOf t).run P w = .ok i.size w := by simp [sizeOf, run_info w h]
theorem run_agg {t : TypeId} {b : Bool} (h : isAggT P t = some b) : (isAgg t).run P w = .ok b w := by
  unfold isAggT at h
  split at h <;> simp_all [isAgg, underlying]
theorem sim_pick {c a b v c' a' b' : Value} (h : pPick c a b = some v) (hc : VR β c c') (ha : VR β a a') (hb : VR β b b') :
    ∃ v', (do pure (.value (if ← asBool c' then a' else b')) : Sem Next).run P w = .ok (.value v') w ∧ VR β v v' := by
  unfold pPick at h
  split at h
  · cases hc
    obtain rfl := Option.some.inj h
    rename_i t
    cases t
    · exact ⟨b', by simp [asBool], hb⟩
    · exact ⟨a', by simp [asBool], ha⟩
  · cases h
theorem sim_binI {op : BinOp} {k : IntKind} {a b : Int} {v : Value} (t : TypeId) (h : pBinI op k a b = some v) : (binOp op t (.int k a) (.int k b)).run P w = .ok v w ∧ VR β v v := by
  unfold pBinI at h
  split at h
  all_goals first
    | (cases h; done)
    | (obtain rfl := Option.some.inj h
       refine ⟨?_, ?_⟩
       · simp [binOp, Op.intArith, Op.intDiv, Op.intBits, Op.intCmp]
       · first | exact .int _ _ | exact .bool _)
    | (split at h
       · cases h
       · rename_i hb
         obtain rfl := Option.some.inj h
         exact ⟨by simp [binOp, Op.intDiv, hb], .int _ _⟩)
theorem sim_shift {op : BinOp} {k k' : IntKind} {a b : Int} {v : Value} (t : TypeId) (hop : op = .shl ∨ op = .shr) (h : pShift op k a b = some v) : (binOp op t (.int k a) (.int k' b)).run P w = .ok v w ∧ VR β v v := by
  unfold pShift at h
  split at h
  · cases h
  · rename_i hb
    rcases hop with rfl | rfl <;> (simp only [] at h; obtain rfl := Option.some.inj h; exact ⟨by simp [binOp, Op.shift, hb], .int _ _⟩)
theorem sim_binS {op : BinOp} {a b : ByteArray} {v : Value} (t : TypeId) (h : pBinS op a b = some v) : (binOp op t (.string a) (.string b)).run P w = .ok v w ∧ VR β v v := by
  unfold pBinS at h
  split at h
  · split at h
    · rename_i hs
      obtain rfl := Option.some.inj h
      refine ⟨?_, .str _⟩
      have hm : IntKind.i64.max = 9223372036854775807 := by decide
      have : ((a.size : Int) + (b.size : Int)) ≤ 9223372036854775807 := by omega
      simp [binOp, Op.stringOp, hm, this]
    · cases h
  · obtain rfl := Option.some.inj h
    exact ⟨by simp [binOp, Op.stringOp], .bool _⟩
  · obtain rfl := Option.some.inj h
    exact ⟨by simp [binOp, Op.stringOp], .bool _⟩
  · cases h
theorem sim_scal {t : TypeId} {x y : Value} {r : Bool} (d : Nat) (h : sameScal x y = some r) (hx : isScal P t x = true) (hy : isScal P t y = true) : (Op.equalIn (d + 1) t x y).run P w = .ok r w := by
  unfold sameScal at h
  split at h
  · split at h
    · rename_i hk
      subst hk
      obtain rfl := Option.some.inj h
      unfold isScal at hx
      split at hx <;> simp_all [Op.equalIn, run_underlying]
    · cases h
  · obtain rfl := Option.some.inj h
    unfold isScal at hx
    split at hx <;> simp_all [Op.equalIn, run_underlying, beq_toListBytes]
  · obtain rfl := Option.some.inj h
    unfold isScal at hx
    split at hx <;> simp_all [Op.equalIn, run_underlying]
  · cases h
theorem flat_notAgg {t : TypeId} (h : flatScalar P t = true) : isAggT P t = some false := by
  unfold flatScalar at h
  unfold isAggT
  split at h <;> simp_all
theorem run_part_flat {t : TypeId} (h : flatScalar P t = true) (cs : Array Value) (i : Nat) (v : Value) (hv : cs[i]? = some v) : (part t cs i).run P w = .ok v w := by
  simp [part, run_agg w (flat_notAgg h), hv]
theorem sim_fields : ∀ (fs : List Field) (i : Nat) (d : Nat) (a b : Array Value) (x y : List Value) (r : Bool), flatFields P i fs = true → scalsOf P fs x = true → scalsOf P fs y = true → sameScals x y = some r →
    (∀ j, a[i + j]? = x[j]?) → (∀ j, b[i + j]? = y[j]?) → (Op.eqFields (d + 1) a b fs).run P w = .ok r w
  | [], i, d, a, b, x, y, r, _, hx, hy, h, _, _ => by
    cases x with
    | nil => cases y with
      | nil => simp [sameScals] at h; subst h; simp [Op.eqFields]
      | cons => simp [scalsOf] at hy
    | cons => simp [scalsOf] at hx
  | f :: fs, i, d, a, b, x, y, r, hf, hx, hy, h, ha, hb => by
    cases x with
    | nil => simp [scalsOf] at hx
    | cons x0 xs =>
      cases y with
      | nil => simp [scalsOf] at hy
      | cons y0 ys =>
        simp only [flatFields, Bool.and_eq_true, bne_iff_ne, ne_eq, beq_iff_eq] at hf
        obtain ⟨⟨⟨hn, ho⟩, hs⟩, hfs⟩ := hf
        simp only [scalsOf, Bool.and_eq_true] at hx hy
        have h0 := run_part_flat w hs a f.offset x0 (by rw [ho]; have := ha 0; simpa using this)
        have h1 := run_part_flat w hs b f.offset y0 (by rw [ho]; have := hb 0; simpa using this)
        simp only [sameScals] at h
        have rec_ := sim_fields fs (i + 1) d a b xs ys
        cases e : sameScal x0 y0 with
        | none => rw [e] at h; cases h
        | some q =>
          rw [e] at h
          have heq := sim_scal w d e hx.1 hy.1
          cases q with
          | true =>
            simp only at h
            have := rec_ r hfs hx.2 hy.2 h (fun j => by rw [show i + 1 + j = i + (j + 1) by omega, ha]; simp) (fun j => by rw [show i + 1 + j = i + (j + 1) by omega, hb]; simp)
            simp [Op.eqFields, hn, h0, h1, heq, this]
          | false =>
            simp only [Option.some.injEq] at h
            subst h
            simp [Op.eqFields, hn, h0, h1, heq]
theorem sim_elems {e : TypeId} {i0 : TypeInfo} (hi : P.info? e = some i0) (h1 : i0.size = 1) (hs : flatScalar P e = true) (d : Nat) (a b : Array Value) : ∀ (n i : Nat) (x y : List Value) (r : Bool), x.length = n → y.length = n →
    allScal P e x = true → allScal P e y = true → sameScals x y = some r → (∀ j, a[i + j]? = x[j]?) → (∀ j, b[i + j]? = y[j]?) →
    (forIn (m := Sem) (List.range' i n) ((none : Option Bool), PUnit.unit) fun i _ => do
        if !(← Op.equalIn (d + 1) e (← part e a (i * 1)) (← part e b (i * 1))) then return ForInStep.done (some false, PUnit.unit)
        pure (ForInStep.yield (none, PUnit.unit))).run P w = .ok ((if r then none else some false), PUnit.unit) w
  | 0, i, x, y, r, hx, hy, _, _, h, _, _ => by
    cases x with
    | nil => cases y with
      | nil => simp [sameScals] at h; subst h; simp
      | cons => simp at hy
    | cons => simp at hx
  | n + 1, i, x, y, r, hx, hy, ax, ay, h, ha, hb => by
    cases x with
    | nil => simp at hx
    | cons x0 xs =>
      cases y with
      | nil => simp at hy
      | cons y0 ys =>
        simp only [allScal, Bool.and_eq_true] at ax ay
        have h0 := run_part_flat w hs a (i * 1) x0 (by have := ha 0; simpa using this)
        have h1' := run_part_flat w hs b (i * 1) y0 (by have := hb 0; simpa using this)
        simp only [Nat.mul_one] at h0 h1'
        simp only [sameScals] at h
        have rec_ := sim_elems hi h1 hs d a b n (i + 1) xs ys
        cases e' : sameScal x0 y0 with
        | none => rw [e'] at h; cases h
        | some q =>
          rw [e'] at h
          have heq := sim_scal w d e' ax.1 ay.1
          cases q with
          | true =>
            simp only at h
            have := rec_ r (by simpa using hx) (by simpa using hy) ax.2 ay.2 h (fun j => by rw [show i + 1 + j = i + (j + 1) by omega, ha]; simp) (fun j => by rw [show i + 1 + j = i + (j + 1) by omega, hb]; simp)
            simp only [Nat.mul_one] at this
            simp [List.range'_succ, h0, h1', heq]
            simpa using this
          | false =>
            simp only [Option.some.injEq] at h
            subst h
            simp [List.range'_succ, h0, h1', heq]
theorem sim_sameAgg {t : TypeId} {a b : Array Value} {r : Bool} (h : sameAgg P t a.toList b.toList = some r) (d : Nat) : (Op.equalIn (d + 2) t (.agg a) (.agg b)).run P w = .ok r w := by
  unfold sameAgg at h
  split at h
  · rename_i fs ht
    split at h
    · rename_i hc
      obtain ⟨c1, c2, c3, c4⟩ := hc
      have hfo : P.fieldsOf t = fs := by simp [Program.fieldsOf, ht]
      rw [run_equalIn_struct w (d + 1) t a b (by rw [hfo]; exact ht) c1, hfo]
      exact sim_fields w fs.toList 0 d a b _ _ r c2 c3 c4 h (fun j => by simp) (fun j => by simp)
    · cases h
  · rename_i n e ht
    split at h
    · rename_i hc
      obtain ⟨c1, c2, c3, c4, c5, c6⟩ := hc
      cases hi : P.info? e with
      | none => rw [hi] at c2; cases c2
      | some i0 =>
        rw [hi] at c2
        have h1 : i0.size = 1 := by simpa using c2
        have := sim_elems w hi h1 c1 d a b n 0 a.toList b.toList r c3 c4 c5 c6 h (fun j => by simp) (fun j => by simp)
        have hsz := run_size w hi
        rw [h1] at hsz
        obtain ⟨D, hD⟩ : ∃ D, D = d + 1 := ⟨_, rfl⟩
        rw [← hD] at this
        rw [show d + 2 = D + 1 by omega]
        simp only [Op.equalIn, Sem.run_bind, run_underlying ht, Result.andThen_ok, hsz, Std.Legacy.Range.forIn_eq_forIn_range', Std.Legacy.Range.size]
        simp only [Nat.sub_zero, Nat.add_sub_cancel, Nat.div_one, this]
        cases r <;> simp
    · cases h
  · cases h
theorem sim_nest : ∀ (fs : List Field) (i d : Nat) (a b : Array Value) (x y : List Value) (r : Bool), sameNest P sameScals i fs x y = some r → (∀ j, a[i + j]? = x[j]?) → (∀ j, b[i + j]? = y[j]?) → (Op.eqFields (d + 2) a b fs).run P w = .ok r w
  | [], i, d, a, b, x, y, r, h, _, _ => by
    simp only [sameNest, Option.some.injEq] at h
    subst h
    simp [Op.eqFields]
  | f :: fs, i, d, a, b, x, y, r, h, ha, hb => by
    unfold sameNest at h
    split at h
    · rename_i hn0
      simp only [Bool.and_eq_true, bne_iff_ne, ne_eq, beq_iff_eq] at hn0
      obtain ⟨hn, ho⟩ := hn0
      have step : ∀ (n : Nat) (q : Bool), (∀ r, sameNest P sameScals (i + n) fs (x.drop n) (y.drop n) = some r → (Op.eqFields (d + 2) a b fs).run P w = .ok r w) := fun n q r hr =>
        sim_nest fs (i + n) d a b (x.drop n) (y.drop n) r hr (fun j => by rw [Nat.add_assoc, ha, List.getElem?_drop]) (fun j => by rw [Nat.add_assoc, hb, List.getElem?_drop])
      split at h
      · rename_i gs hg
        unfold subN at hg
        split at hg
        · rename_i gs' hu
          split at hg
          · rename_i hc
            cases hg
            obtain ⟨c1, c2, c3⟩ := hc
            split at h
            · rename_i hs
              have hagg : isAggT P f.type = some true := by unfold isAggT; rw [hu]
              obtain ⟨inf, hi, hsz⟩ : ∃ inf, P.info? f.type = some inf ∧ inf.size = gs'.toList.length := by
                cases hi : P.info? f.type with
                | none => rw [hi] at c3; cases c3
                | some inf => rw [hi] at c3; exact ⟨inf, rfl, by simpa using c3⟩
              have hp : ∀ (cs : Array Value), (part f.type cs f.offset).run P w = .ok (.agg (cs.extract i (i + gs'.toList.length))) w := fun cs => by
                simp [part, run_agg w hagg, run_size w hi, hsz, ho]
              have hfo : P.fieldsOf f.type = gs' := by simp [Program.fieldsOf, hu]
              have hex : ∀ (cs : Array Value) (l : List Value), (∀ j, cs[i + j]? = l[j]?) → ∀ j, (cs.extract i (i + gs'.toList.length))[0 + j]? = (l.take gs'.toList.length)[j]? := fun cs l hl j => by
                rw [Nat.zero_add, List.getElem?_take]
                simp only [Array.getElem?_extract]
                by_cases hj : j < gs'.toList.length
                · rw [if_pos hj, ← hl j]
                  by_cases hj2 : i + j < cs.size
                  · rw [if_pos (by omega)]
                  · rw [if_neg (by omega), Array.getElem?_eq_none (by omega)]
                · rw [if_neg hj, if_neg (by omega)]
              cases hq : sameScals (x.take gs'.toList.length) (y.take gs'.toList.length) with
              | none => rw [hq] at h; cases h
              | some q =>
                rw [hq] at h
                have heq : (Op.equalIn (d + 2) f.type (.agg (a.extract i (i + gs'.toList.length))) (.agg (b.extract i (i + gs'.toList.length)))).run P w = .ok q w := by
                  rw [run_equalIn_struct w (d + 1) f.type _ _ (by rw [hfo]; exact hu) c1, hfo]
                  exact sim_fields w gs'.toList 0 d _ _ _ _ q c2 hs.1 hs.2 hq (hex a x ha) (hex b y hb)
                simp only [Array.length_toList] at heq hp
                cases q with
                | true =>
                  have := step _ true r h
                  simp [Op.eqFields, hn, hp, heq, this]
                | false =>
                  cases h
                  simp [Op.eqFields, hn, hp, heq]
            · cases h
          · cases hg
        · cases hg
      · split at h
        · rename_i hs
          obtain ⟨c1, c2, c3⟩ := hs
          cases x with
          | nil => simp [scalsOf] at c2
          | cons x0 xs =>
            cases y with
            | nil => simp [scalsOf] at c3
            | cons y0 ys =>
              simp only [List.take_succ_cons, List.take_zero, scalsOf, Bool.and_true] at c2 c3
              have h0 := run_part_flat w c1 a f.offset x0 (by rw [ho]; have := ha 0; simpa using this)
              have h1 := run_part_flat w c1 b f.offset y0 (by rw [ho]; have := hb 0; simpa using this)
              simp only [List.take_succ_cons, List.take_zero, sameScals] at h
              cases e : sameScal x0 y0 with
              | none => rw [e] at h; cases h
              | some q =>
                rw [e] at h
                have heq := sim_scal w (d + 1) e c2 c3
                cases q with
                | true =>
                  have := step 1 true r h
                  simp [Op.eqFields, hn, h0, h1, heq, this]
                | false =>
                  simp only [Option.some.injEq] at h
                  subst h
                  simp [Op.eqFields, hn, h0, h1, heq]
        · cases h
    · cases h
theorem sim_sameAggN {t : TypeId} {a b : Array Value} {r : Bool} (h : sameAggN P sameScals t a.toList b.toList = some r) (d : Nat) : (Op.equalIn (d + 3) t (.agg a) (.agg b)).run P w = .ok r w ∧ (∀ v ∈ a.toList, pureS v = true) ∧ ∀ v ∈ b.toList, pureS v = true := by
  unfold sameAggN at h
  split at h
  · rename_i fs ht
    split at h
    · rename_i hc
      obtain ⟨c1, c2, c3⟩ := hc
      have hfo : P.fieldsOf t = fs := by simp [Program.fieldsOf, ht]
      refine ⟨?_, List.all_eq_true.1 c2, List.all_eq_true.1 c3⟩
      rw [run_equalIn_struct w (d + 2) t a b (by rw [hfo]; exact ht) c1, hfo]
      exact sim_nest w fs.toList 0 d a b _ _ r h (fun j => by simp) (fun j => by simp)
    · cases h
  · cases h
theorem sim_nil {t : TypeId} {x y x' y' : Value} {r : Bool} (h : pNil P t x y = some r) (hx : VR β x x') (hy : VR β y y') (d : Nat) : (Op.equalIn (d + 1) t x' y').run P w = .ok r w := by
  unfold pNil at h
  split at h
  all_goals first
    | (cases h; done)
    | (rename_i ht
       obtain rfl := Option.some.inj h
       cases hx <;> cases hy <;> simp [Op.equalIn, run_underlying ht])
    | (rename_i ht _
       obtain rfl := Option.some.inj h
       cases hx <;> cases hy <;> simp [Op.equalIn, run_underlying ht])
theorem VR.agg_inv {a : Array Value} {v' : Value} (h : VR β (.agg a) v') : ∃ a', v' = .agg a' := by
  cases h
  exact ⟨_, rfl⟩
theorem isScal_pure {t : TypeId} {v : Value} (h : isScal P t v = true) : pureS v = true := by
  unfold isScal at h
  split at h <;> first | rfl | cases h
theorem scalsOf_pure : ∀ {fs : List Field} {x : List Value}, scalsOf P fs x = true → ∀ v ∈ x, pureS v = true
  | [], [], _, v, hv => by cases hv
  | f :: fs, y :: ys, h, v, hv => by
    simp only [scalsOf, Bool.and_eq_true] at h
    rcases List.mem_cons.1 hv with rfl | hv
    · exact isScal_pure h.1
    · exact scalsOf_pure h.2 v hv
theorem allScal_pure {t : TypeId} : ∀ {x : List Value}, allScal P t x = true → ∀ v ∈ x, pureS v = true
  | [], _, v, hv => by cases hv
  | y :: ys, h, v, hv => by
    simp only [allScal, Bool.and_eq_true] at h
    rcases List.mem_cons.1 hv with rfl | hv
    · exact isScal_pure h.1
    · exact allScal_pure h.2 v hv
theorem sameAgg_pure {t : TypeId} {x y : List Value} {r : Bool} (h : sameAgg P t x y = some r) : (∀ v ∈ x, pureS v = true) ∧ (∀ v ∈ y, pureS v = true) := by
  unfold sameAgg at h
  split at h
  · split at h
    · rename_i hc
      exact ⟨scalsOf_pure hc.2.2.1, scalsOf_pure hc.2.2.2⟩
    · cases h
  · split at h
    · rename_i hc
      exact ⟨allScal_pure hc.2.2.2.2.1, allScal_pure hc.2.2.2.2.2⟩
    · cases h
  · cases h
theorem pureAgg {a : Array Value} (h : ∀ v ∈ a.toList, pureS v = true) : pureV (.agg a) = true := by
  unfold pureV
  exact Array.all_eq_true'.2 fun x hx => h x (by simpa using hx)
theorem run_eqGuard_none {op : BinOp} {t : TypeId} {xo yo : Operand} {x y : Value} (h1 : ∀ a, x ≠ .agg a) (h2 : x ≠ .nilIface) : (eqGuard op t xo yo x y).run P w = .ok () w := by
  cases x <;> first | exact absurd rfl (h1 _) | exact absurd rfl h2 | (cases op <;> simp [eqGuard])
theorem sim_bin {op : BinOp} {t : TypeId} {x y x' y' v : Value} (xo yo : Operand) (h : pBin P op t x y = some v) (hx : VR β x x') (hy : VR β y y') :
    ∃ v', (do eqGuard op t xo yo x' y'; binOp op t x' y' : Sem Value).run P w = .ok v' w ∧ VR β v v' := by
  have key : ∀ {r : Bool}, pBinE P t x y = some r → (Op.equal t x' y').run P w = .ok r w ∧ ∀ op, (eqGuard op t xo yo x' y').run P w = .ok () w := by
    intro r hr
    unfold pBinE at hr
    split at hr
    · rename_i a b
      split at hr
      · rename_i hg
        split at hr
        · obtain ⟨hp, h1, h2⟩ := sim_sameAggN w hr 9997
          rw [hx.pure_eq (pureAgg h1), hy.pure_eq (pureAgg h2)]
          exact ⟨hp, fun op => run_eqGuard_agg w op t xo yo a b hg⟩
        · have hp := sameAgg_pure hr
          rw [hx.pure_eq (pureAgg hp.1), hy.pure_eq (pureAgg hp.2)]
          exact ⟨sim_sameAgg w hr 9998, fun op => run_eqGuard_agg w op t xo yo a b hg⟩
      · cases hr
    · rename_i hne
      refine ⟨sim_nil w hr hx hy 9999, fun op => run_eqGuard_none w ?_ ?_⟩
      · rintro a rfl
        cases hx
        unfold pNil at hr
        split at hr <;> simp_all
      · rintro rfl
        cases hx
        unfold pNil at hr
        split at hr <;> simp_all
  unfold pBin at h
  split at h
  · cases hx; cases hy
    rename_i k a k' b
    have := sim_shift (P := P) (β := β) (k' := k') w t (.inl rfl) h
    exact ⟨v, by simp [eqGuard, this.1], this.2⟩
  · cases hx; cases hy
    rename_i k a k' b
    have := sim_shift (P := P) (β := β) (k' := k') w t (.inr rfl) h
    exact ⟨v, by simp [eqGuard, this.1], this.2⟩
  · split at h
    · rename_i hk
      subst hk
      cases hx; cases hy
      have := sim_binI (P := P) (β := β) w t h
      refine ⟨v, ?_, this.2⟩
      rw [Sem.run_bind, run_eqGuard_none w (by simp) (by simp)]
      exact this.1
    · cases h
  · cases hx; cases hy
    have := sim_binS (P := P) (β := β) w t h
    refine ⟨v, ?_, this.2⟩
    rw [Sem.run_bind, run_eqGuard_none w (by simp) (by simp)]
    exact this.1
  · rename_i n1 n2
    cases hr : pBinE P t x y with
    | none => rw [hr] at h; cases h
    | some r =>
      rw [hr] at h
      obtain rfl := Option.some.inj h
      obtain ⟨k1, k2⟩ := key hr
      refine ⟨.bool r, ?_, .bool r⟩
      rw [Sem.run_bind, k2]
      have : binOp .eql t x' y' = (do pure (.bool (← Op.equal t x' y'))) := by
        cases hx <;> cases hy <;> first | rfl | (exfalso; first | exact n1 _ _ _ _ rfl rfl | exact n2 _ _ rfl rfl) | (unfold pBinE pNil at hr; split at hr <;> simp_all)
      simp [this, k1]
  · rename_i n1 n2
    cases hr : pBinE P t x y with
    | none => rw [hr] at h; cases h
    | some r =>
      rw [hr] at h
      obtain rfl := Option.some.inj h
      obtain ⟨k1, k2⟩ := key hr
      refine ⟨.bool (!r), ?_, .bool (!r)⟩
      rw [Sem.run_bind, k2]
      have : binOp .neq t x' y' = (do pure (.bool (!(← Op.equal t x' y')))) := by
        cases hx <;> cases hy <;> first | rfl | (exfalso; first | exact n1 _ _ _ _ rfl rfl | exact n2 _ _ rfl rfl) | (unfold pBinE pNil at hr; split at hr <;> simp_all)
      simp [this, k1]
  · cases h
end Go.AM
end

section
/- Go's model carries out each further operation that touches no memory as the abstract machine does. Conditions: none. -/
namespace Go.AM
open Go
set_option linter.unusedSimpArgs false
variable {P : Program} {β : Bj} (w : World)
theorem sim_un {op : UnOp} {x x' v : Value} (h : pUn op x = some v) (hx : VR β x x') : ∃ v', (Op.unary op x').run P w = .ok v' w ∧ VR β v v' := by
  unfold pUn at h
  split at h
  · cases hx
    obtain rfl := Option.some.inj h
    exact ⟨_, by simp [Op.unary, Op.intArith], .int _ _⟩
  · cases hx
    obtain rfl := Option.some.inj h
    exact ⟨_, by simp [Op.unary], .bool _⟩
  · cases h
theorem add_none (b off n : Nat) : (⟨b, off, none⟩ : Addr).add n = ⟨b, off + n, none⟩ := by
  unfold Addr.add
  split
  · rename_i h; subst h; rfl
  · rfl
theorem pOff_inv {n : Nat} {x v : Value} (h : pOff n x = some v) : ∃ id off, x = .pointer (some ⟨id, off, none⟩) ∧ v = .pointer (some ⟨id, off + n, none⟩) := by
  unfold pOff at h
  split at h
  · exact ⟨_, _, rfl, (Option.some.inj h).symm⟩
  · cases h
theorem VR.ptr_inv {id off : Nat} {v' : Value} (h : VR β (.pointer (some ⟨id, off, none⟩)) v') : ∃ p, β id = some p ∧ v' = .pointer (some ⟨p.b, p.sh + off, none⟩) := by
  cases h
  exact ⟨_, ‹_›, rfl⟩
theorem sim_fieldAddr {s : TypeId} {f : Nat} {x x' v : Value} (h : pFieldAddr P s f x = some v) (hx : VR β x x') : ∃ v', (Instr.fieldAt s x' f).run P w = .ok v' w ∧ VR β v v' := by
  unfold pFieldAddr at h
  split at h
  · rename_i fs hs
    split at h
    · rename_i fd hf
      split at h
      · rename_i i hi
        split at h
        · cases h
        · rename_i hz
          obtain ⟨id, off, rfl, rfl⟩ := pOff_inv h
          obtain ⟨p, hp, rfl⟩ := hx.ptr_inv
          refine ⟨.pointer (some ⟨p.b, p.sh + (off + fd.offset), none⟩), ?_, .ptr hp⟩
          simp [Instr.fieldAt, run_underlying hs, hf, Instr.sureAddr, fieldPlace, run_size w hi, hz, add_none, Nat.add_assoc]
      · cases h
    · cases h
  · cases h
theorem VR.slice_inv {id off len cap : Nat} {v' : Value} (h : VR β (.slice (some ⟨id, off, none⟩) len cap) v') :
    ∃ p a' cap', β id = some p ∧ v' = .slice (some a') len cap' ∧ (cap' = 0 ∨ a' = ⟨p.b, p.sh + off, none⟩) ∧ len ≤ cap' ∧ cap' < openCap ∧ (openCap ≤ cap → cap = openCap + p.es ∧ p.sh + off + cap' * p.es = p.room) ∧ (cap < openCap → cap' = cap) := by
  cases h with
  | slx hp hl hc ha => exact ⟨_, _, _, hp, rfl, ha, hl, hc, fun e => by omega, fun _ => rfl⟩
  | slo hp hl hc hr ha => exact ⟨_, _, _, hp, rfl, ha, hl, hc, fun _ => ⟨rfl, hr⟩, fun h => by omega⟩
theorem VR.int_inv {k : IntKind} {n : Int} {v' : Value} (h : VR β (.int k n) v') : v' = .int k n := by cases h; rfl
theorem sim_indexAddr {t : TypeId} {x i x' i' v : Value} (h : pIndexAddr P t x i = some v) (hx : VR β x x') (hi : VR β i i') : ∃ v', (Instr.indexAt t x' i').run P w = .ok v' w ∧ VR β v v' := by
  unfold pIndexAddr at h
  split at h
  · rename_i e ht
    split at h
    · rename_i inf hinf
      unfold pIdxS at h
      split at h
      · rename_i id off len cap k n
        split at h
        · rename_i hn
          obtain rfl := Option.some.inj h
          obtain rfl := hi.int_inv
          obtain ⟨p, a', cap', hp, rfl, ha, hlc, _⟩ := hx.slice_inv
          have ha' : a' = ⟨p.b, p.sh + off, none⟩ := by
            rcases ha with h0 | h
            · omega
            · exact h
          subst ha'
          refine ⟨.pointer (some ⟨p.b, p.sh + (off + n.toNat * inf.size), none⟩), ?_, .ptr hp⟩
          simp [Instr.indexAt, asIntOf, run_underlying ht, hn, run_size w hinf, add_none, Nat.add_assoc]
        · cases h
      · cases h
    · cases h
  · rename_i len e ht
    split at h
    · rename_i inf hinf
      unfold pIdxA at h
      split at h
      · rename_i id off k n
        split at h
        · rename_i hn
          obtain rfl := Option.some.inj h
          obtain rfl := hi.int_inv
          obtain ⟨p, hp, rfl⟩ := hx.ptr_inv
          refine ⟨.pointer (some ⟨p.b, p.sh + (off + n.toNat * inf.size), none⟩), ?_, .ptr hp⟩
          simp [Instr.indexAt, asIntOf, run_underlying ht, hn, Instr.sureAddr, run_size w hinf, add_none, Nat.add_assoc]
        · cases h
      · cases h
    · cases h
  · cases h
theorem partV_sim {t : TypeId} {ag : Bool} {inf : TypeInfo} {cs cs' : Array Value} {off : Nat} {v : Value} (hi : P.info? t = some inf) (hg : isAggT P t = some ag) (h : partV ag inf.size cs.toList off = some v) (hx : VR β (.agg cs) (.agg cs')) :
    ∃ v', (part t cs' off).run P w = .ok v' w ∧ VR β v v' := by
  cases hx with
  | agg hs h1 hh =>
    cases ag with
    | false =>
      simp only [partV, Array.getElem?_toList] at h
      have hlt := (Array.getElem?_eq_some_iff.1 h).1
      have hlt' : off < cs'.size := by omega
      have he := hh off hlt
      have e1 : cs.getD off undef = v := by
        obtain ⟨_, e⟩ := Array.getElem?_eq_some_iff.1 h
        simp [Array.getD, hlt, e]
      have e2 : cs'.getD off undef = cs'[off] := by simp [Array.getD, hlt']
      rw [e1, e2] at he
      exact ⟨_, by simp [part, run_agg w hg, hlt'], he⟩
    | true =>
      simp only [partV, Option.some.injEq] at h
      subst h
      refine ⟨.agg (cs'.extract off (off + inf.size)), by simp [part, run_agg w hg, run_size w hi], ?_⟩
      have e0 : ((cs.toList.drop off).take inf.size).toArray = cs.extract off (off + inf.size) := by
        apply Array.ext'
        simp [List.extract_eq_take_drop]
      rw [e0]
      refine .agg (by simp [hs]) (fun v hv => h1 v ?_) ?_
      · obtain ⟨i, hi, rfl⟩ := Array.mem_iff_getElem.1 hv
        simp
      · intro i hi
        simp at hi
        have := hh (off + i) (by omega)
        have a1 : (cs.extract off (off + inf.size)).getD i undef = cs.getD (off + i) undef := by
          simp [Array.getD, hi, show off + i < cs.size by omega]
        have a2 : (cs'.extract off (off + inf.size)).getD i undef = cs'.getD (off + i) undef := by
          have : i < min (off + inf.size) cs'.size - off := by omega
          simp [Array.getD, this, show off + i < cs'.size by omega]
        rw [a1, a2]
        exact this
theorem sim_index {t : TypeId} {x i x' i' v : Value} (h : pIndex P t x i = some v) (hx : VR β x x') (hi : VR β i i') : ∃ v', (Instr.index t x' i').run P w = .ok v' w ∧ VR β v v' := by
  unfold pIndex at h
  split at h
  · rename_i ht
    unfold pIdxStr at h
    split at h
    · rename_i s k n
      obtain rfl := hi.int_inv
      cases hx
      split at h
      · rename_i hn
        cases e : s[n.toNat]? with
        | none => rw [e] at h; cases h
        | some b =>
          rw [e] at h
          obtain rfl := Option.some.inj h
          exact ⟨.int .u8 b.toNat, by simp [Instr.index, asIntOf, run_underlying ht, hn, e], .int _ _⟩
      · cases h
    · cases h
  · rename_i len e ht
    split at h
    · rename_i inf ag cs k n hinf hag
      obtain rfl := hi.int_inv
      obtain ⟨cs', rfl⟩ := hx.agg_inv
      split at h
      · rename_i hn
        obtain ⟨v', hr, hv⟩ := partV_sim w hinf hag h hx
        exact ⟨v', by simp [Instr.index, asIntOf, run_underlying ht, hn, run_size w hinf, hr], hv⟩
      · cases h
    · cases h
  · cases h
theorem sim_field {t : TypeId} {x x' v : Value} {f : Nat} (h : pField P t x f = some v) (hx : VR β x x') : ∃ v', (Instr.field t x' f).run P w = .ok v' w ∧ VR β v v' := by
  unfold pField at h
  split at h
  · rename_i fs ht
    split at h
    · rename_i fd hf
      split at h
      · rename_i inf ag cs hinf hag
        obtain ⟨cs', rfl⟩ := hx.agg_inv
        obtain ⟨v', hr, hv⟩ := partV_sim w hinf hag h hx
        exact ⟨v', by simp [Instr.field, run_underlying ht, hf, asAgg, hr], hv⟩
      · cases h
    · cases h
  · cases h
theorem sim_extract {x x' v : Value} {i : Nat} (h : pExtract x i = some v) (hx : VR β x x') : ∃ v', (Instr.extract x' i).run P w = .ok v' w ∧ VR β v v' := by
  unfold pExtract at h
  split at h
  · cases hx with
    | tuple hs hh =>
      rename_i vs vs'
      simp only [Array.getElem?_toList] at h
      have hlt := (Array.getElem?_eq_some_iff.1 h).1
      have hlt' : i < vs'.size := by omega
      have he := hh i hlt
      have e1 : vs.getD i undef = v := by
        obtain ⟨_, e⟩ := Array.getElem?_eq_some_iff.1 h
        simp [Array.getD, hlt, e]
      have e2 : vs'.getD i undef = vs'[i] := by simp [Array.getD, hlt']
      rw [e1, e2] at he
      exact ⟨_, by simp [Instr.extract, hlt'], he⟩
  · cases h
theorem sim_conv {s d : TypeId} {x x' v : Value} (h : pConv P s d x = some v) (hx : VR β x x') : ∃ v', (convert s d x').run P w = .ok v' w ∧ VR β v v' := by
  unfold pConv at h
  split at h
  · rename_i h1 h2
    cases hx
    obtain rfl := Option.some.inj h
    exact ⟨_, by simp [convert, run_underlying h1, run_underlying h2, Conv.intToInt], .int _ _⟩
  · rename_i h1 h2
    cases hx
    obtain rfl := Option.some.inj h
    exact ⟨_, by simp [convert, run_underlying h1, run_underlying h2], .str _⟩
  · cases h
theorem sim_max2 {mx : Bool} {x y x' y' v : Value} (h : pMax2 mx x y = some v) (hx : VR β x x') (hy : VR β y y') : ∃ v', (if mx then Builtin.max2 x' y' else Builtin.min2 x' y').run P w = .ok v' w ∧ VR β v v' := by
  unfold pMax2 at h
  split at h
  · split at h
    · rename_i hk
      subst hk
      cases hx; cases hy
      obtain rfl := Option.some.inj h
      cases mx
      · exact ⟨_, by simp [Builtin.min2], .int _ _⟩
      · exact ⟨_, by simp [Builtin.max2], .int _ _⟩
    · cases h
  · cases h
theorem sim_cap {t : TypeId} {ts : Array TypeId} {ty : TypeId} {x x' v : Value} (ht0 : ts[0]? = some t) (h : pCap P t x = some v) (hx : VR β x x') : ∃ v', (Builtin.cap_ ts ty #[x']).run P w = .ok v' w ∧ VR β v v' := by
  unfold pCap at h
  split at h
  · rename_i ht
    split at h
    · rename_i hc
      obtain rfl := Option.some.inj h
      cases hx with
      | nils => exact ⟨_, by simp [Builtin.cap_, ht0, run_underlying ht, goInt], .int _ _⟩
      | slx => exact ⟨_, by simp [Builtin.cap_, ht0, run_underlying ht, goInt], .int _ _⟩
      | slo => exact absurd hc (by omega)
    · cases h
  · cases h
theorem sim_len {t : TypeId} {ts : Array TypeId} {ty : TypeId} {x x' v : Value} (ht0 : ts[0]? = some t) (h : pLen P t x = some v) (hx : VR β x x') : ∃ v', (Builtin.len_ ts ty #[x']).run P w = .ok v' w ∧ VR β v v' := by
  unfold pLen at h
  split at h
  · rename_i ht
    cases hx
    obtain rfl := Option.some.inj h
    exact ⟨_, by simp [Builtin.len_, ht0, run_underlying ht, goInt], .int _ _⟩
  · rename_i ht
    obtain rfl := Option.some.inj h
    cases hx <;> exact ⟨_, by simp [Builtin.len_, ht0, run_underlying ht, goInt], .int _ _⟩
  · rename_i ht
    obtain rfl := Option.some.inj h
    exact ⟨_, by simp [Builtin.len_, ht0, run_underlying ht, goInt], .int _ _⟩
  · cases h
end Go.AM
end

section
/- Go's model builds structs and cuts slices as the abstract machine does. Conditions: none. -/
namespace Go.AM
open Go
set_option linter.unusedSimpArgs false
variable {P : Program} {β : Bj} (w : World)
theorem agetD (a : Array Value) (i : Nat) : a.getD i undef = (a[i]?).getD undef := by
  rw [Array.getD_eq_getD_getElem?]
theorem lgetD (a : List Value) (i : Nat) : a.getD i undef = (a[i]?).getD undef := List.getD_eq_getElem?_getD
theorem toList_getD (a : Array Value) (i : Nat) : a.toList.getD i undef = a.getD i undef := by rw [agetD, lgetD, Array.getElem?_toList]
def CellsR (β : Bj) (l : List Value) (a : Array Value) : Prop := a.size = l.length ∧ ∀ i, i < l.length → VR β (l.getD i undef) (a.getD i undef)
theorem VR.cells {v v' : Value} (h : VR β v v') : CellsR β (cellsL v) v'.cells := by
  cases h with
  | agg hs _ hh =>
    rename_i a a' _
    refine ⟨by simp [cellsL, Value.cells, hs], fun i hi => ?_⟩
    simp only [cellsL] at hi ⊢
    have := hh i (by simpa using hi)
    rw [toList_getD]
    exact this
  | _ =>
    refine ⟨rfl, fun i hi => ?_⟩
    have : i = 0 := by simp [cellsL] at hi; exact hi
    subst this
    simp only [cellsL, Value.cells, List.getD, Array.getD]
    simp
    first | exact VR.bool _ | exact VR.int _ _ | exact VR.float _ _ | exact VR.complex _ _ _ | exact VR.str _ | exact VR.nilp | (exact VR.ptr ‹_›) | exact VR.nils | (exact VR.slx ‹_› ‹_› ‹_› ‹_›) | (exact VR.slo ‹_› ‹_› ‹_› ‹_› ‹_›) | exact VR.nilm | (exact VR.map ‹_›) | (exact VR.func _ ‹_› ‹_› ‹_› ‹_›) | exact VR.nilFunc | (exact VR.iface _ ‹_›) | exact VR.nilIface | (exact VR.tuple ‹_› ‹_›)
theorem foldSet (off : Nat) : ∀ (l : List Value) (k : Nat) (cs : Array Value), ((l.zipIdx k).foldl (fun (cs : Array Value) (x : Value × Nat) => cs.setIfInBounds (off + x.2) x.1) cs).size = cs.size ∧
    ∀ i, off + k + l.length ≤ cs.size → ((l.zipIdx k).foldl (fun (cs : Array Value) (x : Value × Nat) => cs.setIfInBounds (off + x.2) x.1) cs).getD i undef = if off + k ≤ i ∧ i < off + k + l.length then l.getD (i - (off + k)) undef else cs.getD i undef
  | [], k, cs => by
    refine ⟨rfl, fun i _ => ?_⟩
    simp only [List.zipIdx_nil, List.foldl_nil, List.length_nil, Nat.add_zero]
    rw [if_neg (by omega)]
  | v :: r, k, cs => by
    have ih := foldSet off r (k + 1) (cs.setIfInBounds (off + k) v)
    simp only [List.zipIdx_cons, List.foldl_cons]
    refine ⟨by rw [ih.1]; simp, fun i hi => ?_⟩
    simp only [List.length_cons] at hi
    rw [ih.2 i (by simp; omega)]
    by_cases h1 : i = off + k
    · subst h1
      rw [if_neg (by omega), if_pos (by simp)]
      have : off + k < cs.size := by omega
      simp [agetD, this]
    · by_cases h2 : off + (k + 1) ≤ i ∧ i < off + (k + 1) + r.length
      · rw [if_pos h2, if_pos (by simp; omega)]
        rw [show i - (off + k) = (i - (off + (k + 1))) + 1 by omega]
        simp
      · rw [if_neg h2, if_neg (by simp; omega)]
        rw [agetD, agetD, Array.getElem?_setIfInBounds_ne (by omega)]
theorem splice_getD (cl vs : List Value) (off i : Nat) (h : off + vs.length ≤ cl.length) :
    (cl.take off ++ vs ++ cl.drop (off + vs.length)).getD i undef = if off ≤ i ∧ i < off + vs.length then vs.getD (i - off) undef else cl.getD i undef := by
  simp only [List.getD_eq_getElem?_getD]
  congr 1
  by_cases h1 : i < off
  · rw [if_neg (by omega), List.append_assoc, List.getElem?_append_left (by simp; omega)]
    simp [h1]
  · by_cases h2 : i < off + vs.length
    · rw [if_pos ⟨by omega, h2⟩, List.append_assoc, List.getElem?_append_right (by simp; omega), List.getElem?_append_left (by simp; omega)]
      rw [List.length_take, Nat.min_eq_left (by omega)]
    · rw [if_neg (by omega), List.getElem?_append_right (by simp; omega), List.getElem?_drop]
      have e : off + vs.length + (i - (cl.take off ++ vs).length) = i := by
        rw [List.length_append, List.length_take]
        omega
      rw [e]
def PartsR (β : Bj) : List (Nat × Value) → List (Nat × Value) → Prop
  | [], [] => True
  | (i, v) :: r, (j, u) :: s => i = j ∧ VR β v u ∧ PartsR β r s
  | _, _ => False
theorem sim_fill (place : Nat → Option (Nat × Nat)) : ∀ (ps qs : List (Nat × Value)) (cl cl' : List Value) (ca : Array Value), PartsR β ps qs → fillL place cl ps = some cl' → CellsR β cl ca → (∀ v ∈ cl, v.oneCell' = true) →
    ∃ ca', Instr.fill place ca qs = some ca' ∧ CellsR β cl' ca' ∧ ∀ v ∈ cl', v.oneCell' = true
  | [], [], cl, cl', ca, _, h, hc, h1 => by
    simp only [fillL, Option.some.injEq] at h
    subst h
    exact ⟨ca, rfl, hc, h1⟩
  | (i, v) :: r, (j, u) :: s, cl, cl', ca, hp, h, hc, h1 => by
    obtain ⟨rfl, hv, hr⟩ := hp
    simp only [fillL] at h
    cases e : place i with
    | none => rw [e] at h; cases h
    | some q =>
      obtain ⟨off, size⟩ := q
      rw [e] at h
      simp only at h
      split at h
      · rename_i hh
        obtain ⟨hsz, hle, hone⟩ := hh
        have hvc := hv.cells
        have hus : u.cells.size = size := by rw [hvc.1, hsz]
        have f := foldSet off u.cells.toList 0 ca
        have e0 : u.cells.zipIdx.foldl (fun (cs : Array Value) (x : Value × Nat) => cs.setIfInBounds (off + x.2) x.1) ca = (u.cells.toList.zipIdx 0).foldl (fun (cs : Array Value) (x : Value × Nat) => cs.setIfInBounds (off + x.2) x.1) ca := by
          rw [← Array.foldl_toList, Array.toList_zipIdx]
        have hlen : u.cells.toList.length = (cellsL v).length := by simp [hvc.1]
        obtain ⟨ca', h2, h3, h4⟩ := sim_fill place r s (cl.take off ++ cellsL v ++ cl.drop (off + (cellsL v).length)) cl' (u.cells.zipIdx.foldl (fun (cs : Array Value) (x : Value × Nat) => cs.setIfInBounds (off + x.2) x.1) ca) hr h
          (by
            rw [e0]
            refine ⟨by rw [f.1, hc.1]; simp; omega, fun k hk => ?_⟩
            rw [f.2 k (by rw [hlen, hc.1]; omega), splice_getD _ _ _ _ hle, hlen]
            simp only [Nat.add_zero]
            split
            · rename_i hk2
              have := hvc.2 (k - off) (by omega)
              rw [toList_getD (u.cells)]
              exact this
            · exact hc.2 k (by simp at hk; omega))
          (by
            intro x hx
            rcases List.mem_append.1 hx with hx | hx
            · rcases List.mem_append.1 hx with hx | hx
              · exact h1 x (List.mem_of_mem_take hx)
              · exact List.all_eq_true.1 hone x hx
            · exact h1 x (List.mem_of_mem_drop hx))
        refine ⟨ca', ?_, h3, h4⟩
        simp only [Instr.fill, e]
        rw [if_neg (by rw [hus, hc.1]; simp; omega)]
        exact h2
      · cases h
  | [], _ :: _, _, _, _, h, _, _, _ => by cases h
  | _ :: _, [], _, _, _, h, _, _, _ => by cases h
theorem zeroL_spec {t : TypeId} {l : List Value} (h : zeroL P t = some l) : ∃ z, (zeroValue t).run P w = .ok z w ∧ cellsL z = l ∧ z.cells = l.toArray ∧ CellsR β l z.cells ∧ (∀ v ∈ l, v.oneCell' = true) ∧ VR β z z := by
  unfold zeroL at h
  split at h
  · rename_i i hi
    split at h
    · rename_i z hz
      split at h
      · rename_i hc
        obtain rfl := Option.some.inj h
        refine ⟨z, by simp [zeroValue, run_info w hi, hz], rfl, ?_, (VR.ofPure hc.1).cells, fun v hv => List.all_eq_true.1 hc.2 v hv, VR.ofPure hc.1⟩
        cases z <;> simp [Value.cells, cellsL]
      · cases h
    · cases h
  · cases h
theorem run_places : ∀ (fs : List Field), knownTypes P fs = true → (fs.mapM (m := Sem) fun f => do pure (f.offset, ← sizeOf f.type)).run P w = .ok (placesOf P fs) w
  | [], _ => by simp [placesOf]
  | f :: fs, h => by
    simp only [knownTypes, List.all_cons, Bool.and_eq_true] at h
    obtain ⟨i, hi⟩ := Option.isSome_iff_exists.1 h.1
    have := run_places fs h.2
    simp [placesOf, Program.cellsOf, hi, run_size w hi] at this ⊢
    simp [this]
theorem agg_of_cells {l : List Value} {a : Array Value} (h : CellsR β l a) (h1 : ∀ v ∈ l, v.oneCell' = true) : VR β (.agg l.toArray) (.agg a) := by
  refine .agg (by simp [h.1]) (fun v hv => h1 v (by simpa using hv)) fun i hi => ?_
  have := h.2 i (by simpa using hi)
  rw [← toList_getD]
  exact this
theorem sim_build {t : TypeId} {ps : List (Nat × Value)} {qs : Array (Nat × Value)} {v : Value} (h : pBuild P t ps = some v) (hp : PartsR β ps qs.toList) : ∃ v', (Instr.build t qs).run P w = .ok v' w ∧ VR β v v' := by
  unfold pBuild at h
  split at h
  · rename_i z fs hz ht
    split at h
    · rename_i hk
      cases e : fillL (fun i => (placesOf P fs.toList)[i]?) z ps with
      | none => rw [e] at h; cases h
      | some cs =>
        rw [e] at h
        obtain rfl := Option.some.inj h
        obtain ⟨zv, hrun, _, _, hzc, hz1, _⟩ := zeroL_spec (β := β) w hz
        obtain ⟨ca', h2, h3, h4⟩ := sim_fill _ _ _ _ _ _ hp e hzc hz1
        refine ⟨.agg ca', ?_, agg_of_cells h3 h4⟩
        have hm : (fs.mapM (m := Sem) fun f => do pure (f.offset, ← sizeOf f.type)).run P w = .ok (placesOf P fs.toList).toArray w := by
          rw [Array.mapM_eq_mapM_toList, Sem.run_map, run_places w _ hk]
          rfl
        simp only [Instr.build, Sem.run_bind, hrun, Result.andThen_ok, run_underlying ht, hm]
        have e3 : (fun (x : Nat) => (placesOf P fs.toList).toArray[x]?) = (fun (i : Nat) => (placesOf P fs.toList)[i]?) := by funext i; simp
        simp only [e3, h2]
        rfl
    · cases h
  · rename_i z n e hz ht
    split at h
    · rename_i i hi
      cases e' : fillL (fun j => some (j * i.size, i.size)) z ps with
      | none => rw [e'] at h; cases h
      | some cs =>
        rw [e'] at h
        obtain rfl := Option.some.inj h
        obtain ⟨zv, hrun, _, _, hzc, hz1, _⟩ := zeroL_spec (β := β) w hz
        obtain ⟨ca', h2, h3, h4⟩ := sim_fill _ _ _ _ _ _ hp e' hzc hz1
        refine ⟨.agg ca', ?_, agg_of_cells h3 h4⟩
        simp only [Instr.build, Sem.run_bind, hrun, Result.andThen_ok, run_underlying ht, run_size w hi, h2]
        rfl
    · cases h
  · cases h
def OptR (β : Bj) : Option Value → Option Value → Prop
  | none, none => True
  | some v, some u => VR β v u
  | _, _ => False
theorem sim_bound {x x' : Option Value} {v y d n : Nat} (code : BoundsCode) (h : pSliceB x y d = some n) (hx : OptR β x x') (u : Value) (hu : x' = some u) : n ≤ y ∧ (y ≤ v → (Instr.sliceBound u v code).run P w = .ok n w) := by
  subst hu
  unfold pSliceB at h
  split at h
  · cases hx
  · split at h
    · rename_i hi
      obtain rfl := Option.some.inj h
      cases (show VR β _ _ from hx)
      refine ⟨by omega, fun hv => ?_⟩
      rename_i k i
      have h2 : i ≤ (v : Int) := by omega
      simp [Instr.sliceBound, asIntOf, hi.1, h2]
    · cases h
  · cases h
theorem bound_none {y d n : Nat} (h : pSliceB none y d = some n) : n = d := by
  simp [pSliceB] at h; exact h.symm
theorem OptR.none_inv {x' : Option Value} (h : OptR β none x') : x' = none := by cases x' <;> first | rfl | cases h
theorem OptR.some_inv {v : Value} {x' : Option Value} (h : OptR β (some v) x') : ∃ u, x' = some u ∧ VR β v u := by
  cases x' with
  | none => cases h
  | some u => exact ⟨u, rfl, h⟩
def bndR (P : Program) (w : World) (c : BoundsCode) (x : Option Value) (y d : Nat) : Result Nat :=
  match x with
  | some v => (Instr.sliceBound v y c).run P w
  | none => .ok d w
theorem sim_bndR {x x' : Option Value} {y d n : Nat} (c : BoundsCode) (h : pSliceB x y d = some n) (r : OptR β x x') (y' d' : Nat) (hy : y ≤ y') (hd : x = none → d' = d) : bndR P w c x' y' d' = .ok n w := by
  cases x with
  | none => obtain rfl := r.none_inv; obtain rfl := bound_none h; rw [hd rfl]; rfl
  | some v =>
    obtain ⟨u, rfl, hu⟩ := r.some_inv
    exact (sim_bound (P := P) (v := y') w c h r u rfl).2 hy
theorem run_sliceSl {t e : TypeId} {i : TypeInfo} (ht : P.underlying t = some (.slice e)) (hi : P.info? e = some i) (a : Option Addr) (len cap l h m : Nat) (lo' hi' mx' : Option Value) (hcond : ¬ (mx'.isSome = true ∧ hi'.isNone = true))
    (hm : bndR P w .slice3Acap mx' cap cap = .ok m w) (hh : ∀ c, bndR P w c hi' m len = .ok h w) (hl : ∀ c, bndR P w c lo' h 0 = .ok l w) :
    (Instr.sliceAt t (.slice a len cap) lo' hi' mx').run P w = .ok (.slice (if m = l then a else a.map (·.add (l * i.size))) (h - l) (m - l)) w := by
  simp only [Instr.sliceAt, Instr.slice, Sem.run_bind, run_underlying ht, Result.andThen_ok, Instr.sliceBounds]
  have hl1 := hl .slice3C
  have hl2 := hl .sliceB
  have hh1 := hh .slice3B
  have hh2 := hh .sliceAcap
  unfold bndR at *
  cases mx' <;> cases hi' <;> cases lo' <;> simp_all [run_size w hi]
theorem isNone_R {x x' : Option Value} (r : OptR β x x') : x'.isNone = x.isNone := by cases x <;> cases x' <;> first | rfl | cases r
theorem isSome_R {x x' : Option Value} (r : OptR β x x') : x'.isSome = x.isSome := by cases x <;> cases x' <;> first | rfl | cases r
theorem bound_le {x : Option Value} {y d n : Nat} (h : pSliceB x y d = some n) (hd : x = none → d ≤ y) : n ≤ y := by
  unfold pSliceB at h
  split at h
  · obtain rfl := Option.some.inj h; exact hd rfl
  · split at h
    · obtain rfl := Option.some.inj h; omega
    · cases h
  · cases h
def BaseR (β : Bj) (cap' len : Nat) (a a' : Option Addr) : Prop :=
  (a = none ∧ a' = none ∧ cap' = 0 ∧ len = 0) ∨ ∃ id off p x, a = some ⟨id, off, none⟩ ∧ β id = some p ∧ a' = some x ∧ (cap' = 0 ∨ x = ⟨p.b, p.sh + off, none⟩)
theorem sim_sliceEx {t e : TypeId} {i : TypeInfo} (ht : P.underlying t = some (.slice e)) (hi : P.info? e = some i) {a : Option Addr} {len m : Nat} {lo hi0 lo' hi' mx' : Option Value} {v : Value} (h : pSliceEx i.size a len m lo hi0 = some v)
    (rlo : OptR β lo lo') (rhi : OptR β hi0 hi') (hcond : ¬ (mx'.isSome = true ∧ hi'.isNone = true)) (a' : Option Addr) (cap' : Nat) (hm : bndR P w .slice3Acap mx' cap' cap' = .ok m w) (hmc : m ≤ cap') (hmo : m < openCap)
    (ha : BaseR β cap' len a a') (hlen : len ≤ m ∨ hi0 ≠ none) : ∃ v', (Instr.sliceAt t (.slice a' len cap') lo' hi' mx').run P w = .ok v' w ∧ VR β v v' := by
  unfold pSliceEx at h
  split at h
  · rename_i hh e1
    split at h
    · rename_i l e2
      obtain rfl := Option.some.inj h
      refine ⟨_, run_sliceSl w ht hi a' len cap' l hh m lo' hi' mx' hcond hm (fun c => sim_bndR w c e1 rhi m len (Nat.le_refl _) (fun _ => rfl)) (fun c => sim_bndR w c e2 rlo hh 0 (Nat.le_refl _) (fun _ => rfl)), ?_⟩
      have hhm : hh ≤ m := bound_le e1 (fun hn => hlen.resolve_right (by simp [hn]))
      have hlh : l ≤ hh := bound_le e2 (fun _ => Nat.zero_le _)
      rcases ha with ⟨rfl, rfl, h0, h1⟩ | ⟨id, off, p, x, rfl, hp, rfl, hx⟩
      · have e3 : hh = 0 := by omega
        have e4 : l = 0 := by omega
        have e5 : m = 0 := by omega
        subst e3 e4 e5
        exact .nils
      · by_cases hml : m = l
        · rw [if_pos hml, if_pos hml]
          exact .slx hp (by omega) (by omega) (.inl (by omega))
        · rw [if_neg hml, if_neg hml]
          simp only [Option.map_some]
          refine .slx hp (by omega) (by omega) ?_
          rcases hx with h0 | rfl
          · left; omega
          · right
            rw [add_none, Nat.add_assoc]
    · cases h
  · cases h
theorem VR.slice_base {a : Option Addr} {len cap : Nat} {x' : Value} (h : VR β (.slice a len cap) x') : ∃ a' cap', x' = .slice a' len cap' ∧ BaseR β cap' len a a' ∧ len ≤ cap' ∧ cap' < openCap ∧ (cap < openCap → cap' = cap) ∧
    (openCap ≤ cap → ∃ id off p, a = some ⟨id, off, none⟩ ∧ β id = some p ∧ cap = openCap + p.es ∧ p.sh + off + cap' * p.es = p.room) := by
  cases h with
  | nils => exact ⟨none, 0, rfl, .inl ⟨rfl, rfl, rfl, rfl⟩, Nat.le_refl _, by decide, fun _ => rfl, fun h => absurd h (by decide)⟩
  | slx hp hl hc ha => exact ⟨_, _, rfl, .inr ⟨_, _, _, _, rfl, hp, rfl, ha⟩, hl, hc, fun _ => rfl, fun h => by omega⟩
  | slo hp hl hc hr ha => exact ⟨_, _, rfl, .inr ⟨_, _, _, _, rfl, hp, rfl, ha⟩, hl, hc, fun h => by omega, fun _ => ⟨_, _, _, rfl, hp, rfl, hr⟩⟩
theorem sim_slice {t : TypeId} {x x' v : Value} {lo hi mx lo' hi' mx' : Option Value} (h : pSlice P t x lo hi mx = some v) (hx : VR β x x') (rlo : OptR β lo lo') (rhi : OptR β hi hi') (rmx : OptR β mx mx') :
    ∃ v', (Instr.sliceAt t x' lo' hi' mx').run P w = .ok v' w ∧ VR β v v' := by
  unfold pSlice at h
  split at h
  · rename_i ht
    split at h
    · rename_i hm
      have hmx : mx = none := by cases mx <;> simp_all
      subst hmx
      obtain rfl := rmx.none_inv
      unfold pSliceStr at h
      split at h
      · rename_i s
        cases hx
        split at h
        · rename_i hh e1
          split at h
          · rename_i l e2
            obtain rfl := Option.some.inj h
            have r1 := sim_bndR (P := P) w .sliceAlen e1 rhi s.size s.size (Nat.le_refl _) (fun _ => rfl)
            have r2 := sim_bndR (P := P) w .sliceB e2 rlo hh 0 (Nat.le_refl _) (fun _ => rfl)
            refine ⟨_, ?_, .str _⟩
            simp only [Instr.sliceAt, Instr.slice, Sem.run_bind, run_underlying ht, Result.andThen_ok, Option.isSome_none, Bool.false_eq_true, if_false, Instr.sliceBounds, Sem.run_pure]
            unfold bndR at r1 r2
            cases hi' <;> cases lo' <;> simp_all
          · cases h
        · cases h
      · cases h
    · cases h
  · rename_i e ht
    split at h
    · rename_i i hi0
      split at h
      · cases h
      · rename_i hcond
        have hcond' : ¬ (mx'.isSome = true ∧ hi'.isNone = true) := by rw [isSome_R rmx, isNone_R rhi]; exact hcond
        unfold pSliceSl at h
        split at h
        · rename_i a len cap
          obtain ⟨a', cap', rfl, hb, hlc, hco, hex, hop⟩ := hx.slice_base
          split at h
          · rename_i hc
            obtain rfl := hex hc
            split at h
            · rename_i m e1
              have hmle : m ≤ cap' := bound_le e1 (fun _ => Nat.le_refl _)
              refine sim_sliceEx w ht hi0 h rlo rhi hcond' a' cap' (sim_bndR w _ e1 rmx cap' cap' (Nat.le_refl _) (fun _ => rfl)) hmle (by omega) hb ?_
              cases mx with
              | none => left; have := bound_none e1; omega
              | some v => right; intro hn; subst hn; exact hcond ⟨rfl, rfl⟩
            · cases h
          · split at h
            · rename_i hc hcs
              obtain ⟨id, off, p, rfl, hp, hes, hroom⟩ := hop (by omega)
              have hsz : i.size = p.es := by omega
              split at h
              · obtain rfl := rmx.none_inv
                unfold pSliceOp at h
                split at h
                · rename_i hh e1
                  split at h
                  · rename_i l e2
                    obtain rfl := Option.some.inj h
                    have hhm : hh ≤ len := bound_le e1 (fun _ => Nat.le_refl _)
                    have hlh : l ≤ hh := bound_le e2 (fun _ => Nat.zero_le _)
                    refine ⟨_, run_sliceSl w ht hi0 a' len cap' l hh cap' lo' hi' none (by simp) rfl (fun c => sim_bndR w c e1 rhi cap' len hlc (fun _ => rfl)) (fun c => sim_bndR w c e2 rlo hh 0 (Nat.le_refl _) (fun _ => rfl)), ?_⟩
                    rcases hb with ⟨hn, _⟩ | ⟨id', off', p', x, hsome, hp', rfl, hx'⟩
                    · cases hn
                    · cases hsome
                      rw [hp] at hp'
                      obtain rfl := Option.some.inj hp'
                      rw [hsz]
                      have hsub : p.sh + (off + l * p.es) + (cap' - l) * p.es = p.room := by
                        rw [Nat.sub_mul]
                        have : l * p.es ≤ cap' * p.es := Nat.mul_le_mul_right _ (by omega)
                        omega
                      by_cases hml : cap' = l
                      · rw [if_pos hml]
                        exact .slo hp (by omega) (by omega) hsub (.inl (by omega))
                      · rw [if_neg hml]
                        simp only [Option.map_some]
                        refine .slo hp (by omega) (by omega) hsub ?_
                        rcases hx' with h0 | rfl
                        · left; omega
                        · right
                          rw [add_none, Nat.add_assoc]
                  · cases h
                · cases h
              · rename_i mv
                split at h
                · rename_i m e1
                  have hmle : m ≤ len := bound_le e1 (fun hn => by cases hn)
                  refine sim_sliceEx w ht hi0 h rlo rhi hcond' a' cap' (sim_bndR w _ e1 rmx cap' cap' hlc (fun hn => by cases hn)) (by omega) (by omega) hb ?_
                  right; intro hn; subst hn; exact hcond ⟨rfl, rfl⟩
                · cases h
            · cases h
        · cases h
    · cases h
  · rename_i n e ht
    split at h
    · rename_i i id off hi0
      split at h
      · rename_i hn
        obtain rfl := Option.some.inj h
        obtain rfl := rlo.none_inv
        obtain rfl := rhi.none_inv
        obtain rfl := rmx.none_inv
        cases hx with
        | ptr hp =>
          rename_i p
          refine ⟨.slice (some ⟨p.b, p.sh + off, none⟩) n n, ?_, .slx hp (Nat.le_refl _) hn (.inr rfl)⟩
          simp [Instr.sliceAt, run_underlying ht, Instr.sureAddr, Instr.sliceBounds, run_size w hi0, add_none]
      · cases h
    · cases h
  · cases h
end Go.AM
end

section
/- The abstract machine's operations on memory. Conditions: none. -/
namespace Go.AM
open Go
def rdRow (ag : Bool) (n : Nat) (x : Value) (h : AH) : Option Value :=
  match x with
  | .pointer (some ⟨id, off, none⟩) => match h[id]? with
    | some (.row c _) => if off + n ≤ c.length then partV ag n c off else none
    | _ => none
  | _ => none
def pLoad (P : Program) (t : TypeId) (x : Value) (h : AH) : Option Value :=
  match P.info? t, isAggT P t with
  | some i, some true => rdRow true i.size x h
  | some i, some false => if i.size = 1 then rdRow false 1 x h else none
  | _, _ => none
def newW (slot : Option Nat) (o : AObj) (h : AH) (K : Nat → AH → Prop) : Prop :=
  match slot with
  | none => K h.length (h ++ [o])
  | some r => K r (h.set r o)
def aAlloc (P : Program) (t : TypeId) (slot : Option Nat) (h : AH) (K : Value → AH → Prop) : Prop :=
  optW (zeroL P t) fun c => newW slot (.row c true) h fun id h' => K (.pointer (some ⟨id, 0, none⟩)) h'
def aBox (v : Value) (slot : Option Nat) (h : AH) (K : Value → AH → Prop) : Prop :=
  (cellsL v).all (·.oneCell') = true ∧ newW slot (.row (cellsL v) true) h fun id h' => K (.pointer (some ⟨id, 0, none⟩)) h'
def repL (z : List Value) : Nat → List Value
  | 0 => []
  | n + 1 => z ++ repL z n
def pBuildSlice (P : Program) (t : TypeId) (len : Nat) (parts : List (Nat × Value)) : Option (List Value) :=
  match P.underlying t with
  | some (.slice e) => match P.info? e, zeroL P e with
    | some i, some z => if z.length = i.size ∧ len * i.size ≤ 16777216 ∧ len ≤ 16777216 then fillL (fun j => some (j * i.size, i.size)) (repL z len) parts else none
    | _, _ => none
  | _ => none
def aBuildSlice (P : Program) (t : TypeId) (len : Nat) (parts : List (Nat × Value)) (slot : Option Nat) (h : AH) (K : Value → AH → Prop) : Prop :=
  optW (pBuildSlice P t len parts) fun c => newW slot (.row c true) h fun id h' => K (.slice (some ⟨id, 0, none⟩) len len) h'
def aMakeMap (slot : Option Nat) (h : AH) (K : Value → AH → Prop) : Prop :=
  newW slot (.map [] 0) h fun id h' => K (.map (some id)) h'
def room40 : Nat := 1099511627776
def pMakeSlice (P : Program) (t : TypeId) (len cap : Value) : Option (Nat × Nat × List Value) :=
  match P.underlying t, len, cap with
  | some (.slice e), .int .i64 l, .int .i64 c => match P.info? e, zeroL P e with
    | some i, some z => if 0 ≤ l ∧ l ≤ c ∧ c ≤ (room40 : Int) ∧ i.bytes ≤ 256 ∧ z.length = i.size then some (l.toNat, c.toNat, repL z c.toNat) else none
    | _, _ => none
  | _, _, _ => none
def aMakeSlice (P : Program) (t : TypeId) (len cap : Value) (slot : Option Nat) (h : AH) (K : Value → AH → Prop) : Prop :=
  optW (pMakeSlice P t len cap) fun r => newW slot (.row r.2.2 true) h fun id h' => K (.slice (some ⟨id, 0, none⟩) r.1 r.2.1) h'
def bytesL (s : ByteArray) : List Value := s.data.toList.map fun b => .int .u8 b.toNat
def aStrBytes (s : ByteArray) (slot : Option Nat) (h : AH) (K : Value → AH → Prop) : Prop :=
  s.size < room40 ∧ newW slot (.row (bytesL s) false) h fun id h' => K (.slice (some ⟨id, 0, none⟩) s.size (openCap + 1)) h'
def bytesOf : List Value → Option (List UInt8)
  | [] => some []
  | .int .u8 n :: r => match bytesOf r with
    | some l => some (UInt8.ofNat n.toNat :: l)
    | none => none
  | _ => none
def pBytesStr (x : Value) (h : AH) : Option Value :=
  match x with
  | .slice none _ _ => some (.string ⟨#[]⟩)
  | .slice (some ⟨id, off, none⟩) len _ => match h[id]? with
    | some (.row c _) => if 0 < len ∧ off + len ≤ c.length then (bytesOf ((c.drop off).take len)).map fun l => .string ⟨l.toArray⟩ else if len = 0 then some (.string ⟨#[]⟩) else none
    | _ => none
  | _ => none
def spliceL (c : List Value) (off : Nat) (vs : List Value) : List Value := c.take off ++ vs ++ c.drop (off + vs.length)
def stRow (x : Value) (vs : List Value) (h : AH) : Option AH :=
  match x with
  | .pointer (some ⟨id, off, none⟩) => match h[id]? with
    | some (.row c true) => if off + vs.length ≤ c.length then some (h.set id (.row (spliceL c off vs) true)) else none
    | _ => none
  | _ => none
def pStore (n : Nat) (x v : Value) (h : AH) : Option AH :=
  if (cellsL v).length = n ∧ (cellsL v).all (·.oneCell') = true then stRow x (cellsL v) h else none
def stOf (P : Program) (t : TypeId) (x v : Value) (h : AH) : Option AH :=
  match P.info? t with
  | some i => pStore i.size x v h
  | none => none
def srcL (s : Nat) (x : Value) (h : AH) : Option (Nat × List Value) :=
  match x with
  | .slice none 0 _ => some (0, [])
  | .slice (some ⟨id, off, none⟩) n _ => if n = 0 then some (0, []) else match h[id]? with
    | some (.row c _) => if off + n * s ≤ c.length then some (n, (c.drop off).take (n * s)) else none
    | _ => none
  | .string b => if s = 1 then some (b.size, bytesL b) else none
  | _ => none
def firstL (n : Nat) (a : Option Addr) (h : AH) : Option (List Value) :=
  if n = 0 then some [] else
  match a with
  | some ⟨id, off, none⟩ => match h[id]? with
    | some (.row c _) => if off + n ≤ c.length then some ((c.drop off).take n) else none
    | _ => none
  | _ => none
def stAt (a : Option Addr) (d : Nat) (vs : List Value) (h : AH) : Option AH :=
  match vs with
  | [] => some h
  | v :: r => match a with
    | some ⟨id, off, none⟩ => stRow (.pointer (some ⟨id, off + d, none⟩)) (v :: r) h
    | _ => none
def pAppEx (s : Nat) (a : Option Addr) (len cap n : Nat) (news : List Value) (h : AH) : Option (Value × AH) :=
  if len + n ≤ cap then (stAt a (len * s) news h).map fun h' => (.slice a (len + n) cap, h')
  else (firstL (len * s) a h).map fun old => (.slice (some ⟨h.length, 0, none⟩) (len + n) (openCap + s), h ++ [.row (old ++ news) true])
def pAppOp (s : Nat) (a : Option Addr) (len n : Nat) (news : List Value) (h : AH) : Option (Value × AH) :=
  match a with
  | some ⟨id, off, none⟩ => match h[id]? with
    | some (.row c true) =>
      if off + (len + n) * s ≤ c.length then (stAt a (len * s) news h).map fun h' => (.slice a (len + n) (openCap + s), h')
      else if off + len * s ≤ c.length then some (.slice (some ⟨h.length, 0, none⟩) (len + n) (openCap + s), h.set id .dead ++ [.row ((c.drop off).take (len * s) ++ news) true])
      else none
    | _ => none
  | _ => none
def pAppS (s : Nat) (b x : Value) (h : AH) : Option (Value × AH) :=
  match b, srcL s x h with
  | .slice a len cap, some (n, news) =>
    if len + n < room40 then
      if cap < openCap then pAppEx s a len cap n news h
      else if cap = openCap + s then pAppOp s a len n news h
      else none
    else none
  | _, _ => none
def appBoth (s : Nat) (b x : Value) (h : AH) (K : Value → AH → Prop) : Prop :=
  match b, srcL s x h with
  | .slice (some ⟨id, off, none⟩) len cap, some (n, news) =>
    len + n < room40 ∧ cap = openCap + s ∧ match h[id]? with
    | some (.row c true) => off + len * s = c.length ∧ K (.slice (some ⟨id, off, none⟩) (len + n) cap) (h.set id (.row (c ++ news) true)) ∧
        K (.slice (some ⟨h.length, 0, none⟩) (len + n) cap) (h ++ [.row (c.drop off ++ news) true])
    | _ => False
  | _, _ => False
def appS (s : Nat) (b x : Value) (h : AH) (K : Value → AH → Prop) : Prop :=
  optW (pAppS s b x h) (fun r => K r.1 r.2) ∨ appBoth s b x h K
def appZ (s : Nat) (z : List Value) (b : Value) (n : Int) (h : AH) (K : Value → AH → Prop) : Prop :=
  match b with
  | .slice none 0 0 => if n = 0 then K (.slice none 0 0) h else if 0 < n ∧ n < (room40 : Int) then K (.slice (some ⟨h.length, 0, none⟩) n.toNat (openCap + s)) (h ++ [.row (repL z n.toNat) true]) else False
  | _ => False
def aAppend (P : Program) (ts : Array TypeId) (b x : Value) (h : AH) (K : Value → AH → Prop) : Prop :=
  match ts.toList with
  | [t, tx] => match P.underlying t, P.underlying tx, x with
    | some (.slice e), some (.slice _), .slice .. | some (.slice e), some .string, .string _ => match P.info? e, zeroL P e with
      | some i, some z => if 0 < i.size ∧ i.bytes ≤ 64 ∧ z.length = i.size then appS i.size b x h K else False
      | _, _ => False
    | some (.slice e), some (.int _), .int .i64 n => match P.info? e, zeroL P e with
      | some i, some z => if 0 < i.size ∧ i.bytes ≤ 64 ∧ z.length = i.size then appZ i.size z b n h K else False
      | _, _ => False
    | _, _, _ => False
  | _ => False
end Go.AM
end

section
/- Go's model reads and makes memory as the abstract machine does. Conditions: none. -/
namespace Go.AM
open Go
set_option linter.unusedSimpArgs false
variable {P : Program} {β : Bj} {h : AH} {w : World}
def segC (cc : Array Value) (o n : Nat) : List Value := (List.range n).map fun j => cc.getD (o + j) undef
theorem segC_length (cc : Array Value) (o n : Nat) : (segC cc o n).length = n := by simp [segC]
theorem segC_get (cc : Array Value) (o n j : Nat) (hj : j < n) : (segC cc o n)[j]? = some (cc.getD (o + j) undef) := by simp [segC, hj]
theorem cell_at {b o : Nat} {cc : Array Value} {e : TypeId} {fr : Nat × Nat} (hb : w.heap[b]? = some (.cells cc e fr)) (ho : o < cc.size) : w.cell? ⟨b, o, none⟩ = some (cc.getD o undef) := by
  simp [World.cell?, hb, agetD, ho]
theorem segC_cells {b o n : Nat} {cc : Array Value} {e : TypeId} {fr : Nat × Nat} (hb : w.heap[b]? = some (.cells cc e fr)) (ho : o + n ≤ cc.size) : ∀ j v, (segC cc o n)[j]? = some v → w.cell? ((⟨b, o, none⟩ : Addr).add j) = some v := by
  intro j v hj
  have hlt := (List.getElem?_eq_some_iff.1 hj).1
  rw [segC_length] at hlt
  rw [segC_get _ _ _ _ hlt] at hj
  obtain rfl := Option.some.inj hj
  rw [add_none]
  exact cell_at hb (by omega)
theorem seg_R {c : List Value} {cc : Array Value} {sh off n : Nat} (hc : ∀ i, i < c.length → VR β (c.getD i undef) (cc.getD (sh + i) undef)) (ho : off + n ≤ c.length) : CellsR β ((c.drop off).take n) (segC cc (sh + off) n).toArray := by
  refine ⟨by simp [segC_length]; omega, fun i hi => ?_⟩
  have hi' : i < n := by simp at hi; omega
  have h1 : ((c.drop off).take n).getD i undef = c.getD (off + i) undef := by
    rw [lgetD, lgetD, List.getElem?_take_of_lt hi', List.getElem?_drop]
  have h2 : (segC cc (sh + off) n).toArray.getD i undef = cc.getD (sh + (off + i)) undef := by
    rw [agetD, List.getElem?_toArray, segC_get _ _ _ _ hi', Nat.add_assoc]
    rfl
  rw [h1, h2]
  exact hc _ (by omega)
theorem run_loadSeg {b o n : Nat} {cc : Array Value} {e : TypeId} {fr : Nat × Nat} (hb : w.heap[b]? = some (.cells cc e fr)) (ho : o + n ≤ cc.size) : (loadCells ⟨b, o, none⟩ n).run P w = .ok (segC cc o n).toArray w := by
  have := run_loadCells_list (P := P) w ⟨b, o, none⟩ (segC cc o n) (segC_cells hb ho)
  rwa [segC_length] at this
theorem sim_rdRow {ag : Bool} {n : Nat} {t : TypeId} {i : TypeInfo} {x x' v : Value} (hi : P.info? t = some i) (hg : isAggT P t = some ag) (hn : n = i.size) (hr : rdRow ag n x h = some v) (R : Rel β h w) (hx : VR β x x') :
    ∃ v', (Instr.loadAt t x').run P w = .ok v' w ∧ VR β v v' := by
  subst hn
  unfold rdRow at hr
  split at hr
  · rename_i id off
    obtain ⟨p, hp, rfl⟩ := hx.ptr_inv
    split at hr
    · rename_i c wr hrow
      split at hr
      · rename_i hle
        obtain ⟨cc, e, fr, hb, h1, h2, h3, h4, h5⟩ := R.obj hp hrow
        cases ag with
        | true =>
          simp only [partV, Option.some.injEq] at hr
          subst hr
          refine ⟨.agg (segC cc (p.sh + off) i.size).toArray, ?_, agg_of_cells (seg_R h3 hle) fun v hv => h5 v (List.mem_of_mem_drop (List.mem_of_mem_take hv))⟩
          simp [Instr.loadAt, Instr.sureAddr, loadVar, run_agg w hg, run_size w hi, run_loadSeg (P := P) (w := w) hb (show p.sh + off + i.size ≤ cc.size by omega)]
        | false =>
          simp only [partV] at hr
          have hlt := (List.getElem?_eq_some_iff.1 hr).1
          have hv : c.getD off undef = v := by rw [lgetD, hr]; rfl
          have := h3 off hlt
          rw [hv] at this
          refine ⟨_, ?_, this⟩
          have hc := cell_at (w := w) hb (show p.sh + off < cc.size by omega)
          simp [Instr.loadAt, Instr.sureAddr, loadVar, run_agg w hg, hc]
      · cases hr
    · cases hr
  · cases hr
theorem sim_load {t : TypeId} {x x' v : Value} (hr : pLoad P t x h = some v) (R : Rel β h w) (hx : VR β x x') : ∃ v', (Instr.loadAt t x').run P w = .ok v' w ∧ VR β v v' := by
  unfold pLoad at hr
  split at hr
  · rename_i i hi hg
    exact sim_rdRow hi hg rfl hr R hx
  · rename_i i hi hg
    split at hr
    · rename_i h1
      exact sim_rdRow hi hg h1.symm hr R hx
    · cases hr
  · cases hr
def SlotOK (D : Nat → Prop) (β : Bj) (h : AH) (slot : Option Nat) : Prop := (∀ id, D id → id < h.length) ∧ ∀ r, slot = some r → h[r]? = some .dead ∧ β r = none ∧ ¬ D r
theorem sim_new {D : Nat → Prop} {slot : Option Nat} {o : AObj} {K : Nat → AH → Prop} {w' : World} {O : Obj} {p : Pl} (hK : newW slot o h K) (R : Rel β h w) (hs : SlotOK D β h slot)
    (hw : w'.heap = w.heap.push O) (ht : w'.tape = w.tape) (hos : w'.os = w.os) (hout : w'.output = w.output) (hp : p.b = w.heap.size) (ho : ∀ β', BLe β β' → ObjAt β' o p w') :
    ∃ id h' β', K id h' ∧ β' id = some p ∧ Rel β' h' w' ∧ Ext D β h w β' h' w' := by
  have hother : ∀ b, b ≠ p.b → b < w.heap.size → w'.heap[b]? = w.heap[b]? := fun b _ hb => by rw [hw, Array.getElem?_push, if_neg (by omega)]
  have hfree : ∀ j q, β j = some q → live h[j]? = true → q.b ≠ p.b := fun j q hj hl => by have := R.blt hj hl; omega
  have hsz : w.heap.size ≤ w'.heap.size := by rw [hw]; simp
  have key : ∀ (id : Nat) (h' : AH), K id h' → β id = none → h'[id]? = some o → (∀ j, j ≠ id → j < h.length → h'[j]? = h[j]?) → h.length ≤ h'.length → ¬ D id → (∀ j, D j → h'[j]? = h[j]?) →
      ∃ id h' β', K id h' ∧ β' id = some p ∧ Rel β' h' w' ∧ Ext D β h w β' h' w' := by
    intro id h' hk hn hid hoth hlen hnid hsame
    refine ⟨id, h', upd β id p, hk, upd_same _ _ _, R.add hn hid hoth hlen hfree hother (ho _ (upd_le hn)), ?_⟩
    refine ⟨upd_le hn, fun j hj hd => ?_, hlen, fun j hj _ => hsame j hj, hsz, ht, hos, hout, fun b hb _ => hother b (by omega) hb, ?_⟩
    · rwa [upd_other (fun (e : j = id) => hnid (by rw [← e]; exact hj))] at hd
    · rintro b ⟨j, q, hj, rfl, hl, hro⟩
      by_cases e : j = id
      · subst e
        rw [upd_same] at hj
        obtain rfl := Option.some.inj hj
        right; omega
      · rw [upd_other e] at hj
        rw [hoth j e (R.lt hj)] at hl hro
        exact .inl ⟨j, q, hj, rfl, hl, hro⟩
  cases slot with
  | none =>
    have hnone : β h.length = none := by
      cases e : β h.length with
      | none => rfl
      | some q => have := R.lt e; omega
    exact key h.length (h ++ [o]) hK hnone (by simp) (fun j hj hl => by rw [List.getElem?_append_left hl]) (by simp) (fun hd => by have := hs.1 _ hd; omega) (fun j hj => by rw [List.getElem?_append_left (hs.1 j hj)])
  | some r =>
    obtain ⟨h1, h2, h3⟩ := hs.2 r rfl
    have hlt := (List.getElem?_eq_some_iff.1 h1).1
    exact key r (h.set r o) hK h2 (by simp [hlt]) (fun j hj _ => by simp [Ne.symm hj]) (by simp) h3 (fun j hj => by simp [show r ≠ j from fun e => h3 (by rw [e]; exact hj)])
theorem sim_newRow {D : Nat → Prop} {slot : Option Nat} {c : List Value} {cc : Array Value} {e : TypeId} {K : Nat → AH → Prop} {w' : World} (es : Nat) (hK : newW slot (.row c true) h K) (R : Rel β h w) (hs : SlotOK D β h slot)
    (hw : w'.heap = w.heap.push (.cells cc e (0, 0))) (ht : w'.tape = w.tape) (hos : w'.os = w.os) (hout : w'.output = w.output) (hl : c.length ≤ cc.size) (hc : ∀ i, i < c.length → VR β (c.getD i undef) (cc.getD i undef)) (h1 : ∀ v ∈ c, v.oneCell' = true) :
    ∃ id h' β', K id h' ∧ β' id = some ⟨w.heap.size, 0, cc.size, es⟩ ∧ Rel β' h' w' ∧ Ext D β h w β' h' w' := by
  refine sim_new hK R hs hw ht hos hout rfl fun β' hb => ⟨cc, e, (0, 0), ?_, by simpa using hl, Nat.le_refl _, fun i hi => ?_, fun _ => rfl, h1⟩
  · rw [hw]; simp
  · simp only [Nat.zero_add]
    exact (hc i hi).mono hb
def SimV (D : Nat → Prop) (β : Bj) (h : AH) (w : World) (K : Value → AH → Prop) (v' : Value) (w' : World) : Prop :=
  ∃ v h' β', K v h' ∧ VR β' v v' ∧ Rel β' h' w' ∧ Ext D β h w β' h' w'
theorem sim_alloc {D : Nat → Prop} {t : TypeId} {slot : Option Nat} {K : Value → AH → Prop} (hK : aAlloc P t slot h K) (R : Rel β h w) (hs : SlotOK D β h slot) : ∃ v' w', (Instr.alloc t true (.tuple #[])).run P w = .ok v' w' ∧ SimV D β h w K v' w' := by
  obtain ⟨c, hz, hK⟩ := optW_elim hK
  obtain ⟨z, hrun, _, hzc, hcr, h1, _⟩ := zeroL_spec (β := β) w hz
  refine ⟨.pointer (some ⟨w.heap.size, 0, none⟩), { w with heap := w.heap.push (.cells z.cells t) }, by simp [Instr.alloc, hrun, newVar, newRow], ?_⟩
  obtain ⟨id, h', β', hk, hid, R', E⟩ := sim_newRow (cc := z.cells) (e := t) (w' := { w with heap := w.heap.push (.cells z.cells t) }) 0 hK R hs rfl rfl rfl rfl (by rw [hcr.1]; exact Nat.le_refl _) hcr.2 h1
  exact ⟨_, h', β', hk, .ptr hid, R', E⟩
theorem sim_box {D : Nat → Prop} {t : TypeId} {slot : Option Nat} {v v' : Value} {K : Value → AH → Prop} (hK : aBox v slot h K) (hv : VR β v v') (R : Rel β h w) (hs : SlotOK D β h slot) : ∃ r w', (Instr.box t v').run P w = .ok r w' ∧ SimV D β h w K r w' := by
  obtain ⟨h1, hK⟩ := hK
  have hcr := hv.cells
  refine ⟨.pointer (some ⟨w.heap.size, 0, none⟩), { w with heap := w.heap.push (.cells v'.cells t) }, by simp [Instr.box, newVar, newRow], ?_⟩
  obtain ⟨id, h', β', hk, hid, R', E⟩ := sim_newRow (cc := v'.cells) (e := t) (w' := { w with heap := w.heap.push (.cells v'.cells t) }) 0 hK R hs rfl rfl rfl rfl (by rw [hcr.1]; exact Nat.le_refl _) hcr.2 (List.all_eq_true.1 h1)
  exact ⟨_, h', β', hk, .ptr hid, R', E⟩
theorem repL_length (z : List Value) : ∀ n, (repL z n).length = n * z.length
  | 0 => by simp [repL]
  | n + 1 => by simp [repL, repL_length z n, Nat.succ_mul, Nat.add_comm]
theorem repL_get (z : List Value) : ∀ n i, i < n * z.length → (repL z n)[i]? = z[i % z.length]?
  | 0, i, h => by simp at h
  | n + 1, i, h => by
    rw [repL]
    by_cases hi : i < z.length
    · rw [List.getElem?_append_left hi, Nat.mod_eq_of_lt hi]
    · rw [List.getElem?_append_right (by omega), repL_get z n (i - z.length) (by rw [Nat.succ_mul] at h; omega)]
      rw [Nat.mod_eq_sub_mod (show i ≥ z.length by omega)]
theorem mem_repL {z : List Value} {v : Value} : ∀ {n : Nat}, v ∈ repL z n → v ∈ z
  | 0, h => by simp [repL] at h
  | n + 1, h => by
    rw [repL, List.mem_append] at h
    exact h.elim id mem_repL
theorem rep_R {z : List Value} {za : Array Value} (hv : CellsR β z za) (n m : Nat) (hm : m = n * z.length) : CellsR β (repL z n) ((Array.range m).map (za[· % za.size]!)) := by
  subst hm
  refine ⟨by simp [repL_length], fun i hi => ?_⟩
  rw [repL_length] at hi
  have hzl : 0 < z.length := by
    rcases Nat.eq_zero_or_pos z.length with e | e
    · rw [e] at hi; simp at hi
    · exact e
  have hmod : i % z.length < z.length := Nat.mod_lt _ hzl
  have hsz : za.size = z.length := hv.1
  have := hv.2 (i % z.length) hmod
  rw [lgetD, repL_get z n i hi, agetD]
  rw [lgetD, agetD] at this
  have e2 : ((Array.range (n * z.length)).map (za[· % za.size]!))[i]? = za[i % z.length]? := by
    have : i % z.length < za.size := by omega
    simp [hi, hsz]
    rw [getElem!_pos za _ this, Array.getElem?_eq_getElem this]
  rw [e2]
  exact this
theorem sim_buildSlice {D : Nat → Prop} {t : TypeId} {len : Nat} {ps : List (Nat × Value)} {qs : Array (Nat × Value)} {slot : Option Nat} {K : Value → AH → Prop} (hK : aBuildSlice P t len ps slot h K) (hp : PartsR β ps qs.toList) (R : Rel β h w) (hs : SlotOK D β h slot) :
    ∃ r w', (Instr.buildSlice t len qs).run P w = .ok r w' ∧ SimV D β h w K r w' := by
  obtain ⟨c, hb, hK⟩ := optW_elim hK
  unfold pBuildSlice at hb
  split at hb
  · rename_i e ht
    split at hb
    · rename_i i z hi hz
      split at hb
      · rename_i hc
        obtain ⟨hzl, hle, hle2⟩ := hc
        obtain ⟨zv, hrun, _, hzc, hcr, h1, _⟩ := zeroL_spec (β := β) w hz
        have hrep : CellsR β (repL z len) ((Array.range (len * i.size)).map ((if len * i.size = 0 then #[] else zv.cells)[· % (if len * i.size = 0 then #[] else zv.cells).size]!)) := by
          by_cases h0 : len * i.size = 0
          · simp only [h0, if_true]
            refine ⟨by simp [repL_length, hzl, h0], fun j hj => ?_⟩
            rw [repL_length, hzl, h0] at hj
            omega
          · simp only [h0, if_false]
            exact rep_R hcr len (len * i.size) (by rw [hzl])
        obtain ⟨ca, hf, hca, hca1⟩ := sim_fill _ _ _ _ _ _ hp hb hrep (fun v hv => h1 v (mem_repL hv))
        refine ⟨.slice (some ⟨w.heap.size, 0, none⟩) len len, { w with heap := w.heap.push (.cells ca e) }, ?_, ?_⟩
        · have hng : ¬ (16777216 < len * i.size) := by omega
          simp only [Instr.buildSlice, Sem.run_bind, run_underlying ht, Result.andThen_ok, run_size w hi]
          by_cases h0 : len * i.size = 0
          · simp only [h0, if_true] at hf
            simp at hf
            simp [h0, hf, newRow]
          · simp only [h0, if_false] at hf
            simp [h0, hng, hrun, hf, newRow]
        · obtain ⟨id, h', β', hk, hid, R', E⟩ := sim_newRow (cc := ca) (e := e) (w' := { w with heap := w.heap.push (.cells ca e) }) 0 hK R hs rfl rfl rfl rfl (by rw [hca.1]; exact Nat.le_refl _) hca.2 hca1
          have hlc : len < openCap := Nat.lt_of_le_of_lt hle2 (by decide)
          exact ⟨_, h', β', hk, .slx hid (Nat.le_refl _) hlc (.inr (by simp)), R', E⟩
      · cases hb
    · cases hb
  · cases hb
theorem sim_makeMap {D : Nat → Prop} {t : TypeId} {slot : Option Nat} {K : Value → AH → Prop} (hK : aMakeMap slot h K) (R : Rel β h w) (hs : SlotOK D β h slot) : ∃ r w', (Instr.makeMap t none).run P w = .ok r w' ∧ SimV D β h w K r w' := by
  refine ⟨.map (some w.heap.size), { w with heap := w.heap.push (.map #[] 0) }, by simp [Instr.makeMap], ?_⟩
  obtain ⟨id, h', β', hk, hid, R', E⟩ := sim_new (O := .map #[] 0) (p := ⟨w.heap.size, 0, 0, 0⟩) (w' := { w with heap := w.heap.push (.map #[] 0) }) hK R hs rfl rfl rfl rfl rfl fun β' hb => ⟨#[], by simp, trivial⟩
  exact ⟨_, h', β', hk, .map hid, R', E⟩
end Go.AM
end

section
/- Go's model writes memory and appends as the abstract machine does. Conditions: none. -/
namespace Go.AM
open Go
set_option linter.unusedSimpArgs false
variable {P : Program} {β : Bj} {h : AH} {w : World}
theorem setCells_heap : ∀ (vs : List Value) (b o : Nat) (w : World) (cc : Array Value) (e : TypeId) (fr : Nat × Nat), w.heap[b]? = some (.cells cc e fr) → o + vs.length ≤ cc.size →
    ∃ cc', (w.setCells b o vs).heap[b]? = some (.cells cc' e fr) ∧ cc'.size = cc.size ∧ (∀ i, cc'.getD i undef = if o ≤ i ∧ i < o + vs.length then vs.getD (i - o) undef else cc.getD i undef) ∧
      (∀ b', b' ≠ b → (w.setCells b o vs).heap[b']? = w.heap[b']?) ∧ (w.setCells b o vs).heap.size = w.heap.size ∧ (w.setCells b o vs).tape = w.tape ∧ (w.setCells b o vs).os = w.os ∧ (w.setCells b o vs).output = w.output
  | [], b, o, w, cc, e, fr, hb, hl => ⟨cc, hb, rfl, fun i => by simp; intro _ _; omega, fun _ _ => rfl, rfl, rfl, rfl, rfl⟩
  | v :: r, b, o, w, cc, e, fr, hb, hl => by
    simp only [List.length_cons] at hl
    have h1 : (w.setCell ⟨b, o, none⟩ v).heap[b]? = some (.cells (cc.setIfInBounds o v) e fr) := by
      simp [World.setCell, Array.getElem?_modify, hb]
    obtain ⟨cc', i1, i2, i3, i4, i5, i6, i7, i8⟩ := setCells_heap r b (o + 1) (w.setCell ⟨b, o, none⟩ v) (cc.setIfInBounds o v) e fr h1 (by simp; omega)
    refine ⟨cc', i1, by rw [i2]; simp, fun i => ?_, fun b' hb' => ?_, ?_, i6, i7, i8⟩
    · rw [i3]
      simp only [List.length_cons]
      by_cases e1 : i = o
      · subst e1
        rw [if_neg (by omega), if_pos (by omega)]
        have : i < cc.size := by omega
        simp [agetD, this]
      · by_cases e2 : o + 1 ≤ i ∧ i < o + 1 + r.length
        · rw [if_pos e2, if_pos (by omega), show i - o = (i - (o + 1)) + 1 by omega]
          simp
        · rw [if_neg e2, if_neg (by omega), agetD, agetD, Array.getElem?_setIfInBounds_ne (by omega)]
    · show ((w.setCell ⟨b, o, none⟩ v).setCells b (o + 1) r).heap[b']? = _
      rw [i4 b' hb']
      simp [World.setCell, Array.getElem?_modify, Ne.symm hb']
    · show ((w.setCell ⟨b, o, none⟩ v).setCells b (o + 1) r).heap.size = _
      rw [i5]
      simp [World.setCell]
theorem splice_length (c vs : List Value) (off : Nat) (hl : off + vs.length ≤ c.length) : (spliceL c off vs).length = c.length := by
  simp [spliceL]; omega
theorem Ext.update {D : Nat → Prop} {β : Bj} {h : AH} {w w' : World} {id : Nat} {p : Pl} {o' : AObj} (hp : β id = some p) (hl : live h[id]? = true) (hro : isRo h[id]? = false)
    (hw : ∀ b, b ≠ p.b → w'.heap[b]? = w.heap[b]?) (hsz : w'.heap.size = w.heap.size) (ht : w'.tape = w.tape) (hos : w'.os = w.os) (hout : w'.output = w.output) : Ext D β h w β (h.set id o') w' where
  ble := .refl β
  dom _ _ hd := hd
  len := by simp
  afr j _ hj := by
    by_cases e : id = j
    · subst e; rw [hp] at hj; cases hj
    · rw [getElem?_set_other e]
  size := by rw [hsz]; exact Nat.le_refl _
  tape := ht
  os := hos
  out := hout
  cfr b _ hnb := hw b fun e => hnb ⟨id, p, hp, e.symm, hl, hro⟩
  wb b hb := by
    obtain ⟨j, q, hj, rfl, l1, l2⟩ := hb
    by_cases e : id = j
    · subst e
      rw [hp] at hj
      obtain rfl := Option.some.inj hj
      exact .inl ⟨id, p, hp, rfl, hl, hro⟩
    · rw [getElem?_set_other e] at l1 l2
      exact .inl ⟨j, q, hj, rfl, l1, l2⟩
theorem run_storeSeg {b o : Nat} {cc : Array Value} {e : TypeId} {fr : Nat × Nat} (vs : List Value) (hb : w.heap[b]? = some (.cells cc e fr)) (ho : o + vs.length ≤ cc.size) (hf : ∀ i, o ≤ i → i < o + vs.length → ¬ (fr.1 ≤ i ∧ i < fr.2))
    (h1 : ∀ v ∈ vs, v.oneCell' = true) : (storeCells ⟨b, o, none⟩ vs).run P w = .ok () (w.setCells b o vs) := by
  have := run_storeCells_cells (P := P) b o vs 0 w (fun j hj => by rw [Nat.add_zero, cell_at hb (by omega)]; rfl) (fun j hj => by
    simp only [World.frozen?, hb, Nat.add_zero]
    have := hf (o + j) (by omega) (by omega)
    simpa using this) h1
  simpa using this
theorem store_core {D : Nat → Prop} {id off : Nat} {p : Pl} {c : List Value} {vs : List Value} {us : Array Value} (R : Rel β h w) (hp : β id = some p) (hrow : h[id]? = some (.row c true)) (hle : off + vs.length ≤ c.length)
    (hu : CellsR β vs us) (h1 : ∀ v ∈ vs, v.oneCell' = true) (hu1 : ∀ v ∈ us, v.oneCell' = true) :
    ∃ w', (storeCells ⟨p.b, p.sh + off, none⟩ us.toList).run P w = .ok () w' ∧ Rel β (h.set id (.row (spliceL c off vs) true)) w' ∧ Ext D β h w β (h.set id (.row (spliceL c off vs) true)) w' := by
  obtain ⟨cc, e, fr, hb, hr1, hr2, hr3, hr4, hr5⟩ := R.obj hp hrow
  have hul : us.toList.length = vs.length := by simp [hu.1]
  have hfr : fr.1 = fr.2 ∨ p.room ≤ fr.1 := .inl (by rw [hr4 rfl])
  obtain ⟨cc', i1, i2, i3, i4, i5, i6, i7, i8⟩ := setCells_heap us.toList p.b (p.sh + off) w cc e fr hb (by omega)
  refine ⟨w.setCells p.b (p.sh + off) us.toList, run_storeSeg us.toList hb (by omega) (fun i h2 h3 => ?_) (fun v hv => hu1 v (by simpa using hv)), ?_, ?_⟩
  · rcases hfr with hfr | hfr
    · omega
    · omega
  · refine R.update hp (by rw [hrow]; rfl) (by rw [hrow]; rfl) (fun b hbne _ => i4 b hbne) ⟨cc', e, fr, i1, by rw [splice_length _ _ _ hle]; exact hr1, by rw [i2]; exact hr2, fun i hi => ?_, fun _ => hr4 rfl, ?_⟩
    · rw [splice_length _ _ _ hle] at hi
      rw [i3, spliceL, splice_getD _ _ _ _ hle, hul]
      by_cases hin : off ≤ i ∧ i < off + vs.length
      · have hn2 : p.sh + off ≤ p.sh + i ∧ p.sh + i < p.sh + off + vs.length := by omega
        rw [if_pos hin, if_pos hn2, toList_getD us, show p.sh + i - (p.sh + off) = i - off by omega]
        exact hu.2 (i - off) (by omega)
      · have hn2 : ¬ (p.sh + off ≤ p.sh + i ∧ p.sh + i < p.sh + off + vs.length) := by omega
        rw [if_neg hin, if_neg hn2]
        exact hr3 i hi
    · intro v hv
      simp only [spliceL, List.mem_append] at hv
      rcases hv with (hv | hv) | hv
      · exact hr5 v (List.mem_of_mem_take hv)
      · exact h1 v hv
      · exact hr5 v (List.mem_of_mem_drop hv)
  · exact Ext.update hp (by rw [hrow]; rfl) (by rw [hrow]; rfl) i4 i5 i6 i7 i8
theorem CellsR.one {l : List Value} {a : Array Value} (hc : CellsR β l a) (h1 : ∀ v ∈ l, v.oneCell' = true) : ∀ v ∈ a, v.oneCell' = true := by
  intro v hv
  obtain ⟨i, hi, rfl⟩ := Array.mem_iff_getElem.1 hv
  have hil : i < l.length := by rw [← hc.1]; exact hi
  have := hc.2 i hil
  rw [agetD, Array.getElem?_eq_getElem hi, lgetD, List.getElem?_eq_getElem hil] at this
  have h2 := this.one
  simp only [Option.getD_some] at h2
  rw [h2]
  exact h1 _ (List.getElem_mem hil)
theorem sim_stRow {D : Nat → Prop} {x x' : Value} {vs : List Value} {us : Array Value} {h' : AH} (hst : stRow x vs h = some h') (R : Rel β h w) (hx : VR β x x') (hu : CellsR β vs us) (h1 : ∀ v ∈ vs, v.oneCell' = true) :
    ∃ a w', x' = .pointer (some a) ∧ (storeCells a us.toList).run P w = .ok () w' ∧ Rel β h' w' ∧ Ext D β h w β h' w' := by
  unfold stRow at hst
  split at hst
  · rename_i id off
    obtain ⟨p, hp, rfl⟩ := hx.ptr_inv
    split at hst
    · rename_i c hrow
      split at hst
      · rename_i hle
        obtain rfl := Option.some.inj hst
        obtain ⟨w', h2, h3, h4⟩ := store_core (P := P) (D := D) R hp hrow hle hu h1 (hu.one h1)
        exact ⟨_, w', rfl, h2, h3, h4⟩
      · cases hst
    · cases hst
  · cases hst
theorem sim_store {D : Nat → Prop} {t : TypeId} {x v x' v' : Value} {h' : AH} (hst : stOf P t x v h = some h') (R : Rel β h w) (hx : VR β x x') (hv : VR β v v') : ∃ w', (Instr.storeAt t x' v').run P w = .ok () w' ∧ Rel β h' w' ∧ Ext D β h w β h' w' := by
  unfold stOf at hst
  split at hst
  · rename_i i hi
    unfold pStore at hst
    split at hst
    · rename_i hc
      have hcr := hv.cells
      obtain ⟨a, w', rfl, h2, h3, h4⟩ := sim_stRow (P := P) (D := D) hst R hx hcr (List.all_eq_true.1 hc.2)
      refine ⟨w', ?_, h3, h4⟩
      have hsz : v'.cells.size = i.size := by rw [hcr.1, hc.1]
      simp [Instr.storeAt, Instr.sureAddr, storeVar, run_size w hi, hsz, h2]
    · cases hst
  · cases hst
end Go.AM
end

section
/- Go's model appends as the abstract machine does. Conditions: none. -/
namespace Go.AM
open Go
set_option linter.unusedSimpArgs false
variable {P : Program} {β : Bj} {h : AH} {w : World}
theorem mem_drop_take {c : List Value} {a b : Nat} {v : Value} (h : v ∈ (c.drop a).take b) : v ∈ c := List.mem_of_mem_drop (List.mem_of_mem_take h)
theorem bytesL_one (s : ByteArray) : ∀ v ∈ bytesL s, v.oneCell' = true := by
  intro v hv
  obtain ⟨b, _, rfl⟩ := List.mem_map.1 hv
  rfl
theorem pure_R {l : List Value} (hp : ∀ v ∈ l, pureS v = true) : CellsR β l l.toArray := by
  refine ⟨by simp, fun i hi => ?_⟩
  have : l.toArray.getD i undef = l.getD i undef := by rw [← toList_getD]
  rw [this, lgetD, List.getElem?_eq_getElem hi]
  exact .ofPureS (hp _ (List.getElem_mem hi))
theorem sim_src {s n : Nat} {tx : TypeId} {x x' : Value} {news : List Value} (hkind : ∀ b, x = .string b → P.underlying tx = some .string)
    (hkind2 : ∀ a l c, x = .slice a l c → ∃ e', P.underlying tx = some (.slice e')) (hs : srcL s x h = some (n, news)) (R : Rel β h w) (hx : VR β x x') :
    ∃ us : List Value, Src P s tx x' n us w ∧ CellsR β news us.toArray ∧ (∀ v ∈ news, v.oneCell' = true) := by
  unfold srcL at hs
  split at hs
  · rename_i c
    simp only [Option.some.injEq, Prod.mk.injEq] at hs
    obtain ⟨rfl, rfl⟩ := hs
    obtain ⟨e', he⟩ := hkind2 _ _ _ rfl
    obtain ⟨a', cap', rfl, hb, _⟩ := hx.slice_base
    rcases hb with ⟨_, rfl, _, _⟩ | ⟨_, _, _, _, hn, _⟩
    · exact ⟨[], Src.ofNil w he cap', ⟨rfl, fun i hi => by simp at hi⟩, fun v hv => by cases hv⟩
    · cases hn
  · rename_i id off n' c
    obtain ⟨e', he⟩ := hkind2 _ _ _ rfl
    obtain ⟨p, a', cap', hp, rfl, ha, hlc, _⟩ := hx.slice_inv
    split at hs
    · rename_i h0
      simp only [Option.some.injEq, Prod.mk.injEq] at hs
      obtain ⟨rfl, rfl⟩ := hs
      subst h0
      exact ⟨[], Src.ofSlice w he a' 0 cap' [] (by simp) (fun j u hj => by simp at hj) (fun u hu => by cases hu), ⟨rfl, fun i hi => by simp at hi⟩, fun v hv => by cases hv⟩
    · rename_i h0
      split at hs
      · rename_i cl wr hrow
        split at hs
        · rename_i hle
          simp only [Option.some.injEq, Prod.mk.injEq] at hs
          obtain ⟨rfl, rfl⟩ := hs
          obtain ⟨cc, e, fr, hb, h1, h2, h3, h4, h5⟩ := R.obj hp hrow
          have ha' : a' = ⟨p.b, p.sh + off, none⟩ := ha.resolve_left (by omega)
          subst ha'
          have hcr := seg_R (β := β) h3 hle
          refine ⟨segC cc (p.sh + off) (n' * s), Src.ofSlice w he _ n' cap' _ (segC_length _ _ _) (segC_cells hb (by omega)) ?_, hcr, fun v hv => h5 v (mem_drop_take hv)⟩
          exact fun u hu => hcr.one (fun v hv => h5 v (mem_drop_take hv)) u (by simpa using hu)
        · cases hs
      · cases hs
  · rename_i b
    split at hs
    · rename_i h1
      subst h1
      simp only [Option.some.injEq, Prod.mk.injEq] at hs
      obtain ⟨rfl, rfl⟩ := hs
      cases hx
      refine ⟨byteCells b, Src.ofString w (hkind b rfl) b, ?_, bytesL_one b⟩
      show CellsR β (bytesL b) (bytesL b).toArray
      exact pure_R fun v hv => by obtain ⟨q, _, rfl⟩ := List.mem_map.1 hv; rfl
    · cases hs
  · cases hs
theorem SimV.intro {D : Nat → Prop} {K : Value → AH → Prop} {v v' : Value} {h' : AH} {β' : Bj} {w' : World} (hk : K v h') (hv : VR β' v v') (R : Rel β' h' w') (E : Ext D β h w β' h' w') : SimV D β h w K v' w' := ⟨v, h', β', hk, hv, R, E⟩
theorem sim_stAt {D : Nat → Prop} {d : Nat} {a a' : Option Addr} {cap' len : Nat} {vs us : List Value} {h' : AH} (hst : stAt a d vs h = some h') (R : Rel β h w) (hb : BaseR β cap' len a a') (hu : CellsR β vs us.toArray) (h1 : ∀ v ∈ vs, v.oneCell' = true) (hcap : vs ≠ [] → cap' ≠ 0) :
    ∃ w', (match a' with | some x => storeCells (x.add d) us | none => pure ()).run P w = .ok () w' ∧ Rel β h' w' ∧ Ext D β h w β h' w' := by
  unfold stAt at hst
  split at hst
  · obtain rfl := Option.some.inj hst
    have : us = [] := by have := hu.1; simp at this; exact this
    subst this
    refine ⟨w, ?_, R, Ext.refl _ _ _ _⟩
    cases a' <;> simp [storeCells]
  · rename_i v r
    split at hst
    · rename_i id off
      rcases hb with ⟨hn, _⟩ | ⟨id', off', p, x, hsome, hp, rfl, hx⟩
      · cases hn
      · cases hsome
        obtain rfl := hx.resolve_left (hcap (by simp))
        obtain ⟨q, w', hq, h2, h3, h4⟩ := sim_stRow (P := P) (D := D) hst R (.ptr hp) hu h1
        refine ⟨w', ?_, h3, h4⟩
        cases hq
        simp only [add_none]
        rw [show p.sh + off + d = p.sh + (off + d) by omega]
        exact h2
    · cases hst
theorem zeroCells_size (z : Array Value) (n : Nat) : (Builtin.zeroCells z n).size = n * z.size := by simp [Builtin.zeroCells]
theorem grownCap_bounds (w : World) (need old : Nat) (e : TypeId) (h : need < 9223372036854775808) : need ≤ grownCap w need old e ∧ grownCap w need old e < 9223372036854775808 := by
  unfold grownCap Question.cut
  have : (2 : Nat) ^ 63 = 9223372036854775808 := by decide
  have hm := Nat.mod_lt (w.tape w.drawn (.appendCap need old e)) (show 0 < 2 ^ 63 - need by omega)
  simp only []
  omega
theorem sim_grow {D : Nat → Prop} {e : TypeId} {s : Nat} {z : Array Value} {K : Value → AH → Prop} {old news olds us : List Value} {need cap' : Nat} (hz : z.size = s) (R : Rel β h w)
    (ho : CellsR β old olds.toArray) (hu : CellsR β news us.toArray) (ho1 : ∀ v ∈ old, v.oneCell' = true) (hu1 : ∀ v ∈ news, v.oneCell' = true) (hlen : old.length + news.length = need * s) (hneed : need < room40) {slot : Option Nat} (hsl : SlotOK D β h slot)
    (hK : newW slot (.row (old ++ news) true) h fun id h' => K (.slice (some ⟨id, 0, none⟩) need (openCap + s)) h') :
    SimV D β h w K (.slice (some ⟨w.heap.size, 0, none⟩) need (grownCap w need cap' e))
      (w.drew.alloc (.cells ((olds ++ us).toArray ++ Builtin.zeroCells z (grownCap w need cap' e - need)) e)) := by
  have hgb := grownCap_bounds w need cap' e (Nat.lt_trans hneed (by decide))
  have hol : olds.length = old.length := by have := ho.1; simpa using this
  have hul : us.length = news.length := by have := hu.1; simpa using this
  have hsize : ((olds ++ us).toArray ++ Builtin.zeroCells z (grownCap w need cap' e - need)).size = grownCap w need cap' e * s := by
    rw [Array.size_append, zeroCells_size, hz]
    simp only [List.size_toArray, List.length_append, hol, hul, hlen]
    rw [← Nat.add_mul]
    congr 1
    omega
  obtain ⟨id, h', β', hk, hid, R', E⟩ := sim_newRow (cc := (olds ++ us).toArray ++ Builtin.zeroCells z (grownCap w need cap' e - need)) (e := e)
    (w' := w.drew.alloc (.cells ((olds ++ us).toArray ++ Builtin.zeroCells z (grownCap w need cap' e - need)) e)) s hK R hsl rfl rfl rfl rfl
    (by rw [hsize, List.length_append, hlen]; exact Nat.mul_le_mul_right _ hgb.1)
    (fun i hi => by
      rw [List.length_append] at hi
      have e1 : ((olds ++ us).toArray ++ Builtin.zeroCells z (grownCap w need cap' e - need)).getD i undef = (olds ++ us).getD i undef := by
        rw [agetD, lgetD, Array.getElem?_append_left (by simp [hol, hul]; omega)]
        simp
      rw [e1, lgetD, lgetD]
      by_cases hio : i < old.length
      · rw [List.getElem?_append_left hio, List.getElem?_append_left (by omega)]
        have := ho.2 i hio
        rw [lgetD, agetD] at this
        simpa using this
      · rw [List.getElem?_append_right (by omega), List.getElem?_append_right (by omega), hol]
        have := hu.2 (i - old.length) (by omega)
        rw [lgetD, agetD] at this
        simpa using this)
    (fun v hv => (List.mem_append.1 hv).elim (ho1 v) (hu1 v))
  refine ⟨_, h', β', hk, .slo (p := ⟨w.heap.size, 0, _, s⟩) hid hgb.1 (Nat.lt_trans hgb.2 (by decide)) (by simp only [hsize]; omega) (.inr (by simp)), R', E⟩
theorem sim_first {s len cap' : Nat} {a a' : Option Addr} {old : List Value} (hs : 0 < s) (hf : firstL (len * s) a h = some old) (R : Rel β h w) (hb : BaseR β cap' len a a') (hlc : len ≤ cap') :
    ∃ olds : List Value, (∀ w1 : World, w1.heap = w.heap → (Builtin.firstCells s len (.slice a' len cap')).run P w1 = .ok olds.toArray w1) ∧ CellsR β old olds.toArray ∧ (∀ v ∈ old, v.oneCell' = true) ∧ old.length = len * s := by
  unfold firstL at hf
  split at hf
  · rename_i h0
    obtain rfl := Option.some.inj hf
    have hl0 : len = 0 := by
      rcases Nat.eq_zero_or_pos len with e | e
      · exact e
      · have := Nat.mul_pos e hs; omega
    subst hl0
    refine ⟨[], fun w1 _ => ?_, ⟨rfl, fun i hi => by simp at hi⟩, (fun v hv => by cases hv), by simp⟩
    cases a' with
    | none => exact run_firstCells_none w1 s 0 0 cap'
    | some x => exact run_firstCells_some w1 s 0 x 0 cap' [] (by simp) (fun j v hj => by simp at hj)
  · rename_i h0
    split at hf
    · rename_i id off
      split at hf
      · rename_i c wr hrow
        split at hf
        · rename_i hle
          obtain rfl := Option.some.inj hf
          rcases hb with ⟨hn, _⟩ | ⟨id', off', p, x, hsome, hp, rfl, hx⟩
          · cases hn
          · cases hsome
            have hlpos : len ≠ 0 := fun e => h0 (by rw [e]; simp)
            obtain rfl := hx.resolve_left (by omega)
            obtain ⟨cc, e, fr, hbk, h1, h2, h3, h4, h5⟩ := R.obj hp hrow
            refine ⟨segC cc (p.sh + off) (len * s), fun w1 hw1 => ?_, seg_R h3 hle, fun v hv => h5 v (mem_drop_take hv), by simp; omega⟩
            exact run_firstCells_some w1 s len _ len cap' _ (segC_length _ _ _) (segC_cells (w := w1) (by rw [hw1]; exact hbk) (by omega))
        · cases hf
      · cases hf
    · cases hf
theorem fits64 {need cap' bytes : Nat} (h : cap' < need) (hn : need < room40) (hb : bytes ≤ 64) : Builtin.nextslicecap need cap' * bytes ≤ 281474976710656 := by
  refine growslice_fits h ?_
  have h1 : need * bytes ≤ need * 64 := Nat.mul_le_mul_left _ hb
  have h2 : need < 1099511627776 := hn
  omega
theorem R_kill {D : Nat → Prop} {id : Nat} {p : Pl} {c : List Value} (R : Rel β h w) (hp : β id = some p) (hrow : h[id]? = some (.row c true)) : Rel β (h.set id .dead) w ∧ Ext D β h w β (h.set id .dead) w :=
  ⟨R.update hp (by rw [hrow]; rfl) (by rw [hrow]; rfl) (fun _ _ _ => rfl) trivial, Ext.update hp (by rw [hrow]; rfl) (by rw [hrow]; rfl) (fun _ _ => rfl) rfl rfl rfl rfl⟩
end Go.AM
end

section
/- Go's model appends as the abstract machine does, all cases. Conditions: none. -/
namespace Go.AM
open Go
set_option linter.unusedSimpArgs false
variable {P : Program} {β : Bj} {h : AH} {w : World}
theorem run_append_room_any {t tx ty e : TypeId} {i : TypeInfo} (ht : P.underlying t = some (.slice e)) (hi : P.info? e = some i) (a' : Option Addr) (sLen sCap : Nat) (x : Value) (n : Nat) (us : List Value) (hs : Src P i.size tx x n us w) (hroom : sLen + n ≤ sCap) {w' : World}
    (hst : (match a' with | some x => storeCells (x.add (sLen * i.size)) us | none => pure ()).run P w = .ok () w') :
    (Builtin.append_ #[t, tx] ty #[.slice a' sLen sCap, x]).run P w = .ok (.slice a' (sLen + n) sCap) w' := by
  have hl := hs.len
  have hcl := hs.cells
  rcases hs.kind with ⟨e', hk⟩ | hk <;> cases a' with
    | none => simp [Builtin.append_, run_underlying ht, run_underlying hk, sizeOf, typeInfo, hi, hl, hroom, hcl]; simpa using hst
    | some xa =>
      simp only at hst
      simp [Builtin.append_, run_underlying ht, run_underlying hk, sizeOf, typeInfo, hi, hl, hroom, hcl, hst]
theorem sim_appS {D : Nat → Prop} {t tx ty e : TypeId} {i : TypeInfo} {z : List Value} {b b' x x' : Value} {K : Value → AH → Prop} (ht : P.underlying t = some (.slice e)) (hi : P.info? e = some i) (hz : zeroL P e = some z) (hpos : 0 < i.size) (hby : i.bytes ≤ 64)
    (hzl : z.length = i.size) (hkind : ∀ b, x = .string b → P.underlying tx = some .string) (hkind2 : ∀ a l c, x = .slice a l c → ∃ e', P.underlying tx = some (.slice e'))
    (hK : appS i.size b x h K) (hb : VR β b b') (hx : VR β x x') (R : Rel β h w) (hn : ∀ id, D id → id < h.length) :
    ∃ v' w', (Builtin.append_ #[t, tx] ty #[b', x']).run P w = .ok v' w' ∧ SimV D β h w K v' w' := by
  obtain ⟨zv, _, _, hzc, _, _, _⟩ := zeroL_spec (β := β) w hz
  have hinf : i.zero = some zv := by
    obtain ⟨zv', hrun, _⟩ := zeroL_spec (β := β) w hz
    have h2 := ‹(zeroValue e).run P w = .ok zv w›
    simp [zeroValue, run_info w hi] at h2
    split at h2
    · rename_i v hv
      simp at h2
      rw [hv, h2]
    · simp at h2
  have hzs : zv.cells.size = i.size := by rw [hzc]; simpa using hzl
  have grow : ∀ {a a' : Option Addr} {len cap' m : Nat} {old news us : List Value} {h1 : AH} (slot : Option Nat), Rel β h1 w → Ext D β h w β h1 w → SlotOK D β h1 slot → firstL (len * i.size) a h = some old → BaseR β cap' len a a' → len ≤ cap' → Src P i.size tx x' m us w → CellsR β news us.toArray → (∀ v ∈ news, v.oneCell' = true) →
      cap' < len + m → len + m < room40 → newW slot (.row (old ++ news) true) h1 (fun id h' => K (.slice (some ⟨id, 0, none⟩) (len + m) (openCap + i.size)) h') →
      ∃ v' w', (Builtin.append_ #[t, tx] ty #[.slice a' len cap', x']).run P w = .ok v' w' ∧ SimV D β h w K v' w' := by
    intro a a' len cap' m old news us h1 slot R1 E1 hsl hfirst hbase hlc hsrc hnews hn1 hgt hroom hk
    obtain ⟨olds, hrun, hor, ho1, hol⟩ := sim_first (P := P) hpos hfirst R hbase hlc
    have hnl : news.length = m * i.size := by rw [← hsrc.newsLen]; have := hnews.1; simpa using this.symm
    have := run_append_grow_src (P := P) w t tx ty e i zv ht hi hinf a' len cap' olds (hrun w.drew rfl) x' m us hsrc hgt (by have : len + m < 1099511627776 := hroom; omega) (fits64 hgt hroom hby)
    refine ⟨_, _, this, ?_⟩
    obtain ⟨v, h', β', k1, k2, k3, k4⟩ := sim_grow (e := e) (cap' := cap') hzs R1 hor hnews ho1 hn1 (by rw [hol, hnl, Nat.add_mul]) hroom hsl hk
    exact ⟨v, h', β', k1, k2, k3, E1.trans k4⟩
  rcases hK with hK | hK
  · obtain ⟨r, hr, hK⟩ := optW_elim hK
    unfold pAppS at hr
    split at hr
    · rename_i a len cap m news hsrc0
      obtain ⟨us, hsrc, hnews, hn1⟩ := sim_src hkind hkind2 hsrc0 R hx
      have hnl : news.length = m * i.size := by rw [← hsrc.newsLen]; have := hnews.1; simpa using this.symm
      split at hr
      · rename_i hroom
        obtain ⟨a', cap', rfl, hbase, hlc, hco, hex, hop⟩ := hb.slice_base
        split at hr
        · rename_i hc
          obtain rfl := hex hc
          unfold pAppEx at hr
          split at hr
          · rename_i hfit
            cases hst : stAt a (len * i.size) news h with
            | none => rw [hst] at hr; cases hr
            | some h' =>
              rw [hst] at hr
              obtain rfl := Option.some.inj hr
              obtain ⟨w', hrun, R', E⟩ := sim_stAt (P := P) (D := D) hst R hbase hnews hn1 (fun hne h0 => by
                have hm : m = 0 := by omega
                rw [hm, Nat.zero_mul] at hnl
                exact hne (List.eq_nil_of_length_eq_zero hnl))
              refine ⟨_, w', run_append_room_any ht hi a' len cap' x' m us hsrc hfit hrun, _, h', β, hK, ?_, R', E⟩
              rcases hbase with ⟨rfl, rfl, h0, h1⟩ | ⟨id, off, p, xa, rfl, hp, rfl, hxa⟩
              · have h2 : len + m = 0 := by omega
                rw [h2, h0]
                exact .nils
              · exact .slx hp hfit hc hxa
          · rename_i hfit
            cases hfi : firstL (len * i.size) a h with
            | none => rw [hfi] at hr; cases hr
            | some old =>
              rw [hfi] at hr
              obtain rfl := Option.some.inj hr
              exact grow none R (Ext.refl _ _ _ _) ⟨hn, fun r hr => by cases hr⟩ hfi hbase hlc hsrc hnews hn1 (by omega) hroom hK
        · split at hr
          · rename_i hc hcs
            obtain ⟨id, off, p, rfl, hp, hes, hprm⟩ := hop (by omega)
            have hsz : p.es = i.size := by omega
            unfold pAppOp at hr
            simp only at hr
            split at hr
            · rename_i c hrow
              obtain ⟨cc, e0, fr, hbk, h1, h2, h3, h4, h5⟩ := R.obj hp hrow
              split at hr
              · rename_i hle
                have hfit : len + m ≤ cap' := by
                  have h6 : (len + m) * i.size ≤ cap' * i.size := by rw [← hsz] at hle ⊢; omega
                  exact Nat.le_of_mul_le_mul_right h6 hpos
                cases hst : stAt (some ⟨id, off, none⟩) (len * i.size) news h with
                | none => rw [hst] at hr; cases hr
                | some h' =>
                  rw [hst] at hr
                  obtain rfl := Option.some.inj hr
                  obtain ⟨w', hrun, R', E⟩ := sim_stAt (P := P) (D := D) hst R hbase hnews hn1 (fun hne h0 => by
                    have hm : m = 0 := by omega
                    rw [hm, Nat.zero_mul] at hnl
                    exact hne (List.eq_nil_of_length_eq_zero hnl))
                  refine ⟨_, w', run_append_room_any ht hi a' len cap' x' m us hsrc hfit hrun, _, h', β, hK, ?_, R', E⟩
                  rcases hbase with ⟨hnn, _⟩ | ⟨id', off', p', xa, hsome, hp', rfl, hxa⟩
                  · cases hnn
                  · cases hsome
                    rw [hp] at hp'
                    obtain rfl := Option.some.inj hp'
                    rw [← hsz]
                    exact .slo hp hfit hco hprm hxa
              · rename_i hng
                split at hr
                · rename_i hle
                  obtain rfl := Option.some.inj hr
                  obtain ⟨R1, E1⟩ := R_kill (D := D) R hp hrow
                  have hfi : firstL (len * i.size) (some ⟨id, off, none⟩) h = some ((c.drop off).take (len * i.size)) := by
                    unfold firstL
                    split
                    · rename_i h0; rw [h0]; simp
                    · simp [hrow, hle]
                  by_cases hfit : len + m ≤ cap'
                  · -- in place: the old object dies, the new one lies where it lay
                    obtain ⟨p', xa, hxa, hp', hxp⟩ : ∃ p' xa, a' = some xa ∧ β id = some p' ∧ (cap' = 0 ∨ xa = ⟨p'.b, p'.sh + off, none⟩) := by
                      rcases hbase with ⟨hnn, _⟩ | ⟨id', off', p', xa, hsome, hp', ha, hxa⟩
                      · cases hnn
                      · cases hsome; exact ⟨p', xa, ha, hp', hxa⟩
                    rw [hp] at hp'
                    obtain rfl := Option.some.inj hp'
                    subst hxa
                    have hcap0 : cap' ≠ 0 := by
                      intro h0
                      have e1 : len + m = 0 := by omega
                      have e2 : len = 0 := by omega
                      rw [e1, Nat.zero_mul] at hng
                      rw [e2, Nat.zero_mul] at hle
                      exact hng hle
                    obtain rfl := hxp.resolve_left hcap0
                    have hul : us.length = m * i.size := hsrc.newsLen
                    have hroomeq : p.sh + off + cap' * i.size = p.room := by rw [← hsz]; exact hprm
                    have h6 : (len + m) * i.size ≤ cap' * i.size := Nat.mul_le_mul_right _ hfit
                    rw [Nat.add_mul] at h6
                    obtain ⟨cc', i1, i2, i3, i4, i5, i6, i7, i8⟩ := setCells_heap us p.b (p.sh + off + len * i.size) w cc e0 fr hbk (by omega)
                    have hfr : fr.1 = fr.2 ∨ p.room ≤ fr.1 := .inl (by rw [h4 rfl])
                    have hrun : (storeCells ((⟨p.b, p.sh + off, none⟩ : Addr).add (len * i.size)) us).run P w = .ok () (w.setCells p.b (p.sh + off + len * i.size) us) := by
                      rw [add_none]
                      exact run_storeSeg us hbk (by omega) (fun k k1 k2 => by rcases hfr with hfr | hfr <;> omega) hsrc.one
                    have hnone : β h.length = none := by
                      cases eb : β h.length with
                      | none => rfl
                      | some q => have := R.lt eb; omega
                    have hol : ((c.drop off).take (len * i.size)).length = len * i.size := by simp; omega
                    have hobj : ∀ β', BLe β β' → ObjAt β' (.row ((c.drop off).take (len * i.size) ++ news) true) ⟨p.b, p.sh + off, p.room, i.size⟩ (w.setCells p.b (p.sh + off + len * i.size) us) := by
                      intro β' hbl
                      refine ⟨cc', e0, fr, i1, by simp only [List.length_append, hol, hnl]; omega, by rw [i2]; exact h2, fun k hk => ?_, fun _ => h4 rfl, fun v hv => (List.mem_append.1 hv).elim (fun hv => h5 v (mem_drop_take hv)) (hn1 v)⟩
                      rw [List.length_append, hol, hnl] at hk
                      simp only
                      rw [i3, lgetD, hul]
                      by_cases hk1 : k < len * i.size
                      · rw [List.getElem?_append_left (by omega), if_neg (by omega)]
                        have := h3 (off + k) (by omega)
                        rw [lgetD] at this
                        rw [List.getElem?_take_of_lt hk1, List.getElem?_drop, show p.sh + off + k = p.sh + (off + k) by omega]
                        exact this.mono hbl
                      · rw [List.getElem?_append_right (by omega), if_pos (by omega), hol]
                        have := hnews.2 (k - len * i.size) (by omega)
                        rw [lgetD, ← toList_getD] at this
                        rw [show p.sh + off + k - (p.sh + off + len * i.size) = k - len * i.size by omega]
                        exact this.mono hbl
                    have hid : (h.set id .dead ++ [AObj.row ((c.drop off).take (len * i.size) ++ news) true])[h.length]? = some (.row ((c.drop off).take (len * i.size) ++ news) true) := by
                      rw [List.getElem?_append_right (by simp)]; simp
                    have R2 := R1.add (id := h.length) (p := ⟨p.b, p.sh + off, p.room, i.size⟩) (w' := w.setCells p.b (p.sh + off + len * i.size) us) hnone hid
                      (fun j hj hl => by rw [List.getElem?_append_left hl]) (by simp)
                      (fun j q hj hl => by
                        by_cases ej : id = j
                        · subst ej; rw [getElem?_set_same (R.lt hp)] at hl; cases hl
                        · rw [getElem?_set_other ej] at hl
                          exact fun hqb => R.sep ej hp hj (by rw [hrow]; rfl) hl (by rw [hrow]; rfl) hqb.symm)
                      (fun b hb _ => i4 b hb) (hobj _ (upd_le hnone))
                    refine ⟨_, _, run_append_room_any ht hi _ len cap' x' m us hsrc hfit hrun, _, _, upd β h.length ⟨p.b, p.sh + off, p.room, i.size⟩, hK, ?_, R2, ?_⟩
                    · have := VR.slo (β := upd β h.length ⟨p.b, p.sh + off, p.room, i.size⟩) (id := h.length) (off := 0) (len := len + m) (cap := cap') (p := ⟨p.b, p.sh + off, p.room, i.size⟩) (a := ⟨p.b, p.sh + off, none⟩) (upd_same _ _ _) hfit hco (by simp only; omega) (.inr (by simp))
                      exact this
                    · refine ⟨upd_le hnone, fun j hj hd => ?_, by simp, fun j hj hjn => ?_, by rw [i5]; exact Nat.le_refl _, i6, i7, i8, fun b _ hnb => i4 b fun e => hnb ⟨id, p, hp, e.symm, by rw [hrow]; rfl, by rw [hrow]; rfl⟩, ?_⟩
                      · rwa [upd_other (by have := hn j hj; omega)] at hd
                      · rw [List.getElem?_append_left (by simpa using hn j hj)]
                        exact getElem?_set_other fun e => by subst e; rw [hp] at hjn; cases hjn
                      · rintro b ⟨j, q, hj, rfl, l1, l2⟩
                        by_cases ej : j = h.length
                        · subst ej
                          rw [upd_same] at hj
                          obtain rfl := Option.some.inj hj
                          exact .inl ⟨id, p, hp, rfl, by rw [hrow]; rfl, by rw [hrow]; rfl⟩
                        · rw [upd_other ej] at hj
                          rw [List.getElem?_append_left (by simp; exact R.lt hj)] at l1 l2
                          by_cases e2 : id = j
                          · subst e2; rw [getElem?_set_same (R.lt hp)] at l1; cases l1
                          · rw [getElem?_set_other e2] at l1 l2
                            exact .inl ⟨j, q, hj, rfl, l1, l2⟩
                  · refine grow (h1 := h.set id .dead) none R1 E1 ⟨by simpa using hn, fun r hr => by cases hr⟩ hfi hbase hlc hsrc hnews hn1 (by omega) hroom ?_
                    simp only [newW, List.length_set]
                    exact hK
                · cases hr
            · cases hr
          · cases hr
      · cases hr
    · cases hr
  · unfold appBoth at hK
    split at hK
    · rename_i id off len cap m news hsrc0
      obtain ⟨us, hsrc, hnews, hn1⟩ := sim_src hkind hkind2 hsrc0 R hx
      have hnl : news.length = m * i.size := by rw [← hsrc.newsLen]; have := hnews.1; simpa using this.symm
      obtain ⟨hroom, hcs, hK⟩ := hK
      obtain ⟨a', cap', rfl, hbase, hlc, hco, hex, hop⟩ := hb.slice_base
      obtain ⟨id', off', p, hsome, hp, hes, hprm⟩ := hop (by omega)
      cases hsome
      have hsz : p.es = i.size := by omega
      split at hK
      · rename_i c hrow
        obtain ⟨hend, hK1, hK2⟩ := hK
        obtain ⟨cc, e0, fr, hbk, h1, h2, h3, h4, h5⟩ := R.obj hp hrow
        by_cases hfit : len + m ≤ cap'
        · have hul : us.length = m * i.size := hsrc.newsLen
          have hroomeq : p.sh + off + cap' * i.size = p.room := by rw [← hsz]; exact hprm
          have h6 : (len + m) * i.size ≤ cap' * i.size := Nat.mul_le_mul_right _ hfit
          rw [Nat.add_mul] at h6
          have hfr : fr.1 = fr.2 ∨ p.room ≤ fr.1 := .inl (by rw [h4 rfl])
          obtain ⟨cc', i1, i2, i3, i4, i5, i6, i7, i8⟩ := setCells_heap us p.b (p.sh + c.length) w cc e0 fr hbk (by omega)
          have hrun : (match a' with | some x => storeCells (x.add (len * i.size)) us | none => pure ()).run P w = .ok () (w.setCells p.b (p.sh + c.length) us) := by
            rcases hbase with ⟨hnn, _⟩ | ⟨id', off', p', xa, hsome, hp', rfl, hxa⟩
            · cases hnn
            · cases hsome
              rw [hp] at hp'
              obtain rfl := Option.some.inj hp'
              by_cases hc0 : cap' = 0
              · have hm : m = 0 := by omega
                rw [hm, Nat.zero_mul] at hul
                obtain rfl := List.eq_nil_of_length_eq_zero hul
                simp [storeCells, World.setCells]
              · obtain rfl := hxa.resolve_left hc0
                simp only [add_none]
                rw [show p.sh + off + len * i.size = p.sh + c.length by omega]
                exact run_storeSeg us hbk (by omega) (fun k k1 k2 => by rcases hfr with hfr | hfr <;> omega) hsrc.one
          refine ⟨_, _, run_append_room_any ht hi a' len cap' x' m us hsrc hfit hrun, _, _, β, hK1, ?_, ?_, Ext.update hp (by rw [hrow]; rfl) (by rw [hrow]; rfl) i4 i5 i6 i7 i8⟩
          · rcases hbase with ⟨hnn, _⟩ | ⟨id', off', p', xa, hsome, hp', rfl, hxa⟩
            · cases hnn
            · cases hsome
              rw [hp] at hp'
              obtain rfl := Option.some.inj hp'
              rw [hcs, ← hsz]
              exact .slo hp hfit hco hprm hxa
          · refine R.update hp (by rw [hrow]; rfl) (by rw [hrow]; rfl) (fun b hb _ => i4 b hb) ⟨cc', e0, fr, i1, by simp only [List.length_append, hnl]; omega, by rw [i2]; exact h2, fun k hk => ?_, fun _ => h4 rfl, fun v hv => (List.mem_append.1 hv).elim (h5 v) (hn1 v)⟩
            rw [List.length_append, hnl] at hk
            rw [i3, lgetD, hul]
            by_cases hk1 : k < c.length
            · rw [List.getElem?_append_left hk1, if_neg (by omega)]
              have := h3 k hk1
              rwa [lgetD] at this
            · rw [List.getElem?_append_right (by omega), if_pos (by omega)]
              have := hnews.2 (k - c.length) (by omega)
              rw [lgetD, ← toList_getD] at this
              rw [show p.sh + k - (p.sh + c.length) = k - c.length by omega]
              exact this
        · have hfi : firstL (len * i.size) (some ⟨id, off, none⟩) h = some (c.drop off) := by
            unfold firstL
            have hd : (c.drop off).take (len * i.size) = c.drop off := List.take_of_length_le (by simp; omega)
            split
            · rename_i h0
              rw [h0] at hd
              simp at hd
              simp [hd]
            · simp [hrow, hend, hd]
          refine grow none R (Ext.refl _ _ _ _) ⟨hn, fun r hr => by cases hr⟩ hfi hbase hlc hsrc hnews hn1 (by omega) hroom ?_
          rw [← hcs]
          exact hK2
      · exact hK.elim
    · exact hK.elim
end Go.AM
end

section
/- The abstract machine's maps and iterators. Conditions: none. -/
namespace Go.AM
open Go
def keyEq (P : Program) (kt : TypeId) (x y : Value) : Option Bool :=
  match x, y with
  | .agg a, .agg b => sameAgg P kt a.toList b.toList
  | x, y => if isScal P kt x = true ∧ isScal P kt y = true then sameScal x y else none
abbrev Ent := Value × Value × Nat
def findL (P : Program) (kt : TypeId) (k : Value) : List Ent → Nat → Option (Option (Nat × Value))
  | [], _ => some none
  | e :: es, i => match keyEq P kt k e.1 with
    | some true => some (some (i, e.2.1))
    | some false => findL P kt k es (i + 1)
    | none => none
def keyOK (P : Program) (kt : TypeId) (k : Value) : Bool := (keyEq P kt k k).isSome
def zeroV (P : Program) (t : TypeId) : Option Value :=
  match P.info? t with
  | some i => match i.zero with
    | some z => if pureV z = true then some z else none
    | none => none
  | none => none
def entsOf (x : Value) (h : AH) : Option (List Ent) :=
  match x with
  | .map none => some []
  | .map (some id) => match h[id]? with
    | some (.map es _) => some es
    | _ => none
  | _ => none
def okV (ok : Bool) (v : Value) (b : Bool) : Value :=
  match ok with
  | true => .tuple #[v, .bool b]
  | false => v
def pLookup (P : Program) (t : TypeId) (x k : Value) (ok : Bool) (h : AH) : Option Value :=
  match P.underlying t with
  | some (.map kt et) => match zeroV P et, entsOf x h with
    | some z, some es => if keyOK P kt k = true then match findL P kt k es 0 with
        | some (some (_, v)) => some (okV ok v true)
        | some none => some (okV ok z false)
        | none => none
      else none
    | _, _ => none
  | _ => none
def pMapUpd (P : Program) (t : TypeId) (x k v : Value) (h : AH) : Option AH :=
  match P.underlying t, x with
  | some (.map kt _), .map (some id) => match h[id]? with
    | some (.map es ck) => if keyOK P kt k = true then match findL P kt k es 0 with
        | some (some (i, _)) => some (h.set id (.map (es.modify i fun e => (e.1, v, e.2.2)) ck))
        | some none => some (h.set id (.map (es ++ [(k, v, ck)]) (ck + 1)))
        | none => none
      else none
    | _ => none
  | _, _ => none
def pLenMap (x : Value) (h : AH) : Option Value := (entsOf x h).map fun es => .int .i64 es.length
def aRange (P : Program) (t : TypeId) (x : Value) (slot : Option Nat) (h : AH) (K : Value → AH → Prop) : Prop :=
  match P.underlying t, x with
  | some .string, .string s => newW slot (.strIter s 0) h fun id h' => K (.pointer (some ⟨id, 0, none⟩)) h'
  | some (.map ..), .map none => newW slot (.mapIter none 0 [] 0) h fun id h' => K (.pointer (some ⟨id, 0, none⟩)) h'
  | some (.map ..), .map (some m) => match h[m]? with
    | some (.map _ ck) => newW slot (.mapIter (some m) ck [] ck) h fun id h' => K (.pointer (some ⟨id, 0, none⟩)) h'
    | _ => False
  | _, _ => False
def over : Value := .tuple #[.bool false]
def cands (es : List Ent) (since : Nat) (seen : List Nat) : List (Option Ent) :=
  (if ((es.filter fun e => !seen.contains e.2.2).filter fun e => decide (e.2.2 < since)).isEmpty then [none] else []) ++
    (((es.filter fun e => !seen.contains e.2.2).filter fun e => decide (e.2.2 < since)) ++ ((es.filter fun e => !seen.contains e.2.2).filter fun e => decide (e.2.2 ≥ since))).map some
def gone (es : List Ent) (seen : List Nat) (last : Nat) : Bool := !seen.isEmpty && !es.isEmpty && es.all fun e => decide (e.2.2 ≥ last)
def aNext (it : Value) (isString : Bool) (h : AH) (K : Value → AH → Prop) : Prop :=
  match it with
  | .pointer (some ⟨r, 0, none⟩) => match h[r]?, isString with
    | some (.strIter s pos), true =>
      if pos < s.size then K (.tuple #[.bool true, .int .i64 pos, .int .i32 (Utf8.decode s pos).1]) (h.set r (.strIter s (pos + (Utf8.decode s pos).2))) else K over h
    | some (.mapIter none _ _ _), false => K over h
    | some (.mapIter (some m) since seen last), false => match h[m]? with
      | some (.map es ck) => gone es seen last = false ∧ ∀ c ∈ cands es since seen, match c with
          | none => K over h
          | some e => K (.tuple #[.bool true, e.1, e.2.1]) (h.set r (.mapIter (some m) since (seen ++ [e.2.2]) ck))
      | _ => False
    | _, _ => False
  | _ => False
def pEntry (it : Value) (h : AH) : Option Value :=
  match it with
  | .pointer (some ⟨r, 0, none⟩) => match h[r]? with
    | some (.mapIter (some m) _ seen stepped) => match seen.getLast?, h[m]? with
      | some stamp, some (.map es ck) => if ck = stepped then (es.find? fun e => e.2.2 == stamp).map fun e => .tuple #[e.1, e.2.1] else none
      | _, _ => none
    | _ => none
  | _ => none
end Go.AM
end

section
/- Go's model works on maps as the abstract machine does. Conditions: none. -/
namespace Go.AM
open Go
set_option linter.unusedSimpArgs false
variable {P : Program} {β : Bj} {h : AH} {w : World}
theorem keyEq_pure {kt : TypeId} {x y : Value} {r : Bool} (hk : keyEq P kt x y = some r) : pureV x = true ∧ pureV y = true := by
  unfold keyEq at hk
  split at hk
  · have := sameAgg_pure hk
    exact ⟨pureAgg this.1, pureAgg this.2⟩
  · split at hk
    · rename_i hc
      have h1 := isScal_pure hc.1
      have h2 := isScal_pure hc.2
      constructor
      · unfold pureV; split <;> simp_all [pureS]
      · unfold pureV; split <;> simp_all [pureS]
    · cases hk
theorem sim_keyEq {kt : TypeId} {x y : Value} {r : Bool} (hk : keyEq P kt x y = some r) (w : World) : (Op.equal kt x y).run P w = .ok r w := by
  unfold keyEq at hk
  split at hk
  · exact sim_sameAgg w hk 9998
  · split at hk
    · rename_i hc
      exact sim_scal w 9999 hk hc.1 hc.2
    · cases hk
theorem sim_asking {kt : TypeId} {k : Value} : ∀ (es : List Ent) (cs : List MapEntry) (i : Nat) (r : Option (Nat × Value)), EntsR β es cs → findL P kt k es i = some r →
    ∃ r', (Instr.findAsking kt k cs i).run P w = .ok r' w ∧ (match r with | none => r' = none | some (j, v) => ∃ v', r' = some (j, v') ∧ VR β v v' ∧ i ≤ j ∧ ∃ e c, es[j - i]? = some e ∧ cs[j - i]? = some c ∧ c.key = e.1 ∧ keyEq P kt k e.1 = some true)
  | [], [], i, r, _, hf => by
    simp only [findL, Option.some.injEq] at hf
    subst hf
    exact ⟨none, by simp [Instr.findAsking], rfl⟩
  | e :: es, c :: cs, i, r, ⟨⟨hk, hv, hb⟩, hr⟩, hf => by
    simp only [findL] at hf
    cases heq : keyEq P kt k e.1 with
    | none => rw [heq] at hf; cases hf
    | some b =>
      have hck : c.key = e.1 := hk.pure_eq (keyEq_pure heq).2
      have hrun := sim_keyEq heq w
      rw [heq] at hf
      cases b with
      | true =>
        simp only [Option.some.injEq] at hf
        subst hf
        refine ⟨some (i, c.val), by simp [Instr.findAsking, hck, hrun], c.val, rfl, hv, Nat.le_refl _, e, c, by simp, by simp, hck, heq⟩
      | false =>
        simp only at hf
        obtain ⟨r', h1, h2⟩ := sim_asking es cs (i + 1) r hr hf
        refine ⟨r', by simp [Instr.findAsking, hck, hrun, h1], ?_⟩
        cases r with
        | none => exact h2
        | some jv =>
          obtain ⟨v', e1, e2, e3, e', c', e4, e5, e6, e7⟩ := h2
          refine ⟨v', e1, e2, by omega, e', c', ?_, ?_, e6, e7⟩
          · rw [show jv.1 - i = (jv.1 - (i + 1)) + 1 by omega]; simpa using e4
          · rw [show jv.1 - i = (jv.1 - (i + 1)) + 1 by omega]; simpa using e5
  | [], _ :: _, _, _, h, _ => by cases h
  | _ :: _, [], _, _, h, _ => by cases h
theorem sameNow_keyEq {kt : TypeId} {d : TypeDesc} {x y : Value} {r : Bool} (hd : P.underlying kt = some d) (hk : keyEq P kt x y = some r) : Instr.sameNow d x y = none ∨ Instr.sameNow d x y = some r := by
  unfold keyEq at hk
  split at hk
  · left
    cases d <;> rfl
  · split at hk
    · rename_i hc
      right
      unfold isScal at hc
      rw [hd] at hc
      unfold sameScal at hk
      split at hk
      · split at hk
        · rename_i hkk
          subst hkk
          cases d <;> simp_all [Instr.sameNow]
        · cases hk
      · cases d <;> simp_all [Instr.sameNow, beq_toListBytes]
      · cases d <;> simp_all [Instr.sameNow]
      · cases hk
    · cases hk
theorem findNow_asking {kt : TypeId} {d : TypeDesc} {k : Value} (hd : P.underlying kt = some d) : ∀ (es : List Ent) (cs : List MapEntry) (i : Nat) (r : Option (Nat × Value)) (q : Option (Nat × Value)), EntsR β es cs → findL P kt k es i = some r →
    Instr.findNow d k cs i = some q → (Instr.findAsking kt k cs i).run P w = .ok q w
  | [], [], i, r, q, _, hf, hn => by
    simp only [Instr.findNow, Option.some.injEq] at hn
    subst hn
    simp [Instr.findAsking]
  | e :: es, c :: cs, i, r, q, ⟨⟨hk, hv, hb⟩, hr⟩, hf, hn => by
    simp only [findL] at hf
    cases heq : keyEq P kt k e.1 with
    | none => rw [heq] at hf; cases hf
    | some b =>
      have hck : c.key = e.1 := hk.pure_eq (keyEq_pure heq).2
      have hrun := sim_keyEq heq w
      simp only [Instr.findNow, hck] at hn
      rw [heq] at hf
      rcases sameNow_keyEq hd heq with h0 | h0
      · rw [h0] at hn; cases hn
      · rw [h0] at hn
        cases b with
        | true =>
          simp only [Option.some.injEq] at hn
          subst hn
          simp [Instr.findAsking, hck, hrun]
        | false =>
          simp only at hn hf
          have := findNow_asking hd es cs (i + 1) r q hr hf hn
          simp [Instr.findAsking, hck, hrun, this]
  | [], _ :: _, _, _, _, h, _, _ => by cases h
  | _ :: _, [], _, _, _, h, _, _ => by cases h
theorem sim_find {kt : TypeId} {k : Value} {es : List Ent} {cs : List MapEntry} {r : Option (Nat × Value)} (hd : ∃ d, P.underlying kt = some d) (he : EntsR β es cs) (hf : findL P kt k es 0 = some r) :
    ∃ r', (Instr.findKey kt k cs).run P w = .ok r' w ∧ (match r with | none => r' = none | some (j, v) => ∃ v', r' = some (j, v') ∧ VR β v v' ∧ ∃ e c, es[j]? = some e ∧ cs[j]? = some c ∧ c.key = e.1 ∧ keyEq P kt k e.1 = some true) := by
  obtain ⟨d, hd⟩ := hd
  obtain ⟨r', h1, h2⟩ := sim_asking (w := w) es cs 0 r he hf
  refine ⟨r', ?_, ?_⟩
  · simp only [Instr.findKey, Sem.run_bind, run_underlying hd, Result.andThen_ok]
    cases hn : Instr.findNow d k cs 0 with
    | none => exact h1
    | some q =>
      have := findNow_asking (w := w) hd es cs 0 r q he hf hn
      rw [h1] at this
      simp only [Result.ok.injEq] at this
      simp [this.1]
  · cases r with
    | none => exact h2
    | some jv =>
      obtain ⟨v', e1, e2, _, e', c', e4, e5, e6, e7⟩ := h2
      exact ⟨v', e1, e2, e', c', by simpa using e4, by simpa using e5, e6, e7⟩
theorem flat_under {t : TypeId} (hs : flatScalar P t = true) (em : Bool) (n : Nat) (v : Value) (w : World) : (Instr.checkKey em (n + 1) t v).run P w = .ok () w := by
  unfold flatScalar at hs
  split at hs
  · rename_i hu; simp [Instr.checkKey, run_underlying hu]
  · rename_i hu; simp [Instr.checkKey, run_underlying hu]
  · rename_i hu; simp [Instr.checkKey, run_underlying hu]
  · cases hs
theorem isScal_flat {t : TypeId} {v : Value} (h : isScal P t v = true) : flatScalar P t = true := by
  unfold isScal at h
  unfold flatScalar
  split at h <;> simp_all
theorem check_fields (em : Bool) (d : Nat) (a : Array Value) : ∀ (fs : List Field) (i : Nat) (x : List Value) (w : World), flatFields P i fs = true → scalsOf P fs x = true → (∀ j, a[i + j]? = x[j]?) →
    (forIn (m := Sem) fs PUnit.unit fun f _ => do
        if f.name ≠ "_" then
          Instr.checkKey em (d + 1) f.type (← part f.type a f.offset)
        pure (ForInStep.yield PUnit.unit)).run P w = .ok PUnit.unit w
  | [], i, x, w, _, _, _ => by simp
  | f :: fs, i, x, w, hf, hx, ha => by
    cases x with
    | nil => simp [scalsOf] at hx
    | cons x0 xs =>
      simp only [flatFields, Bool.and_eq_true, bne_iff_ne, ne_eq, beq_iff_eq] at hf
      obtain ⟨⟨⟨hn, ho⟩, hs⟩, hfs⟩ := hf
      simp only [scalsOf, Bool.and_eq_true] at hx
      have h0 := run_part_flat w hs a f.offset x0 (by rw [ho]; have := ha 0; simpa using this)
      have ih := check_fields em d a fs (i + 1) xs w hfs hx.2 (fun j => by rw [show i + 1 + j = i + (j + 1) by omega, ha]; simp)
      have hck := flat_under hs em d x0 w
      simp only [List.forIn_cons, hn, ne_eq, not_false_eq_true, if_true, Sem.run_bind, h0, Result.andThen_ok, hck, Sem.run_pure]
      simpa using ih
theorem check_elems {e : TypeId} {i0 : TypeInfo} (hi : P.info? e = some i0) (h1 : i0.size = 1) (hs : flatScalar P e = true) (em : Bool) (d : Nat) (a : Array Value) : ∀ (n i : Nat) (x : List Value) (w : World), x.length = n → (∀ j, a[i + j]? = x[j]?) →
    (forIn (m := Sem) (List.range' i n) PUnit.unit fun i _ => do
        Instr.checkKey em (d + 1) e (← part e a (i * (← sizeOf e)))
        pure (ForInStep.yield PUnit.unit)).run P w = .ok PUnit.unit w
  | 0, i, x, w, _, _ => by simp
  | n + 1, i, x, w, hx, ha => by
    cases x with
    | nil => simp at hx
    | cons x0 xs =>
      have h0 := run_part_flat w hs a (i * 1) x0 (by have := ha 0; simpa using this)
      simp only [Nat.mul_one] at h0
      have hsz := run_size w hi
      rw [h1] at hsz
      have ih := check_elems hi h1 hs em d a n (i + 1) xs w (by simpa using hx) (fun j => by rw [show i + 1 + j = i + (j + 1) by omega, ha]; simp)
      have hck := flat_under hs em d x0 w
      simp only [List.range'_succ, List.forIn_cons, Sem.run_bind, hsz, Result.andThen_ok, Nat.mul_one, h0, hck, Sem.run_pure]
      simpa using ih
theorem sim_check {kt : TypeId} {k : Value} (hk : keyOK P kt k = true) (em : Bool) (w : World) : (Instr.checkKey em 10000 kt k).run P w = .ok () w ∧ (∃ d, P.underlying kt = some d) ∧ pureV k = true := by
  obtain ⟨r, hr⟩ := Option.isSome_iff_exists.1 hk
  have hp := (keyEq_pure hr).1
  unfold keyEq at hr
  split at hr
  · rename_i a
    unfold sameAgg at hr
    split at hr
    · rename_i fs ht
      split at hr
      · rename_i hc
        refine ⟨?_, ⟨_, ht⟩, hp⟩
        have key : ∀ D d, D = d + 1 → (Instr.checkKey em (D + 1) kt (.agg a)).run P w = .ok () w := by
          intro D d hD
          have := check_fields em d a fs.toList 0 a.toList w hc.2.1 hc.2.2.1 (fun j => by simp)
          rw [← hD] at this
          simp only [Instr.checkKey, Sem.run_bind, run_underlying ht, Result.andThen_ok]
          rw [← Array.forIn_toList]
          simp at this ⊢
          simp [this]
        exact key 9999 9998 rfl
      · cases hr
    · rename_i n e ht
      split at hr
      · rename_i hc
        obtain ⟨c1, c2, c3, c4, c5, c6⟩ := hc
        cases hi : P.info? e with
        | none => rw [hi] at c2; cases c2
        | some i0 =>
          rw [hi] at c2
          have h1 : i0.size = 1 := by simpa using c2
          refine ⟨?_, ⟨_, ht⟩, hp⟩
          have key : ∀ D d, D = d + 1 → (Instr.checkKey em (D + 1) kt (.agg a)).run P w = .ok () w := by
            intro D d hD
            have := check_elems hi h1 c1 em d a n 0 a.toList w c3 (fun j => by simp)
            rw [← hD] at this
            simp only [Instr.checkKey, Sem.run_bind, run_underlying ht, Result.andThen_ok, Std.Legacy.Range.forIn_eq_forIn_range', Std.Legacy.Range.size, Nat.sub_zero, Nat.add_sub_cancel, Nat.div_one]
            simp at this ⊢
            simp [this]
          exact key 9999 9998 rfl
      · cases hr
    · cases hr
  · split at hr
    · rename_i hc
      have hf := isScal_flat hc.1
      refine ⟨flat_under hf em 9999 k w, ?_, hp⟩
      unfold flatScalar at hf
      split at hf <;> first | exact ⟨_, ‹_›⟩ | cases hf
    · cases hr
end Go.AM
end

section
/- Go's model looks up, writes and goes through maps as the abstract machine does. Conditions: none. -/
namespace Go.AM
open Go
set_option linter.unusedSimpArgs false
variable {P : Program} {β : Bj} {h : AH} {w : World}
theorem zeroV_spec {t : TypeId} {z : Value} (hz : zeroV P t = some z) (w : World) : (zeroValue t).run P w = .ok z w ∧ pureV z = true := by
  unfold zeroV at hz
  split at hz
  · rename_i i hi
    split at hz
    · rename_i z' hz'
      split at hz
      · rename_i hp
        obtain rfl := Option.some.inj hz
        exact ⟨by simp [zeroValue, run_info w hi, hz'], hp⟩
      · cases hz
    · cases hz
  · cases hz
theorem EntsR.length : ∀ {es : List Ent} {cs : List MapEntry}, EntsR β es cs → es.length = cs.length
  | [], [], _ => rfl
  | _ :: _, _ :: _, ⟨_, h⟩ => by simp [h.length]
theorem sim_ents {x x' : Value} {es : List Ent} (he : entsOf x h = some es) (R : Rel β h w) (hx : VR β x x') :
    (x' = .map none ∧ es = []) ∨ ∃ b ees ck, x' = .map (some b) ∧ w.heap[b]? = some (.map ees ck) ∧ EntsR β es ees.toList := by
  unfold entsOf at he
  split at he
  · cases hx
    obtain rfl := Option.some.inj he
    exact .inl ⟨rfl, rfl⟩
  · split at he
    · rename_i hid
      cases hx
      rename_i p hp
      obtain rfl := Option.some.inj he
      obtain ⟨ees, h1, h2⟩ := R.obj hp hid
      exact .inr ⟨_, ees, _, rfl, h1, h2⟩
    · cases he
  · cases he
theorem run_getMap {b : Nat} {ees : Array MapEntry} {ck : Nat} (hb : w.heap[b]? = some (.map ees ck)) : (getObj b).run P w = .ok (.map ees ck) w := by
  simp [getObj, Sem.run, hb]
theorem okV_R {ok b : Bool} {v v' : Value} (hv : VR β v v') : VR β (okV ok v b) (if ok then .tuple #[v', .bool b] else v') := by
  cases ok
  · exact hv
  · refine .tuple rfl fun i hi => ?_
    have : i = 0 ∨ i = 1 := by simp at hi; omega
    rcases this with rfl | rfl
    · exact hv
    · exact .bool b
theorem sim_lookup {t : TypeId} {x k x' k' v : Value} {ok : Bool} (hl : pLookup P t x k ok h = some v) (R : Rel β h w) (hx : VR β x x') (hk : VR β k k') : ∃ v', (Instr.lookup t x' k' ok).run P w = .ok v' w ∧ VR β v v' := by
  unfold pLookup at hl
  split at hl
  · rename_i kt et ht
    split at hl
    · rename_i z es hz he
      split at hl
      · rename_i hko
        obtain ⟨hck, hd, hkp⟩ := sim_check hko true w
        have hck2 := (sim_check hko false w).1
        obtain rfl := hk.pure_eq hkp
        obtain ⟨hzr, hzp⟩ := zeroV_spec hz w
        have fin : ∀ ees : Array MapEntry, EntsR β es ees.toList → (∀ q u, (Instr.findKey kt k' ees.toList).run P w = .ok (some (q, u)) w → (Instr.lookup t x' k' ok).run P w = .ok (if ok then .tuple #[u, .bool true] else u) w) →
            ((Instr.findKey kt k' ees.toList).run P w = .ok none w → (Instr.lookup t x' k' ok).run P w = .ok (if ok then .tuple #[z, .bool false] else z) w) → ∃ v', (Instr.lookup t x' k' ok).run P w = .ok v' w ∧ VR β v v' := by
          intro ees hees g1 g2
          cases hf : findL P kt k' es 0 with
          | none => rw [hf] at hl; cases hl
          | some r =>
            obtain ⟨r', hr', hrr⟩ := sim_find (w := w) hd hees hf
            rw [hf] at hl
            cases r with
            | none =>
              simp only [Option.some.injEq] at hl
              subst hl
              simp only at hrr
              subst hrr
              exact ⟨_, g2 hr', okV_R (.ofPure hzp)⟩
            | some jv =>
              obtain ⟨j, v0⟩ := jv
              simp only [Option.some.injEq] at hl
              subst hl
              obtain ⟨v', rfl, hv, _⟩ := hrr
              exact ⟨_, g1 _ _ hr', okV_R hv⟩
        rcases sim_ents he R hx with ⟨rfl, rfl⟩ | ⟨b, ees, ck, rfl, hb, hR⟩
        · refine fin #[] trivial (fun q u hq => ?_) (fun hq => ?_)
          · simp [Instr.lookup, run_underlying ht, hck, hq]
          · simp [Instr.lookup, run_underlying ht, hck, hq, hzr]
        · have hcke : (Instr.checkKey ees.isEmpty 10000 kt k').run P w = .ok () w := (sim_check hko ees.isEmpty w).1
          refine fin ees hR (fun q u hq => ?_) (fun hq => ?_)
          · simp only [Instr.lookup, Sem.run_bind, run_underlying ht, Result.andThen_ok, run_getMap (P := P) hb, Sem.run_pure, hcke, hq]
          · simp only [Instr.lookup, Sem.run_bind, run_underlying ht, Result.andThen_ok, run_getMap (P := P) hb, Sem.run_pure, hcke, hq, hzr]
      · cases hl
    · cases hl
  · cases hl
theorem sameBits_scal {x y : Value} (h : sameScal x y = some true) (n : Nat) : Instr.sameBits n x y = true := by
  unfold sameScal at h
  split at h
  · split at h
    · rename_i hk
      simp at h
      simp [Instr.sameBits, hk, h]
    · cases h
  · simp at h
    have : ∀ a b : ByteArray, a.toList = b.toList → a = b := by
      intro a b hab
      rw [ByteArray.toList_eq, ByteArray.toList_eq] at hab
      obtain ⟨⟨x⟩⟩ := a
      obtain ⟨⟨y⟩⟩ := b
      simp at hab
      rw [hab]
    rw [this _ _ h]
    cases n <;> simp [Instr.sameBits, beq_toListBytes]
  · simp at h
    simp [Instr.sameBits, h]
  · cases h
theorem sameBits_scals (n : Nat) : ∀ {x y : List Value}, sameScals x y = some true → x.length = y.length ∧ (x.zip y).all (fun (p : Value × Value) => Instr.sameBits n p.1 p.2) = true
  | [], [], _ => ⟨rfl, rfl⟩
  | a :: x, b :: y, h => by
    simp only [sameScals] at h
    cases e : sameScal a b with
    | none => rw [e] at h; cases h
    | some q =>
      rw [e] at h
      cases q with
      | false => cases h
      | true =>
        obtain ⟨h1, h2⟩ := sameBits_scals n h
        refine ⟨by simp [h1], ?_⟩
        simp only [List.zip_cons_cons, List.all_cons, sameBits_scal e n, Bool.true_and]
        exact h2
  | [], _ :: _, h => by simp [sameScals] at h
  | _ :: _, [], h => by simp [sameScals] at h
theorem sameAgg_scals {t : TypeId} {x y : List Value} {r : Bool} (h : sameAgg P t x y = some r) : sameScals x y = some r := by
  unfold sameAgg at h
  split at h <;> first | (split at h <;> first | exact h | cases h) | cases h
theorem pure_sameScals : ∀ {x y : List Value}, sameScals x y = some true → x = y
  | [], [], _ => rfl
  | a :: x, b :: y, h => by
    simp only [sameScals] at h
    cases e : sameScal a b with
    | none => rw [e] at h; cases h
    | some q =>
      rw [e] at h
      cases q with
      | false => cases h
      | true =>
        have := pure_sameScals h
        subst this
        congr 1
        unfold sameScal at e
        split at e
        · split at e
          · rename_i hk; simp at e; rw [hk, e]
          · cases e
        · simp at e
          have : ∀ a b : ByteArray, a.toList = b.toList → a = b := by
            intro a b hab
            rw [ByteArray.toList_eq, ByteArray.toList_eq] at hab
            obtain ⟨⟨x⟩⟩ := a
            obtain ⟨⟨y⟩⟩ := b
            simp at hab
            rw [hab]
          rw [this _ _ e]
        · simp at e; rw [e]
        · cases e
  | [], _ :: _, h => by simp [sameScals] at h
  | _ :: _, [], h => by simp [sameScals] at h
theorem sim_stays {kt : TypeId} {x y : Value} (h : keyEq P kt x y = some true) (w : World) : (Instr.keyThatStays y x).run P w = .ok x w ∧ x = y := by
  have hxy : x = y ∧ Instr.sameBits 10000 y x = true := by
    unfold keyEq at h
    split at h
    · rename_i a b
      have hs := sameAgg_scals h
      have he := pure_sameScals hs
      have hab : a = b := by apply Array.ext'; exact he
      subst hab
      obtain ⟨h1, h2⟩ := sameBits_scals 9999 hs
      refine ⟨rfl, ?_⟩
      have key : ∀ D, (a.toList.zip a.toList).all (fun (p : Value × Value) => Instr.sameBits D p.1 p.2) = true → Instr.sameBits (D + 1) (.agg a) (.agg a) = true := by
        intro D hD
        simp only [Instr.sameBits, beq_self_eq_true, Bool.true_and]
        exact hD
      exact key 9999 h2
    · split at h
      · have e : sameScals [x] [y] = some true := by simp [sameScals, h]
        have := pure_sameScals e
        simp at this
        subst this
        exact ⟨rfl, sameBits_scal h 10000⟩
      · cases h
  obtain ⟨rfl, hs⟩ := hxy
  exact ⟨by simp [Instr.keyThatStays, hs], rfl⟩
theorem EntsR.modify : ∀ {es : List Ent} {cs : List MapEntry} {v v' k' : Value}, EntsR β es cs → VR β v v' → ∀ (j : Nat) {c : MapEntry}, cs[j]? = some c → k' = c.key → EntsR β (es.modify j fun e => (e.1, v, e.2.2)) (cs.modify j fun e => { e with key := k', val := v' })
  | [], [], v, v', k', _, _, j, c, hc, _ => by simp at hc
  | e :: es, c0 :: cs, v, v', k', ⟨⟨h1, h2, h3⟩, hr⟩, hv, 0, c, hc, hk => by
    simp at hc
    subst hc hk
    exact ⟨⟨h1, hv, h3⟩, hr⟩
  | e :: es, c0 :: cs, v, v', k', ⟨h0, hr⟩, hv, j + 1, c, hc, hk => ⟨h0, EntsR.modify hr hv j (by simpa using hc) hk⟩
theorem EntsR.append : ∀ {es : List Ent} {cs : List MapEntry} {k v k' v' : Value} {b : Nat}, EntsR β es cs → VR β k k' → VR β v v' → EntsR β (es ++ [(k, v, b)]) (cs ++ [{ key := k', val := v', born := b }])
  | [], [], _, _, _, _, _, _, hk, hv => ⟨⟨hk, hv, rfl⟩, trivial⟩
  | _ :: _, _ :: _, _, _, _, _, _, ⟨h0, hr⟩, hk, hv => ⟨h0, hr.append hk hv⟩
theorem sim_setObj {D : Nat → Prop} {id : Nat} {p : Pl} {o' : AObj} {O : Obj} {O0 : Obj} (R : Rel β h w) (hp : β id = some p) (hl : live h[id]? = true) (hro : isRo h[id]? = false) (hb : w.heap[p.b]? = some O0) (hO0 : ∀ c e f, O0 ≠ .cells c e f)
    (ho : ObjAt β o' p { w with heap := w.heap.setIfInBounds p.b O }) :
    (setObj p.b O).run P w = .ok () { w with heap := w.heap.setIfInBounds p.b O } ∧ Rel β (h.set id o') { w with heap := w.heap.setIfInBounds p.b O } ∧ Ext D β h w β (h.set id o') { w with heap := w.heap.setIfInBounds p.b O } := by
  refine ⟨?_, R.update hp hl hro (fun b hb _ => by simp [Array.getElem?_setIfInBounds, Ne.symm hb]) ho, Ext.update hp hl hro (fun b hb => by simp [Array.getElem?_setIfInBounds, Ne.symm hb]) (by simp) rfl rfl rfl⟩
  cases O0 <;> first | exact absurd rfl (hO0 _ _ _) | simp [setObj, Sem.run, hb]
theorem sim_mapUpdate {D : Nat → Prop} {t : TypeId} {x k v x' k' v' : Value} {h' : AH} (hu : pMapUpd P t x k v h = some h') (R : Rel β h w) (hx : VR β x x') (hk : VR β k k') (hv : VR β v v') :
    ∃ w', (Instr.mapUpdate t x' k' v').run P w = .ok () w' ∧ Rel β h' w' ∧ Ext D β h w β h' w' := by
  unfold pMapUpd at hu
  split at hu
  · rename_i kt et id ht
    cases hx
    rename_i p hp
    split at hu
    · rename_i es ck hid
      split at hu
      · rename_i hko
        obtain ⟨ees, hb, hR⟩ := R.obj hp hid
        obtain ⟨hck, hd, hkp⟩ := sim_check hko false w
        obtain rfl := hk.pure_eq hkp
        have hlt := (Array.getElem?_eq_some_iff.1 hb).1
        cases hf : findL P kt k' es 0 with
        | none => rw [hf] at hu; cases hu
        | some r =>
          obtain ⟨r', hr', hrr⟩ := sim_find (w := w) hd hR hf
          rw [hf] at hu
          cases r with
          | none =>
            simp only [Option.some.injEq] at hu
            subst hu
            simp only at hrr
            subst hrr
            obtain ⟨s1, s2, s3⟩ := sim_setObj (P := P) (D := D) (O := .map (ees.push { key := k', val := v', born := ck }) (ck + 1)) (o' := .map (es ++ [(k', v, ck)]) (ck + 1)) R hp (by rw [hid]; rfl) (by rw [hid]; rfl) hb (by simp)
              ⟨ees.push { key := k', val := v', born := ck }, by simp [hlt], by rw [Array.toList_push]; exact hR.append hk hv⟩
            exact ⟨_, by simp [Instr.mapUpdate, run_underlying ht, run_getMap (P := P) hb, hck, hr', s1], s2, s3⟩
          | some jv =>
            obtain ⟨j, v0⟩ := jv
            simp only [Option.some.injEq] at hu
            subst hu
            obtain ⟨v0', rfl, hv0, e, c, he, hc, hck2, hke⟩ := hrr
            obtain ⟨hst, hke2⟩ := sim_stays hke w
            have hcj : ees[j]? = some c := by simpa using hc
            obtain ⟨s1, s2, s3⟩ := sim_setObj (P := P) (D := D) (O := .map (ees.modify j fun e => { e with key := k', val := v' }) ck) (o' := .map (es.modify j fun e => (e.1, v, e.2.2)) ck) R hp (by rw [hid]; rfl) (by rw [hid]; rfl) hb (by simp)
              ⟨ees.modify j fun e => { e with key := k', val := v' }, by simp [hlt], by rw [Array.toList_modify]; exact hR.modify hv j hc (by rw [hck2, hke2])⟩
            refine ⟨_, ?_, s2, s3⟩
            simp only [Instr.mapUpdate, Sem.run_bind, run_underlying ht, Result.andThen_ok, run_getMap (P := P) hb, hck, hr', hcj, Option.map_some, Option.getD_some, hck2, hst, s1]
      · cases hu
    · cases hu
  · cases hu
theorem sim_lenMap {t kt et : TypeId} {ts : Array TypeId} {ty : TypeId} {x x' v : Value} (ht0 : ts[0]? = some t) (ht : P.underlying t = some (.map kt et)) (hl : pLenMap x h = some v) (R : Rel β h w) (hx : VR β x x') : ∃ v', (Builtin.len_ ts ty #[x']).run P w = .ok v' w ∧ VR β v v' := by
  unfold pLenMap at hl
  cases he : entsOf x h with
  | none => rw [he] at hl; cases hl
  | some es =>
    rw [he] at hl
    obtain rfl := Option.some.inj hl
    rcases sim_ents he R hx with ⟨rfl, rfl⟩ | ⟨b, ees, ck, rfl, hb, hR⟩
    · exact ⟨_, by simp [Builtin.len_, ht0, run_underlying ht, goInt], .int _ _⟩
    · refine ⟨.int .i64 ees.size, by simp [Builtin.len_, ht0, run_underlying ht, goInt, run_getMap (P := P) hb], ?_⟩
      have := hR.length
      show VR β (.int .i64 es.length) _
      rw [this]
      simp
      exact .int _ _
end Go.AM
end

section
/- Go's model goes through maps and strings, makes slices and turns bytes to strings as the abstract machine does. Conditions: none. -/
namespace Go.AM
open Go
set_option linter.unusedSimpArgs false
variable {P : Program} {β : Bj} {h : AH} {w : World}
theorem run_getIt {b : Nat} {O : Obj} (hb : w.heap[b]? = some O) (hO : ∀ c e f, O ≠ .cells c e f) : (getObj b).run P w = .ok O w := by
  cases O <;> first | exact absurd rfl (hO _ _ _) | simp [getObj, Sem.run, hb]
theorem sim_range {D : Nat → Prop} {t : TypeId} {x x' : Value} {slot : Option Nat} {K : Value → AH → Prop} (hK : aRange P t x slot h K) (hx : VR β x x') (R : Rel β h w) (hs : SlotOK D β h slot) : ∃ v' w', (Instr.range t x').run P w = .ok v' w' ∧ SimV D β h w K v' w' := by
  unfold aRange at hK
  split at hK
  · rename_i s ht
    cases hx
    refine ⟨.pointer (some ⟨w.heap.size, 0, none⟩), { w with heap := w.heap.push (.stringIter s 0) }, by simp [Instr.range, run_underlying ht], ?_⟩
    obtain ⟨id, h', β', hk, hid, R', E⟩ := sim_new (O := .stringIter s 0) (p := ⟨w.heap.size, 0, 0, 0⟩) (w' := { w with heap := w.heap.push (.stringIter s 0) }) hK R hs rfl rfl rfl rfl rfl fun β' hb => ⟨rfl, by simp⟩
    exact ⟨_, h', β', hk, .ptr hid, R', E⟩
  · rename_i ht
    cases hx
    refine ⟨.pointer (some ⟨w.heap.size, 0, none⟩), { w with heap := w.heap.push (.mapIter none 0 #[] 0) }, by simp [Instr.range, run_underlying ht], ?_⟩
    obtain ⟨id, h', β', hk, hid, R', E⟩ := sim_new (O := .mapIter none 0 #[] 0) (p := ⟨w.heap.size, 0, 0, 0⟩) (w' := { w with heap := w.heap.push (.mapIter none 0 #[] 0) }) hK R hs rfl rfl rfl rfl rfl fun β' hb => ⟨rfl, none, by simp, .nilm⟩
    exact ⟨_, h', β', hk, .ptr hid, R', E⟩
  · rename_i m ht
    split at hK
    · rename_i es ck hm
      cases hx
      rename_i p hp
      obtain ⟨ees, hb, hR⟩ := R.obj hp hm
      refine ⟨.pointer (some ⟨w.heap.size, 0, none⟩), { w with heap := w.heap.push (.mapIter (some p.b) ck #[] ck) }, by simp [Instr.range, run_underlying ht, run_getMap (P := P) hb], ?_⟩
      obtain ⟨id, h', β', hk, hid, R', E⟩ := sim_new (O := .mapIter (some p.b) ck #[] ck) (p := ⟨w.heap.size, 0, 0, 0⟩) (w' := { w with heap := w.heap.push (.mapIter (some p.b) ck #[] ck) }) hK R hs rfl rfl rfl rfl rfl
        fun β' hbl => ⟨rfl, some p.b, by simp, .map (hbl _ _ hp)⟩
      exact ⟨_, h', β', hk, .ptr hid, R', E⟩
    · exact hK.elim
  · exact hK.elim
theorem VR.tup1 {a a' : Value} (h : VR β a a') : VR β (.tuple #[a]) (.tuple #[a']) := .tuple rfl fun i hi => by
  have : i = 0 := by simp at hi; omega
  subst this
  exact h
theorem VR.tup2 {a b a' b' : Value} (h : VR β a a') (k : VR β b b') : VR β (.tuple #[a, b]) (.tuple #[a', b']) := .tuple rfl fun i hi => by
  have : i = 0 ∨ i = 1 := by simp at hi; omega
  rcases this with rfl | rfl
  · exact h
  · exact k
theorem VR.tup3 {a b c a' b' c' : Value} (h : VR β a a') (k : VR β b b') (l : VR β c c') : VR β (.tuple #[a, b, c]) (.tuple #[a', b', c']) := .tuple rfl fun i hi => by
  have : i = 0 ∨ i = 1 ∨ i = 2 := by simp at hi; omega
  rcases this with rfl | rfl | rfl
  · exact h
  · exact k
  · exact l
theorem over_R : VR β over over := VR.tup1 (.bool false)
theorem EntsR.filter (f : Nat → Bool) : ∀ {es : List Ent} {cs : List MapEntry}, EntsR β es cs → EntsR β (es.filter fun e => f e.2.2) (cs.filter fun c => f c.born)
  | [], [], _ => trivial
  | e :: es, c :: cs, ⟨h0, hr⟩ => by
    have hb := h0.2.2
    simp only [List.filter_cons, hb]
    split
    · exact ⟨h0, hr.filter f⟩
    · exact hr.filter f
theorem EntsR.app : ∀ {es : List Ent} {cs : List MapEntry} {fs : List Ent} {ds : List MapEntry}, EntsR β es cs → EntsR β fs ds → EntsR β (es ++ fs) (cs ++ ds)
  | [], [], _, _, _, k => k
  | _ :: _, _ :: _, _, _, ⟨h0, hr⟩, k => ⟨h0, hr.app k⟩
theorem EntsR.get : ∀ {es : List Ent} {cs : List MapEntry}, EntsR β es cs → ∀ {i : Nat} {c : MapEntry}, cs[i]? = some c → ∃ e, es[i]? = some e ∧ EntR β e c
  | [], [], _, i, c, hc => by simp at hc
  | e :: es, d :: cs, ⟨h0, hr⟩, 0, c, hc => by
    simp at hc; subst hc
    exact ⟨e, by simp, h0⟩
  | e :: es, d :: cs, ⟨h0, hr⟩, i + 1, c, hc => by
    obtain ⟨x, h1, h2⟩ := hr.get (i := i) (by simpa using hc)
    exact ⟨x, by simpa using h1, h2⟩
theorem EntsR.isEmpty {es : List Ent} {cs : List MapEntry} (h : EntsR β es cs) : es.isEmpty = cs.isEmpty := by
  cases es <;> cases cs <;> first | rfl | cases h
theorem EntsR.all (f : Nat → Bool) : ∀ {es : List Ent} {cs : List MapEntry}, EntsR β es cs → (es.all fun e => f e.2.2) = (cs.all fun c => f c.born)
  | [], [], _ => rfl
  | e :: es, c :: cs, ⟨h0, hr⟩ => by simp only [List.all_cons, h0.2.2, hr.all f]
theorem EntsR.find (f : Nat → Bool) : ∀ {es : List Ent} {cs : List MapEntry} {e : Ent}, EntsR β es cs → (es.find? fun e => f e.2.2) = some e → ∃ c, (cs.find? fun c => f c.born) = some c ∧ EntR β e c
  | [], [], _, _, h => by simp at h
  | e0 :: es, c :: cs, e, ⟨h0, hr⟩, h => by
    rw [List.find?_cons] at h ⊢
    rw [← h0.2.2]
    split at h
    · simp at h; subst h
      exact ⟨c, by simp [*], h0⟩
    · obtain ⟨d, h1, h2⟩ := hr.find f h
      exact ⟨d, by simp [*], h2⟩
def candsC (es : Array MapEntry) (since : Nat) (seen : List Nat) : Array (Option MapEntry) :=
  (if ((es.filter fun e => !seen.toArray.contains e.born).filter (·.born < since)).isEmpty then #[none] else #[]) ++
    (((es.filter fun e => !seen.toArray.contains e.born).filter (·.born < since)) ++ ((es.filter fun e => !seen.toArray.contains e.born).filter (·.born ≥ since))).map some
def CandR (β : Bj) (e : Option Ent) (c : Option MapEntry) : Prop :=
  match c with
  | none => e = none
  | some c => ∃ e', e = some e' ∧ EntR β e' c
theorem cands_R {es : List Ent} {ees : Array MapEntry} (hR : EntsR β es ees.toList) (since : Nat) (seen : List Nat) {i : Nat} {c : Option MapEntry} (hc : (candsC ees since seen)[i]? = some c) :
    ∃ e, e ∈ cands es since seen ∧ CandR β e c := by
  have h1 := hR.filter (fun b => !seen.contains b)
  have hold := h1.filter (fun b => decide (b < since))
  have hnew := h1.filter (fun b => decide (b ≥ since))
  have hL : (candsC ees since seen).toList = (if ((ees.toList.filter fun c => !seen.contains c.born).filter fun c => decide (c.born < since)).isEmpty then [none] else []) ++
      (((ees.toList.filter fun c => !seen.contains c.born).filter fun c => decide (c.born < since)) ++ ((ees.toList.filter fun c => !seen.contains c.born).filter fun c => decide (c.born ≥ since))).map some := by
    unfold candsC
    have e0 : (ees.filter fun e => !seen.toArray.contains e.born).toList = ees.toList.filter fun c => !seen.contains c.born := by simp
    have e1 : (((ees.filter fun e => !seen.toArray.contains e.born).filter (·.born < since)).isEmpty) = ((ees.toList.filter fun c => !seen.contains c.born).filter fun c => decide (c.born < since)).isEmpty := by
      rw [← Array.isEmpty_toList, Array.toList_filter, e0]
    rw [e1]
    split <;> simp
  have hc' : (candsC ees since seen).toList[i]? = some c := by simpa using hc
  rw [hL] at hc'
  have hmem := List.mem_of_getElem? hc'
  unfold cands
  rcases List.mem_append.1 hmem with hm | hm
  · split at hm
    · rename_i he
      simp at hm
      subst hm
      refine ⟨none, ?_, rfl⟩
      rw [hold.isEmpty, he]
      simp
    · cases hm
  · obtain ⟨d, hd, rfl⟩ := List.mem_map.1 hm
    obtain ⟨k, hk⟩ := List.getElem?_of_mem hd
    obtain ⟨e, he, hER⟩ := (hold.app hnew).get hk
    exact ⟨some e, List.mem_append.2 (.inr (List.mem_map.2 ⟨e, List.mem_of_getElem? he, rfl⟩)), e, rfl, hER⟩
theorem candsC_pos {es : Array MapEntry} {since : Nat} {seen : List Nat} : 0 < (candsC es since seen).size := by
  unfold candsC
  generalize (es.filter fun e => !seen.toArray.contains e.born).filter (·.born < since) = A
  generalize (es.filter fun e => !seen.toArray.contains e.born).filter (·.born ≥ since) = B
  rw [Array.size_append, Array.size_map, Array.size_append]
  cases h : A.isEmpty with
  | true => simp; omega
  | false =>
    have : 0 < A.size := by
      rcases Nat.eq_zero_or_pos A.size with e | e
      · rw [Array.isEmpty, e] at h; cases h
      · exact e
    omega
theorem Rel.draw {k : Nat} (R : Rel β h w) : Rel β h { w with drawn := k } := R.heap rfl
theorem Ext.draw {D : Nat → Prop} {k : Nat} {β' : Bj} {h' : AH} {w' : World} (E : Ext D β h { w with drawn := k } β' h' w') : Ext D β h w β' h' w' :=
  { ble := E.ble, dom := E.dom, len := E.len, afr := E.afr, size := E.size, tape := E.tape, os := E.os, out := E.out, cfr := E.cfr, wb := E.wb }
theorem Ext.drawn {D : Nat → Prop} {k : Nat} : Ext D β h w β h { w with drawn := k } := Ext.draw (k := k) (Ext.refl _ _ _ _)
theorem run_choose_lt (q : Nat) (hq : 0 < q) : ∃ i k, (choose (.mapNext q)).run P w = .ok i { w with drawn := k } ∧ i < q := by
  by_cases h1 : q ≤ 1
  · exact ⟨0, w.drawn, by simp [choose, Sem.run, Question.forced, h1], by omega⟩
  · exact ⟨w.tape w.drawn (.mapNext q) % q, w.drawn + 1, by simp [choose, Sem.run, Question.forced, h1, Question.cut], Nat.mod_lt _ hq⟩
theorem run_next_map {b qb since last ck : Nat} {seen : List Nat} {ees : Array MapEntry} {ty : TypeId} (hb : w.heap[b]? = some (.mapIter (some qb) since seen.toArray last)) (hbm : w.heap[qb]? = some (.map ees ck))
    (hgone : (!seen.toArray.isEmpty && !ees.isEmpty && ees.all (·.born ≥ last)) = false) :
    (Instr.next (.pointer (some ⟨b, 0, none⟩)) false ty).run P w = ((choose (.mapNext (candsC ees since seen).size)).run P w).andThen fun i w1 => (match (candsC ees since seen)[i]? with
      | some (some e) => (do setObj b (.mapIter (some qb) since (seen.toArray.push e.born) ck); pure (.tuple #[.bool true, e.key, e.val]) : Sem Value)
      | some none => pure over
      | none => stuck "Next: no such candidate").run P w1 := by
  simp only [Instr.next, Sem.run_bind, run_getIt (P := P) hb (by simp), Result.andThen_ok, run_getIt (P := P) hbm (by simp), hgone, Bool.false_eq_true, if_false]
  rfl
theorem sim_next {D : Nat → Prop} {it it' : Value} {isS : Bool} {ty : TypeId} {K : Value → AH → Prop} (hK : aNext it isS h K) (hx : VR β it it') (R : Rel β h w) : ∃ v' w', (Instr.next it' isS ty).run P w = .ok v' w' ∧ SimV D β h w K v' w' := by
  unfold aNext at hK
  split at hK
  · rename_i r
    obtain ⟨p, hp, rfl⟩ := hx.ptr_inv
    split at hK
    · rename_i s pos hr
      obtain ⟨hsh, hb⟩ := R.obj hp hr
      split at hK
      · rename_i hpos
        have hlt := (Array.getElem?_eq_some_iff.1 hb).1
        obtain ⟨s1, s2, s3⟩ := sim_setObj (P := P) (D := D) (O := .stringIter s (pos + (Utf8.decode s pos).2)) (o' := .strIter s (pos + (Utf8.decode s pos).2)) R hp (by rw [hr]; rfl) (by rw [hr]; rfl) hb (by simp) ⟨hsh, by simp [hlt]⟩
        refine ⟨_, _, ?_, _, _, β, hK, VR.tup3 (.bool true) (.int _ _) (.int _ _), s2, s3⟩
        simp [Instr.next, hsh, run_getIt (P := P) hb (by simp), hpos, s1, goInt]
      · rename_i hpos
        exact ⟨over, w, by simp [Instr.next, hsh, run_getIt (P := P) hb (by simp), hpos, over], _, h, β, hK, over_R, R, Ext.refl _ _ _ _⟩
    · rename_i s1 s2 s3 hr
      obtain ⟨hsh, m', hb, hm⟩ := R.obj hp hr
      cases hm
      exact ⟨over, w, by simp [Instr.next, hsh, run_getIt (P := P) hb (by simp), over], _, h, β, hK, over_R, R, Ext.refl _ _ _ _⟩
    · rename_i m since seen last hr
      obtain ⟨hsh, m', hb, hm⟩ := R.obj hp hr
      cases hm
      rename_i q hq
      split at hK
      · rename_i es ck hmo
        obtain ⟨hg, hall⟩ := hK
        obtain ⟨ees, hbm, hR⟩ := R.obj hq hmo
        have hgone : (!seen.toArray.isEmpty && !ees.isEmpty && ees.all (·.born ≥ last)) = false := by
          unfold gone at hg
          have e1 := hR.all (fun b => decide (b ≥ last))
          have e2 := hR.isEmpty
          rw [e1, e2] at hg
          rw [← hg]
          rw [← Array.all_toList, ← Array.isEmpty_toList (xs := ees)]
          congr 2
          cases seen <;> rfl
        obtain ⟨i, k, hch, hi⟩ := run_choose_lt (P := P) (w := w) (candsC ees since seen).size candsC_pos
        obtain ⟨c, hci⟩ : ∃ c, (candsC ees since seen)[i]? = some c := ⟨_, Array.getElem?_eq_getElem hi⟩
        obtain ⟨e, hemem, he⟩ := cands_R hR since seen hci
        have hKe := hall e hemem
        have hrun1 := run_next_map (P := P) (w := w) (ty := ty) hb hbm hgone
        rw [hch] at hrun1
        simp only [Result.andThen_ok, hci] at hrun1
        have hsh0 : p.sh + 0 = 0 := by omega
        rw [hsh0]
        cases c with
        | none =>
          have he' : e = none := he
          subst he'
          exact ⟨over, { w with drawn := k }, hrun1, _, h, β, hKe, over_R, R.draw, Ext.drawn⟩
        | some c =>
          obtain ⟨e', rfl, hER⟩ := he
          simp only at hKe
          have hlt := (Array.getElem?_eq_some_iff.1 hb).1
          obtain ⟨t1, t2, t3⟩ := sim_setObj (P := P) (w := { w with drawn := k }) (D := D) (O := .mapIter (some q.b) since (seen.toArray.push c.born) ck) (o' := .mapIter (some m) since (seen ++ [e'.2.2]) ck) R.draw hp (by rw [hr]; rfl) (by rw [hr]; rfl) hb (by simp)
            ⟨hsh, some q.b, by simp [hlt, hER.2.2], .map hq⟩
          refine ⟨_, _, ?_, _, _, β, hKe, VR.tup3 (.bool true) hER.1 hER.2.1, t2, Ext.draw t3⟩
          rw [hrun1]
          simp only [Sem.run_bind, t1, Result.andThen_ok, Sem.run_pure]
      · exact hK.elim
    · exact hK.elim
  · exact hK.elim
theorem sim_entry {it it' v : Value} (he : pEntry it h = some v) (hx : VR β it it') (R : Rel β h w) : ∃ v', (Instr.entry it').run P w = .ok v' w ∧ VR β v v' := by
  unfold pEntry at he
  split at he
  · rename_i r
    obtain ⟨p, hp, rfl⟩ := hx.ptr_inv
    split at he
    · rename_i m since seen stepped hr
      obtain ⟨hsh, m', hb, hm⟩ := R.obj hp hr
      cases hm
      rename_i q hq
      split at he
      · rename_i stamp es ck hst hmo
        obtain ⟨ees, hbm, hR⟩ := R.obj hq hmo
        split at he
        · rename_i hck
          cases hf : es.find? (fun e => e.2.2 == stamp) with
          | none => rw [hf] at he; cases he
          | some e =>
            rw [hf] at he
            obtain rfl := Option.some.inj he
            obtain ⟨c, hc1, hc2⟩ := hR.find (fun b => b == stamp) hf
            have hb2 : seen.toArray.back? = some stamp := by simpa using hst
            have hf2 : ees.find? (fun e => e.born == stamp) = some c := by rw [← Array.find?_toList]; exact hc1
            refine ⟨.tuple #[c.key, c.val], ?_, VR.tup2 hc2.1 hc2.2.1⟩
            simp only [Instr.entry, hsh, Nat.zero_add, Sem.run_bind, run_getIt (P := P) hb (by simp), Result.andThen_ok, hb2, run_getIt (P := P) hbm (by simp), hck, hf2]
            simp
        · cases he
      · cases he
    · cases he
  · cases he
theorem sim_makeSlice {D : Nat → Prop} {t : TypeId} {len cap len' cap' : Value} {slot : Option Nat} {K : Value → AH → Prop} (hK : aMakeSlice P t len cap slot h K) (hl : VR β len len') (hc : VR β cap cap') (R : Rel β h w) (hs : SlotOK D β h slot) :
    ∃ v' w', (Instr.makeSlice t len' cap').run P w = .ok v' w' ∧ SimV D β h w K v' w' := by
  obtain ⟨r, hr, hK⟩ := optW_elim hK
  unfold pMakeSlice at hr
  split at hr
  · rename_i e l c ht
    obtain rfl := hl.int_inv
    obtain rfl := hc.int_inv
    split at hr
    · rename_i i z hi hz
      split at hr
      · rename_i hcond
        obtain ⟨c1, c2, c3, c4, c5⟩ := hcond
        obtain rfl := Option.some.inj hr
        obtain ⟨zv, hrun, _, hzc, hcr, h1, _⟩ := zeroL_spec (β := β) w hz
        have hc40 : c ≤ 1099511627776 := c3
        have hw1 : IntKind.i64.wrap l = l := by unfold IntKind.wrap; simp [IntKind.bits]; omega
        have hw2 : IntKind.i64.wrap c = c := by unfold IntKind.wrap; simp [IntKind.bits]; omega
        have hb : (i.bytes : Int) * c ≤ 256 * c := Int.mul_le_mul_of_nonneg_right (by omega) (by omega)
        have hb2 : ¬ ((281474976710656 : Int) < i.bytes * c) := by omega
        have hcl : ¬ c < 0 := by omega
        have hll : ¬ l < 0 := by omega
        have hlc : ¬ c < l := by omega
        have hzs : zv.cells.size = i.size := by rw [hzc]; simpa using c5
        have hrep : CellsR β (repL z c.toNat) ((Array.range (c.toNat * i.size)).map ((if c.toNat * i.size = 0 then #[] else zv.cells)[· % (if c.toNat * i.size = 0 then #[] else zv.cells).size]!)) := by
          by_cases h0 : c.toNat * i.size = 0
          · simp only [h0, if_true]
            refine ⟨by simp [repL_length, c5, h0], fun j hj => ?_⟩
            rw [repL_length, c5, h0] at hj
            omega
          · simp only [h0, if_false]
            exact rep_R hcr c.toNat (c.toNat * i.size) (by rw [c5])
        refine ⟨.slice (some ⟨w.heap.size, 0, none⟩) l.toNat c.toNat, { w with heap := w.heap.push (.cells ((Array.range (c.toNat * i.size)).map ((if c.toNat * i.size = 0 then #[] else zv.cells)[· % (if c.toNat * i.size = 0 then #[] else zv.cells).size]!)) e) }, ?_, ?_⟩
        · by_cases h0 : c.toNat * i.size = 0
          · simp [Instr.makeSlice, run_underlying ht, asInt, asIntOf, run_info w hi, hw1, hw2, hb2, hcl, hll, hlc, run_size w hi, h0, newRow]
          · simp [Instr.makeSlice, run_underlying ht, asInt, asIntOf, run_info w hi, hw1, hw2, hb2, hcl, hll, hlc, run_size w hi, h0, newRow, hrun]
        · obtain ⟨id, h', β', hk, hid, R', E⟩ := sim_newRow (e := e) (w' := { w with heap := w.heap.push (.cells ((Array.range (c.toNat * i.size)).map ((if c.toNat * i.size = 0 then #[] else zv.cells)[· % (if c.toNat * i.size = 0 then #[] else zv.cells).size]!)) e) }) 0 hK R hs rfl rfl rfl rfl (by rw [hrep.1]; exact Nat.le_refl _) hrep.2 (fun v hv => h1 v (mem_repL hv))
          have hco : c.toNat < openCap := by have : (openCap : Int) = 18446744073709551616 := rfl; omega
          exact ⟨_, h', β', hk, .slx hid (show l.toNat ≤ c.toNat by omega) hco (.inr (by simp)), R', E⟩
      · cases hr
    · cases hr
  · cases hr
theorem sim_appZ {D : Nat → Prop} {t tx ty e : TypeId} {k : IntKind} {i : TypeInfo} {z : List Value} {b b' : Value} {n : Int} {K : Value → AH → Prop} (ht : P.underlying t = some (.slice e)) (hk : P.underlying tx = some (.int k)) (hi : P.info? e = some i) (hz : zeroL P e = some z) (hpos : 0 < i.size) (hby : i.bytes ≤ 64)
    (hzl : z.length = i.size) (hK : appZ i.size z b n h K) (hb : VR β b b') (R : Rel β h w) (hn : ∀ id, D id → id < h.length) :
    ∃ v' w', (Builtin.append_ #[t, tx] ty #[b', .int .i64 n]).run P w = .ok v' w' ∧ SimV D β h w K v' w' := by
  unfold appZ at hK
  split at hK
  · cases hb
    split at hK
    · rename_i h0
      subst h0
      refine ⟨.slice none 0 0, w, ?_, _, h, β, hK, .nils, R, Ext.refl _ _ _ _⟩
      have hw1 : IntKind.i64.wrap 0 = 0 := by decide
      simp [Builtin.append_, run_underlying ht, run_underlying hk, sizeOf, typeInfo, hi, asInt, asIntOf, hw1]
    · split at hK
      · rename_i h0 h1
        obtain ⟨h1, h2⟩ := h1
        have h2' : n < 1099511627776 := h2
        obtain ⟨m, rfl⟩ : ∃ m : Nat, n = (m : Int) := ⟨n.toNat, by omega⟩
        simp only [Int.toNat_natCast] at hK
        obtain ⟨zv, hrun, _, hzc, hcr, hone, _⟩ := zeroL_spec (β := β) w hz
        have hinf : i.zero = some zv := by
          have h2 := hrun
          simp [zeroValue, run_info w hi] at h2
          split at h2
          · rename_i v hv
            simp at h2
            rw [hv, h2]
          · simp at h2
        have hzs : zv.cells.size = i.size := by rw [hzc]; simpa using hzl
        have hw1 : IntKind.i64.wrap (m : Int) = (m : Int) := by unfold IntKind.wrap; simp [IntKind.bits]; omega
        have hfit := fits64 (need := m) (cap' := 0) (bytes := i.bytes) (by omega) (by unfold room40; omega) hby
        have hb1 : (m : Int) * (i.bytes : Int) ≤ (m : Int) * 64 := Int.mul_le_mul_of_nonneg_left (by omega) (by omega)
        have hb2 : ¬ ((281474976710656 : Int) < (m : Int) * i.bytes) := by omega
        have hneg : ¬ (m : Int) < 0 := by omega
        have hn0 : ¬ m = 0 := by omega
        have hs0 : ¬ i.size = 0 := by omega
        have h63 : ¬ ((9223372036854775807 : Int) < (m : Int)) := by omega
        have h48' : ¬ (281474976710656 < Builtin.nextslicecap m 0 * i.bytes) := by omega
        have hrep : CellsR β (repL z m) (Builtin.zeroCells zv.cells m) := by
          unfold Builtin.zeroCells
          exact rep_R hcr m (m * zv.cells.size) (by rw [hzs, hzl])
        have hsg := sim_grow (D := D) (e := e) (z := zv.cells) (K := K) (old := []) (news := repL z m) (olds := []) (us := (Builtin.zeroCells zv.cells m).toList) (need := m) (cap' := 0) hzs R ⟨rfl, fun j hj => by simp at hj⟩ (by simpa using hrep) (fun v hv => by cases hv) (fun v hv => hone v (mem_repL hv))
          (by rw [repL_length, hzl]; simp) (by unfold room40; omega) (slot := none) ⟨hn, fun s h => by cases h⟩ (by simpa [newW] using hK)
        refine ⟨_, _, ?_, hsg⟩
        simp [Builtin.append_, run_underlying ht, run_underlying hk, sizeOf, typeInfo, zeroValue, hi, hinf, asInt, asIntOf, hw1, hb2, hneg, hn0, hs0, h63, h48', Question.forced, newRow, grownCap, Builtin.firstCells]
        intro hms
        exact absurd hms (Nat.mul_ne_zero hn0 hs0)
      · exact hK.elim
  · exact hK.elim
theorem sim_strBytes {D : Nat → Prop} {e : TypeId} {s : ByteArray} {slot : Option Nat} {K : Value → AH → Prop} (hK : aStrBytes s slot h K) (R : Rel β h w) (hs : SlotOK D β h slot) :
    ∃ v' w', (Conv.stringToBytes e s).run P w = .ok v' w' ∧ SimV D β h w K v' w' := by
  obtain ⟨hsz, hK⟩ := hK
  have hb := grownCap_bounds w s.size 0 e (Nat.lt_trans hsz (by decide))
  let C := (s.data.map fun b => Value.int .u8 b.toNat) ++ Array.replicate (grownCap w s.size 0 e - s.size) (.int .u8 0)
  have hC : C.size = grownCap w s.size 0 e := by
    simp only [C, Array.size_append, Array.size_map, Array.size_replicate]
    have : s.data.size = s.size := rfl
    omega
  let w1 : World := { w.drew with heap := w.heap.push (.cells C e (C.size, C.size + 1)) }
  have hrun : (Conv.stringToBytes e s).run P w = .ok (.slice (some ⟨w.heap.size, 0, none⟩) s.size (grownCap w s.size 0 e)) w1 := by
    have hq : (Question.appendCap s.size 0 e).forced = false := rfl
    simp only [Conv.stringToBytes, Sem.run_bind, run_choose, hq, Bool.false_eq_true, if_false, Result.andThen_ok, newRow, run_newObj, Sem.run_pure, markStringish, run_shape]
    have hsh : ∀ (w2 : World), w2.heap = w.heap.push (.cells C e (0, 0)) → w2.shape? w.heap.size = some (e, C.size) := by
      intro w2 h2
      simp [World.shape?, h2]
    change ((Sem.run P (match World.shape? { w.drew with heap := w.heap.push (.cells C e) } w.heap.size with
      | some (_, n) => freeze { block := w.heap.size, off := n } 1
      | x => pure ()) { w.drew with heap := w.heap.push (.cells C e) }).andThen _) = _
    rw [hsh _ rfl]
    simp only [run_freeze, Result.andThen_ok]
    have hf : World.freeze { w.drew with heap := w.heap.push (.cells C e) } ⟨w.heap.size, C.size, none⟩ 1 = w1 := by
      simp only [World.freeze, w1]
      rw [if_neg (by omega)]
      congr 1
      apply Array.ext_getElem?
      intro i
      simp only [Array.getElem?_modify, Array.getElem?_push]
      by_cases hi : i = w.heap.size
      · subst hi; simp
      · simp [hi, Ne.symm hi]
    rw [hf]
    rfl
  refine ⟨_, w1, hrun, ?_⟩
  obtain ⟨id, h', β', hk, hid, R', E⟩ := sim_new (O := .cells C e (C.size, C.size + 1)) (p := ⟨w.heap.size, 0, C.size, 1⟩) (w' := w1) hK R hs rfl rfl rfl rfl rfl fun β' hbl =>
    ⟨C, e, (C.size, C.size + 1), by simp [w1], by
      simp only [Nat.zero_add]
      rw [hC]
      simp [bytesL]
      exact hb.1, Nat.le_refl _, fun i hi => by
        have hi' : i < s.data.size := by simpa [bytesL] using hi
        have e1 : C.getD (0 + i) undef = .int .u8 (s.data[i]).toNat := by
          rw [Nat.zero_add, agetD]
          simp only [C]
          rw [Array.getElem?_append_left (by simpa using hi'), Array.getElem?_map, Array.getElem?_eq_getElem hi']
          rfl
        have e2 : (bytesL s).getD i undef = .int .u8 (s.data[i]).toNat := by
          rw [lgetD, bytesL, List.getElem?_map, Array.getElem?_toList, Array.getElem?_eq_getElem hi']
          rfl
        rw [e1, e2]
        exact .int _ _, (fun hw => by cases hw), bytesL_one s⟩
  exact ⟨_, h', β', hk, .slo (p := ⟨w.heap.size, 0, C.size, 1⟩) hid hb.1 (Nat.lt_trans hb.2 (by decide)) (by simp only [hC]; omega) (.inr (by simp)), R', E⟩
theorem bytesOf_R (f : Value → ByteArray → Sem (ForInStep ByteArray)) (hf : ∀ n s, f (.int .u8 n) s = pure (ForInStep.yield (s.push (UInt8.ofNat n.toNat)))) : ∀ {l : List Value} {bs : List UInt8}, bytesOf l = some bs → ∀ (cs : List Value), (∀ i, i < l.length → VR β (l.getD i undef) (cs.getD i undef)) → cs.length = l.length → ∀ (acc : ByteArray) (w : World),
    (forIn (m := Sem) cs acc f).run P w = .ok ⟨acc.data ++ bs.toArray⟩ w
  | [], bs, h, cs, hR, hl, acc, w => by
    simp only [bytesOf, Option.some.injEq] at h
    subst h
    have : cs = [] := List.eq_nil_of_length_eq_zero (by simpa using hl)
    subst this
    simp
  | v :: r, bs, h, cs, hR, hl, acc, w => by
    cases cs with
    | nil => simp at hl
    | cons c cs =>
      unfold bytesOf at h
      split at h
      · rename_i heq; cases heq
      · rename_i n r' heq
        cases heq
        split at h
        · rename_i l hl0
          obtain rfl := Option.some.inj h
          have h0 := hR 0 (by simp)
          simp only [List.getD_cons_zero] at h0
          cases h0
          have ih := bytesOf_R f hf hl0 cs (fun i hi => by have := hR (i + 1) (by simpa using hi); simpa using this) (by simpa using hl) (acc.push (UInt8.ofNat n.toNat)) w
          simp only [List.forIn_cons, hf, Sem.run_bind, Sem.run_pure, Result.andThen_ok]
          rw [ih]
          congr 2
          simp [ByteArray.push]
        · cases h
      · cases h
theorem sim_bytesStr {x x' v : Value} (hb : pBytesStr x h = some v) (hx : VR β x x') (R : Rel β h w) : ∃ v', (Conv.bytesToString x').run P w = .ok v' w ∧ VR β v v' := by
  unfold pBytesStr at hb
  split at hb
  · cases hx
    obtain rfl := Option.some.inj hb
    exact ⟨.string ⟨#[]⟩, by simp [Conv.bytesToString]; rfl, .str _⟩
  · rename_i id off len cap
    obtain ⟨p, a', cap', hp, rfl, ha, hlc, hco, _, _⟩ := hx.slice_inv
    split at hb
    · rename_i c wr hrow
      split at hb
      · rename_i hle
        obtain rfl := ha.resolve_left (by omega)
        cases hbs : bytesOf ((c.drop off).take len) with
        | none => rw [hbs] at hb; cases hb
        | some bs =>
          rw [hbs] at hb
          obtain rfl := Option.some.inj hb
          obtain ⟨cc, e, fr, hbk, h1, h2, h3, h4, h5⟩ := R.obj hp hrow
          have hl := run_loadSeg (P := P) (w := w) hbk (show p.sh + off + len ≤ cc.size by omega)
          have hcr := seg_R (β := β) h3 hle.2
          have hlen : (segC cc (p.sh + off) len).length = ((c.drop off).take len).length := by have := hcr.1; simpa using this
          have := fun f hf => bytesOf_R (P := P) (β := β) f hf hbs (segC cc (p.sh + off) len) (fun i hi => by have := hcr.2 i hi; rwa [← toList_getD] at this) hlen ByteArray.empty w
          refine ⟨_, ?_, .str _⟩
          simp only [Conv.bytesToString, Sem.run_bind, hl, Result.andThen_ok]
          rw [← Array.forIn_toList]
          rw [this _ (fun n s => rfl)]
          simp
      · split at hb
        · rename_i h0
          obtain rfl := Option.some.inj hb
          subst h0
          refine ⟨.string ⟨#[]⟩, ?_, .str _⟩
          have : (loadCells a' 0).run P w = .ok #[] w := by have := run_loadCells_list (P := P) w a' [] (by simp); simpa using this
          simp [Conv.bytesToString, this]
          rfl
        · cases hb
    · cases hb
  · cases hb
end Go.AM
end

section
/- The one function of Go's library that the abstract machine takes at its word: strings.Join (the kit's contract). Conditions: none. -/
namespace Go.AM
open Go Go.Proofs Go.Shelf
def strV : Value → Option ByteArray
  | .string s => some s
  | _ => none
def strVs : List Value → Option (List ByteArray)
  | [] => some []
  | v :: r => match strV v, strVs r with
    | some s, some ss => some (s :: ss)
    | _, _ => none
def strsL (v : Value) (look : Nat → Option AObj) : Option (List ByteArray) :=
  match v with
  | .slice a 0 _ => match a with
    | none => some []
    | some ⟨_, _, none⟩ => some []
    | _ => none
  | .slice (some ⟨id, off, none⟩) (n + 1) _ => match look id with
    | some (.row c _) => cond (Nat.ble (off + (n + 1)) c.length) (strVs ((c.drop off).take (n + 1))) none
    | _ => none
  | _ => none
def joinS (xs : List ByteArray) (sep : ByteArray) : ByteArray := ⟨(Lib.join (xs.map (·.data.toList)) sep.data.toList).toArray⟩
def isJoin (P : Program) (f : FuncId) : Prop := ∃ ρ : Ren, ρ.f 156 = f ∧ Lays.n156 P ρ ∧ Builder.Extra P ρ
def sjoinW (P : Program) (f : FuncId) (args : List Value) (h : AH) (K : Value → AH → Prop) : Prop :=
  isJoin P f ∧ ∃ v sep xs, args = [v, .string sep] ∧ strsL v (fun i => h[i]?) = some xs ∧ xs.length ≤ 1000000 ∧ (Lib.join (xs.map (·.data.toList)) sep.data.toList).length ≤ 1000000 ∧ K (.string (joinS xs sep)) h
def isPure (P : Program) (f : FuncId) (args : List Value) (R : Value → Prop) : Prop :=
  (∃ fn c, P.funcs[f]? = some fn ∧ fn.body = some c ∧ (fn.name == "runtime.NumGoroutine") = false) ∧ (∀ a ∈ args, pureS a = true) ∧ (∃ v, R v) ∧ (∀ v, R v → pureS v = true) ∧
    ∀ w, Calls P f args.toArray w fun e w' => (∃ v, e = .returned v ∧ R v) ∧ Go.RowKit.Below w.heap.size w w'
def pureW (P : Program) (f : FuncId) (args : List Value) (h : AH) (K : Value → AH → Prop) : Prop := ∃ R, isPure P f args R ∧ ∀ v, R v → K v h
def libW (P : Program) (f : FuncId) (args : List Value) (h : AH) (K : Value → AH → Prop) : Prop := sjoinW P f args h K ∨ pureW P f args h K
theorem libW_mono {P : Program} {f : FuncId} {args : List Value} {h : AH} {K K' : Value → AH → Prop} (hm : ∀ v h, K v h → K' v h) (hk : libW P f args h K) : libW P f args h K' := by
  rcases hk with ⟨h1, v, sep, xs, h2, h3, h4, h5, h6⟩ | ⟨R, h1, h2⟩
  · exact .inl ⟨h1, v, sep, xs, h2, h3, h4, h5, hm _ _ h6⟩
  · exact .inr ⟨R, h1, fun v hv => hm _ _ (h2 v hv)⟩
theorem strsL_set {v : Value} {h : AH} {s : Nat} {ob : AObj} {xs : List ByteArray} (hd : h[s]? = some .dead) (hx : strsL v (fun i => h[i]?) = some xs) : strsL v (fun i => (h.set s ob)[i]?) = some xs := by
  unfold strsL at hx ⊢
  split at hx
  · exact hx
  · rename_i id off n _
    dsimp only at hx ⊢
    by_cases e : s = id
    · subst e
      rw [hd] at hx
      cases hx
    · rw [List.getElem?_set_ne e]
      exact hx
  · cases hx
theorem isJoin_fn {P : Program} {f : FuncId} (hj : isJoin P f) : ∃ fn c, P.funcs[f]? = some fn ∧ fn.body = some c ∧ (fn.name == "runtime.NumGoroutine") = false := by
  obtain ⟨ρ, rfl, L, _⟩ := hj
  exact ⟨_, _, L.f156, rfl, show ("strings.Join" == "runtime.NumGoroutine") = false by decide⟩
theorem strVs_len : ∀ {l : List Value} {xs : List ByteArray}, strVs l = some xs → xs.length = l.length ∧ ∀ (i : Nat) x, xs[i]? = some x → l[i]? = some (.string x)
  | [], xs, h => by cases h; exact ⟨rfl, fun i x h => by simp at h⟩
  | v :: r, xs, h => by
    unfold strVs at h
    split at h
    · rename_i s ss h1 h2
      cases h
      obtain ⟨a, b⟩ := strVs_len h2
      refine ⟨by simp [a], fun i x hi => ?_⟩
      cases i with
      | zero =>
        simp at hi
        subst hi
        unfold strV at h1
        split at h1
        · cases h1; rfl
        · cases h1
      | succ j => simp at hi; simpa using b j x hi
    · cases h
theorem join_calls {P : Program} {f : FuncId} {v : Value} {sep : ByteArray} {xs : List ByteArray} {β : Bj} {h : AH} {w : World} (hj : isJoin P f) (hx : strsL v (fun i => h[i]?) = some xs) (n1 : xs.length ≤ 1000000) (n2 : (Lib.join (xs.map (·.data.toList)) sep.data.toList).length ≤ 1000000)
    {v' : Value} (hv : VR β v v') (R : Rel β h w) : Calls P f #[v', .string sep] w fun e w' => e = .returned (.string (joinS xs sep)) ∧ Go.RowKit.Below w.heap.size w w' := by
  obtain ⟨ρ, rfl, L, X⟩ := hj
  have base : ∀ (a : Option Addr) (c : Nat), xs = [] → v' = .slice a 0 c → Calls P (ρ.f 156) #[v', .string sep] w fun e w' => e = .returned (.string (joinS xs sep)) ∧ Go.RowKit.Below w.heap.size w w' := by
    rintro a c rfl rfl
    exact (Any.strings_Join_none L X a c sep w).mono fun e w' ⟨he, hw⟩ => ⟨he, hw ▸ Go.RowKit.Below.refl _ _⟩
  unfold strsL at hx
  split at hx
  · rename_i a c
    have hnil : xs = [] := by
      split at hx
      · exact (Option.some.inj hx).symm
      · exact (Option.some.inj hx).symm
      · cases hx
    cases hv with
    | nils => exact base _ _ hnil rfl
    | slx => exact base _ _ hnil rfl
    | slo => exact base _ _ hnil rfl
  · rename_i id off n c
    dsimp only at hx
    split at hx
    · rename_i cs wr hrow
      cases hb : Nat.ble (off + (n + 1)) cs.length with
      | false => rw [hb] at hx; cases hx
      | true =>
        rw [hb] at hx
        have hle := Nat.le_of_ble_eq_true hb
        obtain ⟨hl, hg⟩ := strVs_len (hx : strVs _ = some xs)
        rw [List.length_take, List.length_drop] at hl
        have hln : xs.length = n + 1 := by omega
        have key : ∀ (p : Pl) (a : Addr) (cap : Nat), β id = some p → n + 1 ≤ cap → a = ⟨p.b, p.sh + off, none⟩ → v' = .slice (some a) (n + 1) cap → Calls P (ρ.f 156) #[v', .string sep] w fun e w' => e = .returned (.string (joinS xs sep)) ∧ Go.RowKit.Below w.heap.size w w' := by
          rintro p a cap hp hcap rfl rfl
          obtain ⟨cc, el, fr, w1, w2, w3, w4, _, _⟩ := R.obj hp hrow
          have := Any.strings_Join L X p.b (p.sh + off) cap xs sep w (fun j x hj => by
            have h1 := hg j x hj
            have hj' := (List.getElem?_eq_some_iff.1 hj).1
            rw [List.getElem?_take, if_pos (by omega), List.getElem?_drop] at h1
            have h2 := w4 (off + j) (by omega)
            rw [List.getD_eq_getElem?_getD, h1] at h2
            have h3 : cc.getD (p.sh + (off + j)) undef = .string x := by
              generalize cc.getD (p.sh + (off + j)) undef = y at h2
              cases h2
              rfl
            have h4 : p.sh + (off + j) < cc.size := by omega
            have h5 : cc[p.sh + off + j]? = some (.string x) := by
              rw [Array.getD_eq_getD_getElem?] at h3
              rw [← Nat.add_assoc] at h3 h4
              rw [Array.getElem?_eq_getElem h4] at h3 ⊢
              exact congrArg some h3
            simp [World.cell?, w1, h5]) ((Array.getElem?_eq_some_iff.1 w1).1) (by omega) (by omega) (by omega)
          rw [hln] at this
          exact this
        cases hv with
        | slx hp hl2 hc ha => exact key _ _ _ hp hl2 (ha.resolve_left (by omega)) rfl
        | slo hp hl2 hc hr ha => exact key _ _ _ hp hl2 (ha.resolve_left (by omega)) rfl
    · cases hx
  · cases hx
theorem below_rel {β : Bj} {h : AH} {w w' : World} (R : Rel β h w) (b : Go.RowKit.Below w.heap.size w w') : Rel β h w' where
  lt := R.lt
  obj {id p o} hp ho := by
    by_cases hl : live (some o) = true
    · exact (R.obj hp ho).congr (.refl β) (b.block _ ((R.obj hp ho).lt hl))
    · cases o with
      | dead => trivial
      | _ => exact absurd rfl hl
  sep := R.sep
theorem below_ext {D : Nat → Prop} {β : Bj} {h : AH} {w w' : World} (b : Go.RowKit.Below w.heap.size w w') : Ext D β h w β h w' :=
  ⟨.refl β, fun _ _ h => h, Nat.le_refl _, fun _ _ _ => rfl, b.size, b.tape, b.os, b.output, fun k hk _ => b.block k hk, fun _ h => .inl h⟩
end Go.AM
end

section
/- The abstract machine's maps whose keys are a pointer and a number. Conditions: none. -/
namespace Go.AM
open Go
set_option linter.unusedSimpArgs false
def intT (P : Program) (t : TypeId) : Bool := match P.underlying t with
  | some (.int _) => true
  | _ => false
def ptrT (P : Program) (t : TypeId) : Bool := match P.underlying t with
  | some (.pointer e) => match P.info? e with
    | some i => !Nat.beq i.size 0
    | none => false
  | _ => false
def ptrFs (P : Program) (kt : TypeId) : Bool := match P.underlying kt with
  | some (.struct fs) => match fs.toList with
    | [f0, f1] => (f0.name != "_") && (f1.name != "_") && Nat.beq f0.offset 0 && Nat.beq f1.offset 1 && ptrT P f0.type && intT P f1.type && !P.stoodInHeld kt
    | _ => false
  | _ => false
def ptrKeyT (P : Program) (t : TypeId) : Bool := match P.underlying t with
  | some (.map kt _) => ptrFs P kt
  | _ => false
def keyP (v : Value) : Option (Nat × Nat × Int) := match v with
  | .agg a => match a.toList with
    | [.pointer (some ⟨i, o, none⟩), .int .i64 n] => some (i, o, n)
    | _ => none
  | _ => none
def lwO : Option AObj → Bool
  | some (.row _ true) => true
  | _ => false
def eq3 (a b : Nat × Nat × Int) : Bool := Nat.beq a.1 b.1 && Nat.beq a.2.1 b.2.1 && decide (a.2.2 = b.2.2)
def findP (look : Nat → Option AObj) (k : Nat × Nat × Int) : List Ent → Nat → Option (Option (Nat × Value))
  | [], _ => some none
  | e :: es, i => match keyP e.1 with
    | some q => match lwO (look q.1) with
      | true => match eq3 k q with
        | true => some (some (i, e.2.1))
        | false => findP look k es (i + 1)
      | false => none
    | none => none
def entsG (x : Value) (look : Nat → Option AObj) : Option (List Ent) :=
  match x with
  | .map none => some []
  | .map (some id) => match look id with
    | some (.map es _) => some es
    | _ => none
  | _ => none
def pLookupP (P : Program) (t : TypeId) (x k : Value) (ok : Bool) (look : Nat → Option AObj) : Option Value :=
  match P.underlying t, keyP k, entsG x look with
  | some (.map _ et), some q, some es => match zeroV P et, lwO (look q.1) with
    | some z, true => match findP look q es 0 with
      | some (some (_, v)) => some (okV ok v true)
      | some none => some (okV ok z false)
      | none => none
    | _, _ => none
  | _, _, _ => none
def pMapUpdP (P : Program) (t : TypeId) (x k v : Value) (look : Nat → Option AObj) : Option (Nat × AObj) :=
  match P.underlying t, keyP k, x with
  | some (.map _ _), some q, .map (some id) => match look id, lwO (look q.1) with
    | some (.map es ck), true => match findP look q es 0 with
      | some (some (i, _)) => some (id, .map (es.modify i fun e => (e.1, v, e.2.2)) ck)
      | some none => some (id, .map (es ++ [(k, v, ck)]) (ck + 1))
      | none => none
    | _, _ => none
  | _, _, _ => none
def pLook (P : Program) (t : TypeId) (x k : Value) (ok : Bool) (h : AH) : Option Value :=
  match ptrKeyT P t with
  | true => pLookupP P t x k ok (fun i => h[i]?)
  | false => pLookup P t x k ok h
def pMapU (P : Program) (t : TypeId) (x k v : Value) (h : AH) : Option AH :=
  match ptrKeyT P t with
  | true => (pMapUpdP P t x k v (fun i => h[i]?)).map fun u => h.set u.1 u.2
  | false => pMapUpd P t x k v h
variable {P : Program} {β : Bj} {h : AH} {w : World}
theorem lwO_row {o : Option AObj} (hl : lwO o = true) : ∃ c, o = some (.row c true) := by
  unfold lwO at hl
  split at hl
  · exact ⟨_, rfl⟩
  · cases hl
theorem eq3_iff {a b : Nat × Nat × Int} : eq3 a b = true ↔ a = b := by
  obtain ⟨a1, a2, a3⟩ := a
  obtain ⟨b1, b2, b3⟩ := b
  simp [eq3, Bool.and_eq_true, and_assoc]
theorem keyP_VR {k k' : Value} {q : Nat × Nat × Int} (hq : keyP k = some q) (hk : VR β k k') : ∃ p, β q.1 = some p ∧ k' = .agg #[.pointer (some ⟨p.b, p.sh + q.2.1, none⟩), .int .i64 q.2.2] := by
  unfold keyP at hq
  split at hq
  · rename_i a
    split at hq
    · rename_i i o n hl
      cases hq
      cases hk with
      | agg hs h1 hh =>
        rename_i a'
        obtain ⟨la⟩ := a
        have hl : la = [.pointer (some ⟨i, o, none⟩), .int .i64 n] := hl
        subst hl
        obtain ⟨la'⟩ := a'
        have hs' : la'.length = 2 := by simpa using hs.symm
        match la', hs' with
        | [x, y], _ =>
          have e0 : VR β (.pointer (some ⟨i, o, none⟩)) x := by simpa using hh 0 (by simp)
          have e1 : VR β (.int .i64 n) y := by simpa using hh 1 (by simp)
          cases e0 with
          | ptr hp =>
            cases e1
            exact ⟨_, hp, rfl⟩
    · cases hq
  · cases hq
theorem eqP_run {kt : TypeId} {q q' : Nat × Nat × Int} {p p' : Pl} (ht : ptrFs P kt = true) (R : Rel β h w) (hp : β q.1 = some p) (hp' : β q'.1 = some p') (hl : lwO h[q.1]? = true) (hl' : lwO h[q'.1]? = true) :
    (Op.equal kt (.agg #[.pointer (some ⟨p.b, p.sh + q.2.1, none⟩), .int .i64 q.2.2]) (.agg #[.pointer (some ⟨p'.b, p'.sh + q'.2.1, none⟩), .int .i64 q'.2.2])).run P w = .ok (eq3 q q') w := by
  obtain ⟨i, o, n⟩ := q
  obtain ⟨i', o', n'⟩ := q'
  dsimp only at hp hp' hl hl' ⊢
  obtain ⟨c, hc⟩ := lwO_row hl
  obtain ⟨c', hc'⟩ := lwO_row hl'
  obtain ⟨cc, el, fr, w1, _, _, _, w4, _⟩ := R.obj hp hc
  obtain ⟨cc', el', fr', w1', _, _, _, w4', _⟩ := R.obj hp' hc'
  rw [w4 rfl] at w1
  rw [w4' rfl] at w1'
  have addr : (sameAddr ⟨p.b, p.sh + o, none⟩ ⟨p'.b, p'.sh + o', none⟩).run P w = .ok (Nat.beq i i' && Nat.beq o o') w := by
    by_cases e : i = i'
    · subst e
      rw [hp] at hp'
      cases hp'
      by_cases e2 : o = o'
      · subst e2
        rw [run_sameAddr_same, Nat.beq_refl, Nat.beq_refl]
        rfl
      · rw [run_sameAddr_other w (by intro hh; injection hh with h1 h2 _; omega) w1 w1', Bool.eq_false_iff.2 (fun hh => e2 (Nat.eq_of_beq_eq_true hh)), Bool.and_false]
    · have hb : p.b ≠ p'.b := R.sep e hp hp' (by rw [hc]; rfl) (by rw [hc']; rfl) (by rw [hc, hc']; rfl)
      rw [run_sameAddr_other w (by intro hh; injection hh with h1 h2 _; exact hb h1) w1 w1', Bool.eq_false_iff.2 (fun hh => e (Nat.eq_of_beq_eq_true hh)), Bool.false_and]
  unfold ptrFs at ht
  split at ht
  · rename_i fs hu
    split at ht
    · rename_i f0 f1 hfs
      simp only [Bool.and_eq_true, bne_iff_ne, ne_eq, Bool.not_eq_true'] at ht
      obtain ⟨⟨⟨⟨⟨⟨n0, n1⟩, o0⟩, o1⟩, t0⟩, t1⟩, st⟩ := ht
      have o0 : f0.offset = 0 := Nat.eq_of_beq_eq_true o0
      have o1 : f1.offset = 1 := Nat.eq_of_beq_eq_true o1
      have hfo : P.fieldsOf kt = fs := by simp [Program.fieldsOf, hu]
      have gen : ∀ d, (Op.equalIn (d + 2) kt (.agg #[.pointer (some ⟨p.b, p.sh + o, none⟩), .int .i64 n]) (.agg #[.pointer (some ⟨p'.b, p'.sh + o', none⟩), .int .i64 n'])).run P w = .ok (eq3 (i, o, n) (i', o', n')) w := by
        intro d
        rw [run_equalIn_struct w (d + 1) kt _ _ (by rw [hfo]; exact hu) st, hfo, hfs]
        unfold ptrT at t0
        split at t0
        · rename_i e hu0
          split at t0
          · rename_i inf hinf
            have hsz : inf.size ≠ 0 := by
              intro hh
              rw [hh] at t0
              cases t0
            unfold intT at t1
            split at t1
            · rename_i kk hu1
              have pa0 : isAggT P f0.type = some false := by unfold isAggT; rw [hu0]
              have pa1 : isAggT P f1.type = some false := by unfold isAggT; rw [hu1]
              have key : (Op.equalIn (d + 1) f0.type (.pointer (some ⟨p.b, p.sh + o, none⟩)) (.pointer (some ⟨p'.b, p'.sh + o', none⟩))).run P w = .ok (Nat.beq i i' && Nat.beq o o') w := by
                simp only [Op.equalIn, Sem.run_bind, run_underlying hu0, Result.andThen_ok, run_size w hinf]
                rw [if_pos hsz]
                exact addr
              have key1 : (Op.equalIn (d + 1) f1.type (.int .i64 n) (.int .i64 n')).run P w = .ok (n == n') w := by
                simp [Op.equalIn, run_underlying hu1]
              have q0 : ∀ (x y : Value), (part f0.type #[x, y] f0.offset).run P w = .ok x w := fun x y => by rw [o0]; simp [part, run_agg w pa0]
              have q1 : ∀ (x y : Value), (part f1.type #[x, y] f1.offset).run P w = .ok y w := fun x y => by rw [o1]; simp [part, run_agg w pa1]
              have e3 : eq3 (i, o, n) (i', o', n') = ((Nat.beq i i' && Nat.beq o o') && (n == n')) := rfl
              rw [e3]
              simp only [Op.eqFields, n0, n1, ne_eq, not_false_eq_true, if_true, Sem.run_bind, q0, q1, Result.andThen_ok, key]
              cases hb : (Nat.beq i i' && Nat.beq o o') with
              | false => simp
              | true => cases hn : (n == n') <;> (rw [hn] at key1; simp [q1, key1])
            · cases t1
          · cases t0
        · cases t0
      exact gen 9998
    · cases ht
  · cases ht
end Go.AM
end

section
/- Go's model works on maps whose keys are a pointer and a number as the abstract machine does. Conditions: none. -/
namespace Go.AM
open Go
set_option linter.unusedSimpArgs false
variable {P : Program} {β : Bj} {h : AH} {w : World}
def keyC (p : Pl) (q : Nat × Nat × Int) : Value := .agg #[.pointer (some ⟨p.b, p.sh + q.2.1, none⟩), .int .i64 q.2.2]
theorem sim_findP {kt : TypeId} (ht : ptrFs P kt = true) (R : Rel β h w) {q : Nat × Nat × Int} {p : Pl} (hp : β q.1 = some p) (hl : lwO h[q.1]? = true) : ∀ (es : List Ent) (cs : List MapEntry) (i : Nat) (r : Option (Nat × Value)), EntsR β es cs → findP (fun i => h[i]?) q es i = some r →
    ∃ r', (Instr.findAsking kt (keyC p q) cs i).run P w = .ok r' w ∧ (match r with | none => r' = none | some (j, v) => ∃ v', r' = some (j, v') ∧ VR β v v' ∧ i ≤ j ∧ ∃ c, cs[j - i]? = some c ∧ c.key = keyC p q)
  | [], [], i, r, _, hf => by
    simp only [findP, Option.some.injEq] at hf
    subst hf
    exact ⟨none, by simp [Instr.findAsking], rfl⟩
  | e :: es, c :: cs, i, r, ⟨⟨hk, hv, hb⟩, hr⟩, hf => by
    simp only [findP] at hf
    cases hq : keyP e.1 with
    | none => rw [hq] at hf; cases hf
    | some q2 =>
      rw [hq] at hf
      dsimp only at hf
      cases hl2 : lwO h[q2.1]? with
      | false => rw [hl2] at hf; cases hf
      | true =>
        rw [hl2] at hf
        dsimp only at hf
        obtain ⟨p2, hp2, hck⟩ := keyP_VR hq hk
        have hrun : (Op.equal kt (keyC p q) c.key).run P w = .ok (eq3 q q2) w := by rw [hck]; exact eqP_run ht R hp hp2 hl hl2
        cases heq : eq3 q q2 with
        | true =>
          rw [heq] at hf hrun
          simp only [Option.some.injEq] at hf
          subst hf
          have e2 := eq3_iff.1 heq
          subst e2
          rw [hp] at hp2
          cases hp2
          exact ⟨some (i, c.val), by simp [Instr.findAsking, hrun], c.val, rfl, hv, Nat.le_refl _, c, by simp, hck⟩
        | false =>
          rw [heq] at hf hrun
          dsimp only at hf
          obtain ⟨r', h1, h2⟩ := sim_findP ht R hp hl es cs (i + 1) r hr hf
          refine ⟨r', by simp [Instr.findAsking, hrun, h1], ?_⟩
          cases r with
          | none => exact h2
          | some jv =>
            obtain ⟨v', e1, e2, e3, c', e4, e5⟩ := h2
            refine ⟨v', e1, e2, by omega, c', ?_, e5⟩
            rw [show jv.1 - i = (jv.1 - (i + 1)) + 1 by omega]; simpa using e4
  | [], _ :: _, _, _, hh, _ => by cases hh
  | _ :: _, [], _, _, hh, _ => by cases hh
theorem ptrFs_under {kt : TypeId} (ht : ptrFs P kt = true) : ∃ fs, P.underlying kt = some (.struct fs) := by
  unfold ptrFs at ht
  split at ht
  · exact ⟨_, ‹_›⟩
  · cases ht
theorem sim_findKeyP {kt : TypeId} (ht : ptrFs P kt = true) (R : Rel β h w) {q : Nat × Nat × Int} {p : Pl} (hp : β q.1 = some p) (hl : lwO h[q.1]? = true) {es : List Ent} {cs : List MapEntry} {r : Option (Nat × Value)} (he : EntsR β es cs) (hf : findP (fun i => h[i]?) q es 0 = some r) :
    ∃ r', (Instr.findKey kt (keyC p q) cs).run P w = .ok r' w ∧ (match r with | none => r' = none | some (j, v) => ∃ v', r' = some (j, v') ∧ VR β v v' ∧ ∃ c, cs[j]? = some c ∧ c.key = keyC p q) := by
  obtain ⟨fs, hu⟩ := ptrFs_under ht
  obtain ⟨r', h1, h2⟩ := sim_findP ht R hp hl es cs 0 r he hf
  refine ⟨r', ?_, ?_⟩
  · simp only [Instr.findKey, Sem.run_bind, run_underlying hu, Result.andThen_ok]
    cases cs with
    | nil =>
      simp [Instr.findAsking] at h1
      subst h1
      simp [Instr.findNow]
    | cons c cs =>
      have : Instr.findNow (.struct fs) (keyC p q) (c :: cs) 0 = none := by simp [Instr.findNow, Instr.sameNow]
      rw [this]
      exact h1
  · cases r with
    | none => exact h2
    | some jv =>
      obtain ⟨v', e1, e2, _, c, e3, e4⟩ := h2
      exact ⟨v', e1, e2, c, by simpa using e3, e4⟩
theorem sim_checkP {kt : TypeId} (ht : ptrFs P kt = true) (p : Pl) (q : Nat × Nat × Int) (em : Bool) (w : World) : (Instr.checkKey em 10000 kt (keyC p q)).run P w = .ok () w := by
  unfold ptrFs at ht
  split at ht
  · rename_i fs hu
    split at ht
    · rename_i f0 f1 hfs
      simp only [Bool.and_eq_true, bne_iff_ne, ne_eq, Bool.not_eq_true'] at ht
      obtain ⟨⟨⟨⟨⟨⟨n0, n1⟩, o0⟩, o1⟩, t0⟩, t1⟩, st⟩ := ht
      have o0 : f0.offset = 0 := Nat.eq_of_beq_eq_true o0
      have o1 : f1.offset = 1 := Nat.eq_of_beq_eq_true o1
      unfold ptrT at t0
      split at t0
      · rename_i e hu0
        unfold intT at t1
        split at t1
        · rename_i kk hu1
          have pa0 : isAggT P f0.type = some false := by unfold isAggT; rw [hu0]
          have pa1 : isAggT P f1.type = some false := by unfold isAggT; rw [hu1]
          have q0 : ∀ (x y : Value) (w : World), (part f0.type #[x, y] f0.offset).run P w = .ok x w := fun x y w => by rw [o0]; simp [part, run_agg w pa0]
          have q1 : ∀ (x y : Value) (w : World), (part f1.type #[x, y] f1.offset).run P w = .ok y w := fun x y w => by rw [o1]; simp [part, run_agg w pa1]
          have c0 : ∀ d (v : Value) (w : World), (Instr.checkKey em (d + 1) f0.type v).run P w = .ok () w := fun d v w => by simp [Instr.checkKey, run_underlying hu0]
          have c1 : ∀ d (v : Value) (w : World), (Instr.checkKey em (d + 1) f1.type v).run P w = .ok () w := fun d v w => by simp [Instr.checkKey, run_underlying hu1]
          have key : ∀ D d, D = d + 1 → (Instr.checkKey em (D + 1) kt (keyC p q)).run P w = .ok () w := by
            intro D d hD
            have c0 : ∀ (v : Value) (w : World), (Instr.checkKey em D f0.type v).run P w = .ok () w := fun v w => by rw [hD]; exact c0 d v w
            have c1 : ∀ (v : Value) (w : World), (Instr.checkKey em D f1.type v).run P w = .ok () w := fun v w => by rw [hD]; exact c1 d v w
            unfold keyC
            simp only [Instr.checkKey, Sem.run_bind, run_underlying hu, Result.andThen_ok]
            rw [← Array.forIn_toList, hfs]
            simp only [List.forIn_cons, List.forIn_nil, n0, n1, ne_eq, not_false_eq_true, if_true, Sem.run_bind, q0, q1, Result.andThen_ok, c0, c1, Sem.run_pure]
          exact key 9999 9998 rfl
        · cases t1
      · cases t0
    · cases ht
  · cases ht
theorem sim_staysP (p : Pl) (q : Nat × Nat × Int) (w : World) : (Instr.keyThatStays (keyC p q) (keyC p q)).run P w = .ok (keyC p q) w := by
  have key : ∀ D, Instr.sameBits (D + 2) (keyC p q) (keyC p q) = true := by
    intro D
    simp [keyC, Instr.sameBits]
  have := key 9998
  simp [Instr.keyThatStays, this]
end Go.AM
end
