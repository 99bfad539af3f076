/- An abstract machine for Go's model, and what it tells of the model: part 2. Conditions: none. -/
import Derived.Test.YtebbjimmgblcpaaQA1
import Derived.Below

/- Rules for walking through printed functions: numbers, tests, words. Conditions: none. -/
namespace Go.AM
open Go

variable {P : Program} {t : Nat}

theorem w_some {α : Type} {o : Option α} {v : α} {K : α → Prop} (h : o = some v) (k : K v) : optW o K := by rw [h]; exact k

/-! ### numbers -/
theorem wrap_in (n : Int) (h1 : -9223372036854775808 ≤ n) (h2 : n ≤ 9223372036854775807) : IntKind.i64.wrap n = n := by
  simp only [IntKind.wrap, IntKind.bits, IntKind.signed]
  first
  | (simp [Int.bmod_def]; omega)
  | omega

theorem w_add {a b : Int} {K : Value → Prop} (h1 : -9223372036854775808 ≤ a + b) (h2 : a + b ≤ 9223372036854775807) (k : K (.int .i64 (a + b))) : optW (pBin P .add t (.int .i64 a) (.int .i64 b)) K := by
  refine w_some (v := .int .i64 (a + b)) ?_ k
  show (if IntKind.i64 = IntKind.i64 then pBinI .add .i64 a b else none) = _
  rw [if_pos rfl, pBinI, wrap_in _ h1 h2]
theorem w_sub {a b : Int} {K : Value → Prop} (h1 : -9223372036854775808 ≤ a - b) (h2 : a - b ≤ 9223372036854775807) (k : K (.int .i64 (a - b))) : optW (pBin P .sub t (.int .i64 a) (.int .i64 b)) K := by
  refine w_some (v := .int .i64 (a - b)) ?_ k
  show (if IntKind.i64 = IntKind.i64 then pBinI .sub .i64 a b else none) = _
  rw [if_pos rfl, pBinI, wrap_in _ h1 h2]
theorem w_mul {a b : Int} {K : Value → Prop} (h1 : -9223372036854775808 ≤ a * b) (h2 : a * b ≤ 9223372036854775807) (k : K (.int .i64 (a * b))) : optW (pBin P .mul t (.int .i64 a) (.int .i64 b)) K := by
  refine w_some (v := .int .i64 (a * b)) ?_ k
  show (if IntKind.i64 = IntKind.i64 then pBinI .mul .i64 a b else none) = _
  rw [if_pos rfl, pBinI, wrap_in _ h1 h2]
theorem w_tmod {kd : IntKind} {a b : Int} {K : Value → Prop} (h : b ≠ 0) (k : K (.int kd (a.tmod b))) : optW (pBin P .rem t (.int kd a) (.int kd b)) K := by
  refine w_some (v := .int kd (a.tmod b)) ?_ k
  show (if kd = kd then pBinI .rem kd a b else none) = _
  rw [if_pos rfl, pBinI, if_neg h]
theorem w_rem {kd : IntKind} {a b : Int} {K : Value → Prop} (h : 0 < b) (h0 : 0 ≤ a) (k : K (.int kd (a % b))) : optW (pBin P .rem t (.int kd a) (.int kd b)) K := by
  refine w_tmod (by omega) ?_
  rw [Int.tmod_eq_emod_of_nonneg h0]
  exact k
theorem w_quo {a b : Int} {K : Value → Prop} (h : 0 < b) (h0 : 0 ≤ a) (h1 : a ≤ 9223372036854775807) (k : K (.int .i64 (a / b))) : optW (pBin P .quo t (.int .i64 a) (.int .i64 b)) K := by
  refine w_some (v := .int .i64 (a / b)) ?_ k
  show (if IntKind.i64 = IntKind.i64 then pBinI .quo .i64 a b else none) = _
  rw [if_pos rfl, pBinI, if_neg (by omega), Int.tdiv_eq_ediv_of_nonneg h0]
  have g1 : 0 ≤ a / b := Int.ediv_nonneg h0 (by omega)
  have g2 : a / b ≤ a := Int.ediv_le_self _ h0
  rw [wrap_in _ (by omega) (by omega)]

theorem w_lss {kd : IntKind} {a b : Int} {K : Value → Prop} (k : K (.bool (decide (a < b)))) : optW (pBin P .lss t (.int kd a) (.int kd b)) K := by
  refine w_some (v := .bool (decide (a < b))) ?_ k
  show (if kd = kd then pBinI .lss kd a b else none) = _
  rw [if_pos rfl, pBinI]
theorem w_leq {kd : IntKind} {a b : Int} {K : Value → Prop} (k : K (.bool (decide (a ≤ b)))) : optW (pBin P .leq t (.int kd a) (.int kd b)) K := by
  refine w_some (v := .bool (decide (a ≤ b))) ?_ k
  show (if kd = kd then pBinI .leq kd a b else none) = _
  rw [if_pos rfl, pBinI]
theorem w_gtr {kd : IntKind} {a b : Int} {K : Value → Prop} (k : K (.bool (decide (b < a)))) : optW (pBin P .gtr t (.int kd a) (.int kd b)) K := by
  refine w_some (v := .bool (decide (b < a))) ?_ k
  show (if kd = kd then pBinI .gtr kd a b else none) = _
  rw [if_pos rfl, pBinI]
theorem w_geq {kd : IntKind} {a b : Int} {K : Value → Prop} (k : K (.bool (decide (b ≤ a)))) : optW (pBin P .geq t (.int kd a) (.int kd b)) K := by
  refine w_some (v := .bool (decide (b ≤ a))) ?_ k
  show (if kd = kd then pBinI .geq kd a b else none) = _
  rw [if_pos rfl, pBinI]
theorem w_eql {kd : IntKind} {a b : Int} {K : Value → Prop} (k : K (.bool (decide (a = b)))) : optW (pBin P .eql t (.int kd a) (.int kd b)) K := by
  refine w_some (v := .bool (decide (a = b))) ?_ k
  show (if kd = kd then pBinI .eql kd a b else none) = _
  rw [if_pos rfl, pBinI]
  rfl
theorem w_neq {kd : IntKind} {a b : Int} {K : Value → Prop} (k : K (.bool (decide (¬ a = b)))) : optW (pBin P .neq t (.int kd a) (.int kd b)) K := by
  refine w_some (v := .bool (decide (¬ a = b))) ?_ k
  show (if kd = kd then pBinI .neq kd a b else none) = _
  rw [if_pos rfl, pBinI]
  congr 2
  by_cases h : a = b <;> simp [h]

/-! ### words -/
theorem bs_size (l : List UInt8) : (bs l).size = l.length := rfl
theorem bs_data (l : List UInt8) : (bs l).data.toList = l := rfl
theorem bs_of (s : ByteArray) : s = bs s.data.toList := ByteArray.ext (Array.toList_inj.1 rfl)
theorem bs_inj {l m : List UInt8} : bs l = bs m ↔ l = m := ⟨fun h => by have := congrArg (fun s => s.data.toList) h; exact this, fun h => by rw [h]⟩

theorem w_cat {l m : List UInt8} {K : Value → Prop} (h : l.length + m.length < 9223372036854775808) (k : K (.string (bs (l ++ m)))) : optW (pBin P .add t (.string (bs l)) (.string (bs m))) K := by
  refine w_some (v := .string (bs (l ++ m))) ?_ k
  show pBinS .add (bs l) (bs m) = _
  rw [pBinS, if_pos (by rw [bs_size, bs_size]; exact h), ← bCat_eq]
  rfl
theorem w_seql {l m : List UInt8} {K : Value → Prop} (k : K (.bool (decide (l = m)))) : optW (pBin P .eql t (.string (bs l)) (.string (bs m))) K := by
  refine w_some (v := .bool (decide (l = m))) ?_ k
  show pBinS .eql (bs l) (bs m) = _
  rw [pBinS, bytes_toList, bytes_toList, bs_data, bs_data]
  congr 2
  by_cases h : l = m <;> simp [h]
theorem w_sneq {l m : List UInt8} {K : Value → Prop} (k : K (.bool (decide (¬ l = m)))) : optW (pBin P .neq t (.string (bs l)) (.string (bs m))) K := by
  refine w_some (v := .bool (decide (¬ l = m))) ?_ k
  show pBinS .neq (bs l) (bs m) = _
  rw [pBinS, bytes_toList, bytes_toList, bs_data, bs_data]
  congr 2
  by_cases h : l = m <;> simp [h]
theorem w_lenStr {l : List UInt8} {K : Value → Prop} (k : K (.int .i64 (l.length : Nat))) : optW (lenStr (.string (bs l))) K := k
theorem w_idxStr {l : List UInt8} {i : Int} {kd : IntKind} {b : UInt8} {K : Value → Prop} (h0 : 0 ≤ i) (hb : l[i.toNat]? = some b) (k : K (.int .u8 b.toNat)) : optW (pIdxStr (.string (bs l)) (.int kd i)) K := by
  refine w_some (v := .int .u8 b.toNat) ?_ k
  rw [← pIdxStrQ_eq, pIdxStrQ, if_pos h0, bs_data, hb]
  rfl
theorem pSliceB_in {i : Int} {kd : IntKind} {y d : Nat} (h0 : 0 ≤ i) (h1 : i ≤ (y : Int)) : pSliceB (some (.int kd i)) y d = some i.toNat := by
  rw [pSliceB, if_pos ⟨h0, h1⟩]
theorem w_subStr {l : List UInt8} {i j : Int} {kd kd' : IntKind} {K : Value → Prop} (h0 : 0 ≤ i) (h1 : i ≤ j) (h2 : j ≤ (l.length : Nat)) (k : K (.string (bs ((l.drop i.toNat).take (j.toNat - i.toNat))))) : optW (pSliceStr (.string (bs l)) (some (.int kd i)) (some (.int kd' j))) K := by
  refine w_some ?_ k
  rw [← pSliceStrQ_eq, pSliceStrQ, pSliceB_in (by omega) (by rw [bs_size]; exact h2)]
  dsimp only
  rw [pSliceB_in h0 (by omega)]
  rfl
theorem w_dropStr {l : List UInt8} {i : Int} {kd : IntKind} {K : Value → Prop} (h0 : 0 ≤ i) (h1 : i ≤ (l.length : Nat)) (k : K (.string (bs (l.drop i.toNat)))) : optW (pSliceStr (.string (bs l)) (some (.int kd i)) none) K := by
  refine w_some (v := .string (bs (l.drop i.toNat))) ?_ k
  rw [← pSliceStrQ_eq, pSliceStrQ]
  simp only [pSliceB, bs_size]
  rw [if_pos ⟨h0, h1⟩]
  simp only [bCut, bs_data]
  rw [List.take_of_length_le (by simp)]
  rfl
theorem w_takeStr {l : List UInt8} {j : Int} {kd : IntKind} {K : Value → Prop} (h0 : 0 ≤ j) (h1 : j ≤ (l.length : Nat)) (k : K (.string (bs (l.take j.toNat)))) : optW (pSliceStr (.string (bs l)) none (some (.int kd j))) K := by
  refine w_some (v := .string (bs (l.take j.toNat))) ?_ k
  rw [← pSliceStrQ_eq, pSliceStrQ, pSliceB_in h0 (by rw [bs_size]; exact h1)]
  simp only [pSliceB, bCut, bs_data]
  rfl

/-! ### tests -/
theorem w_not {p : Prop} [Decidable p] {K : Value → Prop} (k : K (.bool (decide (¬ p)))) : optW (pUn .not (.bool (decide p))) K := by
  refine w_some (v := .bool (decide (¬ p))) ?_ k
  by_cases h : p <;> simp [pUn, h]
theorem w_notb {b : Bool} {K : Value → Prop} (k : K (.bool (!b))) : optW (pUn .not (.bool b)) K := k
theorem pk_tt {p : Prop} [Decidable p] {a b : Value} {K : Value → Prop} (h : p) (k : K a) : optW (pPick (.bool (decide p)) a b) K := by
  rw [decide_eq_true h]; exact k
theorem pk_ff {p : Prop} [Decidable p] {a b : Value} {K : Value → Prop} (h : ¬ p) (k : K b) : optW (pPick (.bool (decide p)) a b) K := by
  rw [decide_eq_false h]; exact k
theorem pk_t {a b : Value} {K : Value → Prop} (k : K a) : optW (pPick (.bool true) a b) K := k
theorem pk_f {a b : Value} {K : Value → Prop} (k : K b) : optW (pPick (.bool false) a b) K := k
theorem c_dec {p : Prop} [Decidable p] {A B : Prop} (ha : p → A) (hb : ¬ p → B) : condW (.bool (decide p)) A B := by
  by_cases h : p
  · rw [decide_eq_true h]; exact ha h
  · rw [decide_eq_false h]; exact hb h
theorem c_tt {p : Prop} [Decidable p] {A B : Prop} (h : p) (ha : A) : condW (.bool (decide p)) A B := by
  rw [decide_eq_true h]; exact ha
theorem c_ff {p : Prop} [Decidable p] {A B : Prop} (h : ¬ p) (hb : B) : condW (.bool (decide p)) A B := by
  rw [decide_eq_false h]; exact hb
theorem c_t {A B : Prop} (ha : A) : condW (.bool true) A B := ha
theorem c_f {A B : Prop} (hb : B) : condW (.bool false) A B := hb
theorem c_b {b : Bool} {A B : Prop} (ha : b = true → A) (hb : b = false → B) : condW (.bool b) A B := by
  cases b with
  | true => exact ha rfl
  | false => exact hb rfl
theorem g_dec {p : Prop} [Decidable p] {f : (Value → AH → Prop) → Prop} {h : AH} {K : Value → AH → Prop} (ha : p → f K) (hb : ¬ p → K undef h) : gopW (gB (.bool (decide p)) true) f h K := by
  by_cases h : p
  · rw [decide_eq_true h]; exact ha h
  · rw [decide_eq_false h]; exact hb h
theorem g_decf {p : Prop} [Decidable p] {f : (Value → AH → Prop) → Prop} {h : AH} {K : Value → AH → Prop} (ha : p → K undef h) (hb : ¬ p → f K) : gopW (gB (.bool (decide p)) false) f h K := by
  by_cases h : p
  · rw [decide_eq_true h]; exact ha h
  · rw [decide_eq_false h]; exact hb h
theorem g_tt {p : Prop} [Decidable p] {f : (Value → AH → Prop) → Prop} {h : AH} {K : Value → AH → Prop} (hp : p) (k : f K) : gopW (gB (.bool (decide p)) true) f h K := by
  rw [decide_eq_true hp]; exact k
theorem g_tf {p : Prop} [Decidable p] {f : (Value → AH → Prop) → Prop} {h : AH} {K : Value → AH → Prop} (hp : ¬ p) (k : K undef h) : gopW (gB (.bool (decide p)) true) f h K := by
  rw [decide_eq_false hp]; exact k
theorem g_ft {p : Prop} [Decidable p] {f : (Value → AH → Prop) → Prop} {h : AH} {K : Value → AH → Prop} (hp : p) (k : K undef h) : gopW (gB (.bool (decide p)) false) f h K := by
  rw [decide_eq_true hp]; exact k
theorem g_ff {p : Prop} [Decidable p] {f : (Value → AH → Prop) → Prop} {h : AH} {K : Value → AH → Prop} (hp : ¬ p) (k : f K) : gopW (gB (.bool (decide p)) false) f h K := by
  rw [decide_eq_false hp]; exact k
theorem gc_tt {f : (Value → AH → Prop) → Prop} {h : AH} {K : Value → AH → Prop} (k : f K) : gopW (gB (.bool true) true) f h K := k
theorem gc_ft {f : (Value → AH → Prop) → Prop} {h : AH} {K : Value → AH → Prop} (k : K undef h) : gopW (gB (.bool true) false) f h K := k
theorem gc_tf {f : (Value → AH → Prop) → Prop} {h : AH} {K : Value → AH → Prop} (k : K undef h) : gopW (gB (.bool false) true) f h K := k
theorem gc_ff {f : (Value → AH → Prop) → Prop} {h : AH} {K : Value → AH → Prop} (k : f K) : gopW (gB (.bool false) false) f h K := k

theorem w_convI {k k' : IntKind} {n : Int} {K : Value → Prop} (h : k.wrap n = n) (hk : K (.int k n)) : optW (convI k (.int k' n)) K := by
  rw [convI, h]; exact hk
theorem w_lenSl {a : Option Addr} {n c : Nat} {K : Value → Prop} (k : K (.int .i64 n)) : optW (lenSl (.slice a n c)) K := k

end Go.AM

/- A known function 'within': what a run may take of it. Conditions: none. -/
namespace Go.AM
open Go

theorem tmod_emod (a n : Int) (h : 0 < n) : (if a.tmod n < 0 then a.tmod n + n else a.tmod n) = a % n ∧ (a.tmod n < 0 → a.tmod n + n = a % n) ∧ (¬ a.tmod n < 0 → a.tmod n = a % n) ∧ - n < a.tmod n ∧ a.tmod n < n := by
  have h2 := Int.emod_nonneg a (by omega : n ≠ 0)
  have h3 := Int.emod_lt_of_pos a h
  have h4 := Int.tmod_eq_emod (a := a) (b := n)
  split at h4
  · generalize a % n = r at *
    generalize a.tmod n = m at *
    refine ⟨?_, ?_, ?_, ?_, ?_⟩
    · rw [if_neg (by omega)]; omega
    all_goals omega
  · rename_i hx
    have h5 : a % n ≠ 0 := fun e => hx (.inr (Int.dvd_of_emod_eq_zero e))
    have h6 : (n.natAbs : Int) = n := by omega
    generalize a % n = r at *
    generalize a.tmod n = m at *
    refine ⟨?_, ?_, ?_, ?_, ?_⟩
    · rw [if_pos (by omega)]; omega
    all_goals omega

def orcWithin (g : Nat) : Orc := fun f args => cond (Nat.beq f g) (match args with
  | [.int .i64 _, .int .i64 (.ofNat (m + 1))] => cond (Nat.ble m 60) (some ((List.range (m + 1)).map fun k => .int .i64 (Int.ofNat k))) none
  | _ => none) none

theorem orcWithin_ok {P : Program} {g : Nat} (hw : ∀ (a n : Int) (h : AH) (K : Value → AH → Prop), 0 < n → n ≤ 1152921504606846976 → K (.int .i64 (a % n)) h → callW P g [.int .i64 a, .int .i64 n] h K) : OrcOK P (orcWithin g) := by
  intro f args outs ho h K hK
  unfold orcWithin at ho
  rw [Tr.cond_beq] at ho
  split at ho
  · rename_i hf
    subst hf
    split at ho
    · rename_i a m
      cases hm : Nat.ble m 60 with
      | false => rw [hm] at ho; cases ho
      | true =>
        rw [hm] at ho
        obtain rfl := Option.some.inj ho
        have hm' : m ≤ 60 := Nat.le_of_ble_eq_true hm
        refine hw a _ h K (by simp only [Int.ofNat_eq_natCast]; omega) (by simp only [Int.ofNat_eq_natCast]; omega) ?_
        have h2 := Int.emod_nonneg a (b := Int.ofNat (m + 1)) (by simp only [Int.ofNat_eq_natCast]; omega)
        have h3 := Int.emod_lt_of_pos a (b := Int.ofNat (m + 1)) (by simp only [Int.ofNat_eq_natCast]; omega)
        refine hK _ (List.mem_map.2 ⟨(a % Int.ofNat (m + 1)).toNat, ?_, ?_⟩)
        · rw [List.mem_range]
          generalize a % Int.ofNat (m + 1) = r at *
          simp only [Int.ofNat_eq_natCast] at h3
          omega
        · generalize a % Int.ofNat (m + 1) = r at *
          simp only [Int.ofNat_eq_natCast]
          congr 1
          omega
    · cases ho
  · cases ho

end Go.AM

/- From a run of the abstract machine to a call of Go's model: it returns true, and nothing that was there has turned. Conditions: the arguments that came in are only read. -/
namespace Go.AM
open Go Go.RowKit

variable {P : Program}

theorem law_lift (hmix : P.follows .mixedOrders = true) {f : FuncId} {args : List Value} {h : AH} {β : Bj} {args' : Array Value} {w : World} (hA : ListR β args args') (R : Rel β h w) (hro : ∀ i : Nat, live h[i]? = true → isRo h[i]? = true)
    (hc : callW P f args h fun v _ => v = .bool true) : Calls P f args' w fun e w' => e = .returned (.bool true) ∧ Below w.heap.size w w' := by
  refine Calls.mono ((callW_sim hmix _ _ _ _ hc).2 β args' w hA R) ?_
  rintro e w' ⟨v, v', β', h', rfl, rfl, hv, _, X⟩
  cases hv
  refine ⟨rfl, X.os, X.tape, X.out, X.size, fun k hk => X.cfr k hk ?_⟩
  rintro ⟨id, p, _, _, h1, h2⟩
  rw [hro id h1] at h2
  cases h2

/-- no object at all -/
def β0 : Bj := fun _ => none
theorem rel0 (w : World) : Rel β0 [] w where
  lt h := by cases h
  obj h := by cases h
  sep _ h := by cases h

/-- rows that came in: of each where it lies, and its cells. -/
structure InRow where
  b : Nat
  off : Nat
  cells : List Value

def inObj (r : InRow) : AObj := .row r.cells false
def βIn (rs : List InRow) : Bj := fun i => (rs[i]?).map fun r => ⟨r.b, r.off, r.off + r.cells.length, 1⟩

/-- a row lies in the world: pure cells. -/
def InRow.at (r : InRow) (w : World) : Prop := ∃ cc e fr, w.heap[r.b]? = some (.cells cc e fr) ∧ r.off + r.cells.length ≤ cc.size ∧ (∀ i, i < r.cells.length → cc.getD (r.off + i) undef = r.cells.getD i undef) ∧ (∀ v ∈ r.cells, pureS v = true)

theorem relIn (rs : List InRow) (w : World) (h : ∀ r ∈ rs, r.at w) : Rel (βIn rs) (rs.map inObj) w where
  lt {id p} hp := by
    unfold βIn at hp
    cases e : rs[id]? with
    | none => rw [e] at hp; cases hp
    | some r => rw [List.length_map]; exact (List.getElem?_eq_some_iff.1 e).1
  obj {id p o} hp ho := by
    unfold βIn at hp
    cases e : rs[id]? with
    | none => rw [e] at hp; cases hp
    | some r =>
      rw [e] at hp
      rw [List.getElem?_map, e] at ho
      obtain rfl := Option.some.inj hp
      obtain rfl := Option.some.inj ho
      obtain ⟨cc, el, fr, h1, h2, h3, h4⟩ := h r (List.mem_of_getElem? e)
      refine ⟨cc, el, fr, h1, Nat.le_refl _, h2, fun i hi => ?_, fun x => (by cases x), fun v hv => pureS_one (h4 v hv)⟩
      have := h3 i hi
      rw [this]
      exact .ofPureS (h4 _ (by rw [List.getD_eq_getElem?_getD, List.getElem?_eq_getElem hi]; exact List.getElem_mem hi))
  sep {i j p q} hij hi hj li lj hr := by
    have ro : ∀ k : Nat, live (rs.map inObj)[k]? = true → isRo (rs.map inObj)[k]? = true := by
      intro k hk
      rw [List.getElem?_map] at hk ⊢
      cases e : rs[k]? with
      | none => rw [e] at hk; cases hk
      | some r => rfl
    rw [ro i li, ro j lj] at hr
    cases hr

theorem roIn (rs : List InRow) : ∀ i : Nat, live (rs.map inObj)[i]? = true → isRo (rs.map inObj)[i]? = true := by
  intro k hk
  rw [List.getElem?_map] at hk ⊢
  cases e : rs[k]? with
  | none => rw [e] at hk; cases hk
  | some r => rfl

end Go.AM
