/- The machine that takes all words: the walk of Each. Conditions: none. -/
import Derived.Test.YtebbjimmgblcpaaQF17
namespace Go.Proofs.Ytebbjimmgblcpaa.W
open Go Go.AM FeedM
set_option linter.unusedVariables false
set_option maxRecDepth 100000

def kindAt (l : List Sy) (s : Nat) : Int := match l[s]? with
  | some x => x.2
  | none => 0
def eOp (l : List Sy) : Nat → List (Int × Int × Int × Int)
  | 0 => []
  | i + 1 => eOp l i ++ if kindAt l i = 1 then [(0, (i : Int), 0, 1)] else []
def eCl (l : List Sy) : Nat → List (Int × Int × Int × Int)
  | 0 => []
  | i + 1 => eCl l i ++ if kindAt l i = 1 then [] else if kindAt l i = 2 then [(0, (i : Int), 0, 0), (0, (i : Int), 1, 0)] else []
def eIn (l : List Sy) : Nat → List (Int × Int × Int)
  | 0 => []
  | i + 1 => eIn l i ++ if kindAt l i = 1 then [] else if kindAt l i = 2 then [] else [(0, (i : Int), 0)]
def eachM (l : List Sy) : Mach := ⟨1, 1, [0], [0], eOp l l.length, eCl l l.length, eIn l l.length⟩

theorem eOp_len (l : List Sy) : ∀ i, (eOp l i).length ≤ i
  | 0 => Nat.le_refl _
  | i + 1 => by have := eOp_len l i; unfold eOp; split <;> simp <;> omega
theorem eCl_len (l : List Sy) : ∀ i, (eCl l i).length ≤ 2 * i
  | 0 => Nat.le_refl _
  | i + 1 => by
    have := eCl_len l i
    unfold eCl
    split
    · simp; omega
    · split <;> simp <;> omega
theorem eIn_len (l : List Sy) : ∀ i, (eIn l i).length ≤ i
  | 0 => Nat.le_refl _
  | i + 1 => by
    have := eIn_len l i
    unfold eIn
    split
    · simp; omega
    · split <;> simp <;> omega

theorem res32 (e : Env) (h : AH) : resList Try.prog e h Try.f32.results.toList = (rdRow true 7 (e 2) h).map fun v => [v] := by
  have h1 : Try.f32.results.toList = [.cell 2 30] := by kernel_rfl
  have h2 : ∀ x, pLoad Try.prog 30 x h = rdRow true 7 x h := fun x => by kernel_rfl
  rw [h1]
  show (match pLoad Try.prog 30 (e 2) h with
    | some v => match resList Try.prog e h [] with
      | some vs => some (v :: vs)
      | none => none
    | none => none) = _
  rw [h2]
  cases rdRow true 7 (e 2) h <;> rfl

/-- the machine under way, at a place of its own. -/
structure EachR (h0 h : AH) (p3 : Nat) (vi vf vo vc vn : Value) (l : List Sy) (i : Nat) (F : Nat → Prop) : Prop where
  row : h[p3]? = some (.row (mcells 1 1 vi vf vo vc vn) true)
  init : Ints h vi [0]
  fin : Ints h vf [0]
  op : OwnG 4 F h vo (eOp l i).length (flat e4 (eOp l i))
  cl : OwnG 4 F h vc (eCl l i).length (flat e4 (eCl l i))
  inn : OwnG 3 F h vn (eIn l i).length (flat e3 (eIn l i))
  hF : ∀ j, F j → p3 < j
  ifF : ∀ j, (onId vi j ∨ onId vf j) → ¬ F j ∧ j ≠ p3
  oc : ∀ j, onId vo j → ¬ onId vc j ∧ ¬ onId vn j
  cn : ∀ j, onId vc j → ¬ onId vn j

theorem EachR.next {h0 h h' : AH} {p3 : Nat} {vi vf vo vc vn : Value} {l : List Sy} {i : Nat} {F F' : Nat → Prop} {vo' vc' vn' : Value} (r : EachR h0 h p3 vi vf vo vc vn l i F)
    (hrow : h'[p3]? = some (.row (mcells 1 1 vi vf vo' vc' vn') true)) (hi : ∀ j, onId vi j → h'[j]? = h[j]?) (hf : ∀ j, onId vf j → h'[j]? = h[j]?)
    (op : OwnG 4 F' h' vo' (eOp l (i + 1)).length (flat e4 (eOp l (i + 1)))) (cl : OwnG 4 F' h' vc' (eCl l (i + 1)).length (flat e4 (eCl l (i + 1)))) (inn : OwnG 3 F' h' vn' (eIn l (i + 1)).length (flat e3 (eIn l (i + 1))))
    (hF : ∀ j, F' j → F j ∨ h.length ≤ j) (hp : p3 < h.length) (oc : ∀ j, onId vo' j → ¬ onId vc' j ∧ ¬ onId vn' j) (cn : ∀ j, onId vc' j → ¬ onId vn' j) (hlt : ∀ j, (onId vi j ∨ onId vf j) → j < h.length) : EachR h0 h' p3 vi vf vo' vc' vn' l (i + 1) F' where
  row := hrow
  init := Sl.same r.init hi
  fin := Sl.same r.fin hf
  op := op
  cl := cl
  inn := inn
  hF j hj := (hF j hj).elim (r.hF j) fun h => by omega
  ifF j hj := ⟨fun h => (hF j h).elim (r.ifF j hj).1 fun h => by have := hlt j hj; omega, (r.ifF j hj).2⟩
  oc := oc
  cn := cn
end Go.Proofs.Ytebbjimmgblcpaa.W
