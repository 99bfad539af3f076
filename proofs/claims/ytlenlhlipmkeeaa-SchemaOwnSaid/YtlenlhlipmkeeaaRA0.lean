/- Parts of a proof, joined by a program. Conditions: none. -/
import Derived.Calls
import Derived.Laws.Sem
import Derived.Laws.Entries
import Derived.Laws.StructEq
import Derived.Deep.AppendSrc
import Derived.Laws.IdiomCopy
import Derived.Laws.Cells
import Derived.Laws.Small
import Derived.Laws.Append

section
/- A plain model of schemas' texts: signs, models, how they are read. Conditions: none. -/
namespace SchM
abbrev W := List UInt8
inductive Mdl where
  | mk (k : Int) (n : W) (l : List Mdl)
def blank (c : UInt8) : Bool := c == 32 || c == 10
def low (c : UInt8) : Bool := decide (97 ≤ c.toNat ∧ c.toNat ≤ 122)
def skip (s : W) (p : Nat) : Nat := p + ((s.drop p).takeWhile blank).length
def wordAt (s : W) (p : Nat) : W := (s.drop p).takeWhile low
def noneAt : W := [110, 111, 110, 101, 32, 97, 116, 32, 97, 108, 108]
def sgn (s : W) (p : Nat) : W × UInt8 :=
  if wordAt s p ≠ [] then (wordAt s p, 0) else match s[p]? with
    | some c => if c = 0 then (noneAt, 0) else ([], c)
    | none => ([], 0)
def tl (s : W) (p : Nat) : Nat := if wordAt s p ≠ [] then (wordAt s p).length else if p < s.length then 1 else 0
def adv (s : W) (p : Nat) : Nat := skip s (p + tl s p)
def wRoot : W := [114, 111, 111, 116]
def wElement : W := [101, 108, 101, 109, 101, 110, 116]
def wEmpty : W := [101, 109, 112, 116, 121]
def wAny : W := [97, 110, 121]
def wText : W := [116, 101, 120, 116]
def keys : List W := [wRoot, wElement, wEmpty, wAny, wText]
def isName (w : W) : Bool := decide (w ≠ [] ∧ w.length ≤ 8 ∧ w ∉ keys)
inductive R (α : Type) where
  | ok (a : α) (p : Nat)
  | bad (e : Int) (at_ : Nat)
def atom (s : W) (O : Nat → Nat → R Mdl) (D p : Nat) : R Mdl :=
  if sgn s p = (wEmpty, 0) then .ok (.mk 1 [] []) (adv s p)
  else if sgn s p = (wAny, 0) then .ok (.mk 2 [] []) (adv s p)
  else if sgn s p = (wText, 0) then .ok (.mk 3 [] []) (adv s p)
  else if sgn s p = ([], 40) then
    if 20 ≤ D then .bad 3 p
    else match O (D + 1) (adv s p) with
      | .bad e a => .bad e a
      | .ok m q => if sgn s q = ([], 41) then .ok m (adv s q) else .bad 1 q
  else if isName (sgn s p).1 = true then .ok (.mk 4 (sgn s p).1 []) (adv s p)
  else .bad 1 p
def rep (s : W) (A : Nat → R Mdl) (p : Nat) : R Mdl :=
  match A p with
  | .bad e a => .bad e a
  | .ok m q =>
    if sgn s q = ([], 42) then .ok (.mk 7 [] [m]) (adv s q)
    else if sgn s q = ([], 43) then .ok (.mk 8 [] [m]) (adv s q)
    else if sgn s q = ([], 63) then .ok (.mk 9 [] [m]) (adv s q)
    else .ok m q
def more (s : W) (X : Nat → R Mdl) (c : UInt8) : Nat → Nat → List Mdl → R (List Mdl)
  | 0, p, l => .ok l p
  | n + 1, p, l => if sgn s p = ([], c) then match X (adv s p) with
      | .bad e a => .bad e a
      | .ok m q => more s X c n q (l ++ [m])
    else .ok l p
def several (k : Int) : List Mdl → Mdl
  | [m] => m
  | l => .mk k [] l
def row (s : W) (k : Int) (c : UInt8) (X : Nat → R Mdl) (p : Nat) : R Mdl :=
  match X p with
  | .bad e a => .bad e a
  | .ok m q => match more s X c (s.length + 1) q [m] with
    | .bad e a => .bad e a
    | .ok l q => .ok (several k l) q
def seq (s : W) (A : Nat → R Mdl) : Nat → R Mdl := row s 5 44 (rep s A)
def orr (s : W) : Nat → Nat → Nat → R Mdl
  | 0, _, _ => .bad 0 0
  | f + 1, D, p => row s 6 124 (seq s (atom s (orr s f) D)) p
mutual
def nms : Mdl → List W
  | .mk k n l => (if k = 4 then [n] else []) ++ nmsL l
def nmsL : List Mdl → List W
  | [] => []
  | m :: l => nms m ++ nmsL l
end
theorem nmsL_append (a b : List Mdl) : nmsL (a ++ b) = nmsL a ++ nmsL b := by
  induction a with
  | nil => simp [nmsL]
  | cons m l ih => simp [nmsL, ih]
theorem nms_several (k : Int) (hk : k ≠ 4) (l : List Mdl) : nms (several k l) = nmsL l := by
  unfold several
  split
  · simp [nmsL]
  · simp [nms, hk]
theorem skip_le (s : W) (p : Nat) (hp : p ≤ s.length) : p ≤ skip s p ∧ skip s p ≤ s.length := by
  unfold skip
  have := (List.takeWhile_sublist (p := blank) (l := s.drop p)).length_le
  rw [List.length_drop] at this
  omega
theorem skip_of {s : W} {p : Nat} (h : ∀ c, s[p]? = some c → blank c = false) : skip s p = p := by
  unfold skip
  cases hd : s.drop p with
  | nil => rfl
  | cons a l =>
    have : s[p]? = some a := by rw [← List.head?_drop, hd]; rfl
    rw [List.takeWhile_cons_of_neg (by rw [h a this]; decide)]
    rfl
theorem skip_step {s : W} {p : Nat} {c : UInt8} (h : s[p]? = some c) (hb : blank c = true) : skip s p = skip s (p + 1) := by
  unfold skip
  have hd : s.drop p = c :: s.drop (p + 1) := by
    have hl := (List.getElem?_eq_some_iff.1 h)
    obtain ⟨hl, he⟩ := hl
    rw [← he]
    exact List.drop_eq_getElem_cons hl
  rw [hd, List.takeWhile_cons_of_pos hb, List.length_cons]
  omega
theorem tl_le (s : W) (p : Nat) (hp : p ≤ s.length) : p + tl s p ≤ s.length := by
  unfold tl
  split
  · have := (List.takeWhile_sublist (p := low) (l := s.drop p)).length_le
    rw [List.length_drop] at this
    unfold wordAt
    omega
  · split <;> omega
theorem adv_le (s : W) (p : Nat) (hp : p ≤ s.length) : adv s p ≤ s.length := (skip_le s _ (tl_le s p hp)).2
theorem sgn_end {s : W} {p : Nat} (h : s.length ≤ p) : sgn s p = ([], 0) := by
  unfold sgn wordAt
  rw [List.drop_eq_nil_of_le h, List.getElem?_eq_none h]
  simp
theorem adv_gt {s : W} {p : Nat} (hp : p ≤ s.length) (h : sgn s p ≠ ([], 0)) : p < adv s p := by
  have hl : p < s.length := by
    by_cases hl : p < s.length
    · exact hl
    · exact absurd (sgn_end (by omega)) h
  have : 0 < tl s p := by
    unfold tl
    split
    · rename_i hw; exact List.length_pos_iff.2 hw
    · exact Nat.one_pos
  have := (skip_le s (p + tl s p) (tl_le s p hp)).1
  unfold adv
  omega
def Up (s : W) (Rf : Nat → R Mdl) : Prop := ∀ p m q, p ≤ s.length → Rf p = .ok m q → p < q ∧ q ≤ s.length
theorem atom_up {s : W} {O : Nat → Nat → R Mdl} {D : Nat} (h : Up s (O (D + 1))) : Up s (atom s O D) := by
  intro p m q hp ha
  have st : ∀ {x : W × UInt8}, sgn s p = x → x ≠ ([], 0) → p < adv s p := fun hx hn => adv_gt hp (by rw [hx]; exact hn)
  unfold atom at ha
  split at ha
  · rename_i h1; cases ha; exact ⟨st h1 (by decide), adv_le s p hp⟩
  split at ha
  · rename_i h1; cases ha; exact ⟨st h1 (by decide), adv_le s p hp⟩
  split at ha
  · rename_i h1; cases ha; exact ⟨st h1 (by decide), adv_le s p hp⟩
  split at ha
  · rename_i h1
    have h2 := st h1 (by decide)
    split at ha
    · cases ha
    · split at ha
      · cases ha
      · rename_i m' q' hm
        obtain ⟨u1, u2⟩ := h _ _ _ (adv_le s p hp) hm
        split at ha
        · rename_i h3
          cases ha
          have := adv_gt u2 (by rw [h3]; decide)
          exact ⟨by omega, adv_le s _ u2⟩
        · cases ha
  split at ha
  · rename_i h1
    cases ha
    refine ⟨adv_gt hp fun e => ?_, adv_le s p hp⟩
    rw [e] at h1
    exact absurd h1 (by decide)
  · cases ha
theorem rep_up {s : W} {A : Nat → R Mdl} (h : Up s A) : Up s (rep s A) := by
  intro p m q hp ha
  unfold rep at ha
  split at ha
  · cases ha
  · rename_i m' q' hm
    obtain ⟨u1, u2⟩ := h _ _ _ hp hm
    have st : ∀ {x : W × UInt8}, sgn s q' = x → x ≠ ([], 0) → q' < adv s q' := fun hx hn => adv_gt u2 (by rw [hx]; exact hn)
    split at ha
    · rename_i h1; cases ha; have := st h1 (by decide); exact ⟨by omega, adv_le s _ u2⟩
    split at ha
    · rename_i h1; cases ha; have := st h1 (by decide); exact ⟨by omega, adv_le s _ u2⟩
    split at ha
    · rename_i h1; cases ha; have := st h1 (by decide); exact ⟨by omega, adv_le s _ u2⟩
    · cases ha; exact ⟨u1, u2⟩
theorem more_up {s : W} {X : Nat → R Mdl} {c : UInt8} (hc : c ≠ 0) (h : Up s X) : ∀ n p l l' q, p ≤ s.length → more s X c n p l = .ok l' q → p ≤ q ∧ q ≤ s.length
  | 0, p, l, l', q, hp, ha => by cases ha; exact ⟨Nat.le_refl _, hp⟩
  | n + 1, p, l, l', q, hp, ha => by
    rw [more] at ha
    split at ha
    · rename_i h1
      have := adv_gt hp (by rw [h1]; intro e; injection e with _ e; exact hc e)
      split at ha
      · cases ha
      · rename_i m q' hm
        obtain ⟨u1, u2⟩ := h _ _ _ (adv_le s p hp) hm
        have := more_up hc h n q' _ l' q u2 ha
        exact ⟨by omega, this.2⟩
    · cases ha; exact ⟨Nat.le_refl _, hp⟩
theorem row_up {s : W} {X : Nat → R Mdl} {k : Int} {c : UInt8} (hc : c ≠ 0) (h : Up s X) : Up s (row s k c X) := by
  intro p m q hp ha
  unfold row at ha
  split at ha
  · cases ha
  · rename_i m' q' hm
    obtain ⟨u1, u2⟩ := h _ _ _ hp hm
    split at ha
    · cases ha
    · rename_i l q2 hl
      cases ha
      have := more_up hc h _ _ _ _ _ u2 hl
      exact ⟨by omega, this.2⟩
theorem orr_up (s : W) : ∀ f D, Up s (orr s f D)
  | 0, D => fun p m q hp ha => by cases ha
  | f + 1, D => row_up (by decide) (row_up (by decide) (rep_up (atom_up (orr_up s f (D + 1)))))
def elem (s : W) (l : List W) (p : Nat) : R (W × Mdl) :=
  if isName (sgn s p).1 = true then
    if (sgn s p).1 ∈ l then .bad 5 p
    else if 8 ≤ l.length then .bad 2 p
    else if sgn s (adv s p) = ([], 61) then
      match orr s (s.length + 1) 0 (adv s (adv s p)) with
      | .bad e a => .bad e a
      | .ok m q => if sgn s q = ([], 59) then .ok ((sgn s p).1, m) (adv s q) else .bad 1 q
    else .bad 1 (adv s p)
  else .bad 1 p
theorem elem_up {s : W} {l : List W} {p q : Nat} {x : W × Mdl} (hp : p ≤ s.length) (h : elem s l p = .ok x q) : p < q ∧ q ≤ s.length := by
  unfold elem at h
  split at h
  · rename_i h1
    have a1 := adv_gt hp (fun e => by rw [e] at h1; exact absurd h1 (by decide))
    split at h
    · cases h
    split at h
    · cases h
    split at h
    · rename_i h3
      have l1 := adv_le s p hp
      have a2 := adv_gt l1 (by rw [h3]; decide)
      split at h
      · cases h
      · rename_i m q' hm
        obtain ⟨u1, u2⟩ := orr_up s _ _ _ _ _ (adv_le s _ l1) hm
        split at h
        · rename_i h4
          cases h
          have a3 := adv_gt u2 (by rw [h4]; decide)
          exact ⟨by omega, adv_le s _ u2⟩
        · cases h
    · cases h
  · cases h
theorem elem_lt {s : W} {l : List W} {p q : Nat} {x : W × Mdl} (h : elem s l p = .ok x q) : l.length < 8 := by
  unfold elem at h
  split at h
  · split at h
    · cases h
    split at h
    · cases h
    · rename_i h1 _ _; omega
  · cases h
def nmsE : List (W × Mdl) → List W
  | [] => []
  | e :: l => nms e.2 ++ nmsE l
theorem nmsE_append (a b : List (W × Mdl)) : nmsE (a ++ b) = nmsE a ++ nmsE b := by
  induction a with
  | nil => simp [nmsE]
  | cons m l ih => simp [nmsE, ih]
def elems (s : W) : Nat → Nat → List (W × Mdl) → R (List (W × Mdl))
  | 0, p, l => .ok l p
  | n + 1, p, l => if sgn s p = (wElement, 0) then match elem s (l.map (·.1)) (adv s p) with
      | .bad e a => .bad e a
      | .ok x q => elems s n q (l ++ [x])
    else if sgn s p = ([], 0) then .ok l p else .bad 1 p
def known (root : W) (l : List (W × Mdl)) : Bool := (root :: nmsE l).all fun w => decide (w ∈ l.map (·.1))
theorem elems_step {s : W} {n p : Nat} {l : List (W × Mdl)} (h : sgn s p = (wElement, 0)) : elems s (n + 1) p l = match elem s (l.map (·.1)) (adv s p) with
      | .bad e a => .bad e a
      | .ok x q => elems s n q (l ++ [x]) := by rw [elems, if_pos h]
theorem elems_end {s : W} {n p : Nat} {l : List (W × Mdl)} (h0 : ¬ sgn s p = (wElement, 0)) (h : sgn s p = ([], 0)) : elems s n p l = .ok l p := by
  cases n with
  | zero => rfl
  | succ n => rw [elems, if_neg h0, if_pos h]
theorem elems_bad {s : W} {n p : Nat} {l : List (W × Mdl)} (h0 : ¬ sgn s p = (wElement, 0)) (h : ¬ sgn s p = ([], 0)) : elems s (n + 1) p l = .bad 1 p := by
  rw [elems, if_neg h0, if_neg h]
def finish (root : W) : R (List (W × Mdl)) → R (W × List (W × Mdl))
  | .bad e a => .bad e a
  | .ok l _ => if known root l = true then .ok (root, l) 0 else .bad 6 0
def parse (s : W) : R (W × List (W × Mdl)) :=
  if 2000 < s.length then .bad 2 0
  else if sgn s (skip s 0) = (wRoot, 0) then
    if isName (sgn s (adv s (skip s 0))).1 = true then
      if sgn s (adv s (adv s (skip s 0))) = ([], 59) then
        finish (sgn s (adv s (skip s 0))).1 (elems s (s.length + 1) (adv s (adv s (adv s (skip s 0)))) [])
      else .bad 1 (adv s (adv s (skip s 0)))
    else .bad 1 (adv s (skip s 0))
  else .bad 1 (skip s 0)
end SchM
end

section
/- A plain model of schemas' texts: signs one behind the other; a schema of one name is read. Conditions: none. -/
namespace SchM
def Nb (r : W) : Prop := ∀ c, r.head? = some c → blank c = false
def Nl (r : W) : Prop := ∀ c, r.head? = some c → low c = false
theorem blank_nlow {c : UInt8} (h : blank c = true) : low c = false := by
  unfold blank at h
  rw [Bool.or_eq_true] at h
  rcases h with h | h
  · have := eq_of_beq h; subst this; decide
  · have := eq_of_beq h; subst this; decide
theorem takeWhile_all {α : Type} (f : α → Bool) (a r : List α) (ha : ∀ c ∈ a, f c = true) (hr : ∀ c, r.head? = some c → f c = false) : (a ++ r).takeWhile f = a := by
  induction a with
  | nil =>
    cases r with
    | nil => rfl
    | cons c r => rw [List.nil_append, List.takeWhile_cons_of_neg (by rw [hr c rfl]; decide)]
  | cons c a ih =>
    rw [List.cons_append, List.takeWhile_cons_of_pos (ha c (List.mem_cons_self ..)), ih fun x hx => ha x (List.mem_cons_of_mem _ hx)]
theorem skip_drop {s : W} {p : Nat} {b r : W} (hd : s.drop p = b ++ r) (hb : ∀ c ∈ b, blank c = true) (hr : Nb r) : s.drop (skip s p) = r := by
  unfold skip
  rw [hd, takeWhile_all _ b r hb hr, ← List.drop_drop, hd, List.drop_left]
theorem word_step {s : W} {p : Nat} {w b r : W} (hd : s.drop p = w ++ (b ++ r)) (hw : w ≠ []) (hl : ∀ c ∈ w, low c = true) (hb : ∀ c ∈ b, blank c = true) (hn : Nl (b ++ r)) (hr : Nb r) : sgn s p = (w, 0) ∧ s.drop (adv s p) = r := by
  have e : wordAt s p = w := by unfold wordAt; rw [hd, takeWhile_all _ w _ hl hn]
  refine ⟨by unfold sgn; rw [e, if_pos hw], ?_⟩
  unfold adv tl
  rw [e, if_pos hw]
  exact skip_drop (by rw [← List.drop_drop, hd, List.drop_left]) hb hr
theorem char_step {s : W} {p : Nat} {c : UInt8} {b r : W} (hd : s.drop p = c :: (b ++ r)) (hc : low c = false) (h0 : c ≠ 0) (hb : ∀ c ∈ b, blank c = true) (hr : Nb r) : sgn s p = ([], c) ∧ s.drop (adv s p) = r := by
  have e : wordAt s p = [] := by unfold wordAt; rw [hd, List.takeWhile_cons_of_neg (by rw [hc]; decide)]
  have g : s[p]? = some c := by rw [← List.head?_drop, hd]; rfl
  have hp : p < s.length := (List.getElem?_eq_some_iff.1 g).1
  refine ⟨by unfold sgn; rw [e, if_neg (by simp), g]; show (if c = 0 then _ else _) = _; rw [if_neg h0], ?_⟩
  unfold adv tl
  rw [e, if_neg (by simp), if_pos hp]
  exact skip_drop (by rw [← List.drop_drop, hd]; rfl) hb hr
theorem end_step {s : W} {p : Nat} (hd : s.drop p = []) : sgn s p = ([], 0) := sgn_end (by
  have := congrArg List.length hd
  rw [List.length_drop] at this
  rw [List.length_nil] at this
  omega)
theorem n_c {f : UInt8 → Bool} {c : UInt8} {r : W} (h : f c = false) : ∀ x, (c :: r).head? = some x → f x = false := by
  intro x hx
  cases hx
  exact h
end SchM
end

section
/- A plain model of schemas' texts: how large models are. Conditions: none. -/
namespace SchM
mutual
def sz : Mdl → Nat
  | .mk _ _ l => 1 + szL l
def szL : List Mdl → Nat
  | [] => 0
  | m :: l => sz m + szL l
end
theorem sz_pos : ∀ m, 1 ≤ sz m
  | .mk k n l => by simp only [sz]; omega
theorem szL_len : ∀ l : List Mdl, l.length ≤ szL l
  | [] => Nat.le_refl _
  | m :: l => by have := szL_len l; have := sz_pos m; simp only [szL, List.length_cons]; omega
theorem szL_append (a b : List Mdl) : szL (a ++ b) = szL a + szL b := by
  induction a with
  | nil => simp [szL]
  | cons m l ih => simp [szL, ih]; omega
theorem sz_get : ∀ (l : List Mdl) (i : Nat) (m : Mdl), l[i]? = some m → sz m ≤ szL l
  | [], i, m, h => by simp at h
  | a :: l, 0, m, h => by cases h; simp [szL]
  | a :: l, i + 1, m, h => by have := sz_get l i m h; simp only [szL]; omega
theorem sz_several (k : Int) (l : List Mdl) (h : 0 < l.length) : sz (several k l) + 1 ≤ szL l + l.length := by
  unfold several
  split
  · simp [szL]
  · rename_i h1
    have : 2 ≤ l.length := by
      match l, h, h1 with
      | [m], _, h1 => exact absurd rfl (h1 m)
      | _ :: _ :: _, _, _ => simp
    simp only [sz]
    omega
def Sm (s : W) (Rf : Nat → R Mdl) : Prop := ∀ p m q, p ≤ s.length → Rf p = .ok m q → sz m + p ≤ q
theorem atom_sm {s : W} {O : Nat → Nat → R Mdl} {D : Nat} (u : Up s (O (D + 1))) (h : Sm s (O (D + 1))) : Sm s (atom s O D) := by
  intro p m q hp ha
  have st : ∀ {x : W × UInt8}, sgn s p = x → x ≠ ([], 0) → p < adv s p := fun hx hn => adv_gt hp (by rw [hx]; exact hn)
  have leaf : ∀ (k : Int) (n : W), sz (.mk k n []) = 1 := fun k n => rfl
  unfold atom at ha
  split at ha
  · rename_i h1; cases ha; have := st h1 (by decide); rw [leaf]; omega
  split at ha
  · rename_i h1; cases ha; have := st h1 (by decide); rw [leaf]; omega
  split at ha
  · rename_i h1; cases ha; have := st h1 (by decide); rw [leaf]; omega
  split at ha
  · rename_i h1
    have h2 := st h1 (by decide)
    split at ha
    · cases ha
    · split at ha
      · cases ha
      · rename_i m' q' hm
        have s1 := h _ _ _ (adv_le s p hp) hm
        obtain ⟨u1, u2⟩ := u _ _ _ (adv_le s p hp) hm
        split at ha
        · rename_i h3
          cases ha
          have := adv_gt u2 (by rw [h3]; decide)
          omega
        · cases ha
  split at ha
  · rename_i h1
    cases ha
    have : p < adv s p := adv_gt hp fun e => by rw [e] at h1; exact absurd h1 (by decide)
    rw [leaf]; omega
  · cases ha
theorem rep_sm {s : W} {A : Nat → R Mdl} (u : Up s A) (h : Sm s A) : Sm s (rep s A) := by
  intro p m q hp ha
  unfold rep at ha
  split at ha
  · cases ha
  · rename_i m' q' hm
    have s1 := h _ _ _ hp hm
    obtain ⟨u1, u2⟩ := u _ _ _ hp hm
    have st : ∀ {x : W × UInt8}, sgn s q' = x → x ≠ ([], 0) → q' < adv s q' := fun hx hn => adv_gt u2 (by rw [hx]; exact hn)
    have one : ∀ (k : Int), sz (.mk k [] [m']) = 1 + sz m' := fun k => by simp [sz, szL]
    split at ha
    · rename_i h1; cases ha; have := st h1 (by decide); rw [one]; omega
    split at ha
    · rename_i h1; cases ha; have := st h1 (by decide); rw [one]; omega
    split at ha
    · rename_i h1; cases ha; have := st h1 (by decide); rw [one]; omega
    · cases ha; exact s1
theorem more_sm {s : W} {X : Nat → R Mdl} {c : UInt8} (hc : c ≠ 0) (u : Up s X) (h : Sm s X) : ∀ n p l l' q, p ≤ s.length → more s X c n p l = .ok l' q → szL l' + l'.length + p ≤ szL l + l.length + q
  | 0, p, l, l', q, hp, ha => by cases ha; omega
  | n + 1, p, l, l', q, hp, ha => by
    rw [more] at ha
    split at ha
    · rename_i h1
      have := adv_gt hp (by rw [h1]; intro e; injection e with _ e; exact hc e)
      split at ha
      · cases ha
      · rename_i m q' hm
        have s1 := h _ _ _ (adv_le s p hp) hm
        obtain ⟨u1, u2⟩ := u _ _ _ (adv_le s p hp) hm
        have := more_sm hc u h n q' _ l' q u2 ha
        rw [szL_append] at this
        simp [szL] at this
        omega
    · cases ha; omega
theorem more_pos {s : W} {X : Nat → R Mdl} {c : UInt8} : ∀ n p l l' q, 0 < l.length → more s X c n p l = .ok l' q → 0 < l'.length
  | 0, p, l, l', q, hp, ha => by cases ha; exact hp
  | n + 1, p, l, l', q, hp, ha => by
    rw [more] at ha
    split at ha
    · split at ha
      · cases ha
      · exact more_pos n _ _ l' q (by simp) ha
    · cases ha; exact hp
theorem row_sm {s : W} {X : Nat → R Mdl} {k : Int} {c : UInt8} (hc : c ≠ 0) (u : Up s X) (h : Sm s X) : Sm s (row s k c X) := by
  intro p m q hp ha
  unfold row at ha
  split at ha
  · cases ha
  · rename_i m' q' hm
    have s1 := h _ _ _ hp hm
    obtain ⟨u1, u2⟩ := u _ _ _ hp hm
    split at ha
    · cases ha
    · rename_i l q2 hl
      cases ha
      have h1 := more_sm hc u h _ _ _ _ _ u2 hl
      have h2 := more_pos _ _ _ _ _ (by simp) hl
      have h3 := sz_several k l h2
      simp [szL] at h1
      omega
theorem orr_sm (s : W) : ∀ f D, Sm s (orr s f D)
  | 0, D => fun p m q hp ha => by cases ha
  | f + 1, D => by
    have ua := atom_up (orr_up s f (D + 1))
    have ur := rep_up ua
    exact row_sm (by decide) (row_up (by decide) ur) (row_sm (by decide) ur (rep_sm ua (atom_sm (orr_up s f (D + 1)) (orr_sm s f (D + 1)))))
theorem elem_sm {s : W} {l : List W} {p q : Nat} {x : W × Mdl} (hp : p ≤ s.length) (h : elem s l p = .ok x q) : sz x.2 ≤ s.length := by
  unfold elem at h
  split at h
  · split at h
    · cases h
    split at h
    · cases h
    split at h
    · split at h
      · cases h
      · rename_i m q' hm
        have := orr_sm s _ _ _ _ _ (adv_le s _ (adv_le s p hp)) hm
        have u := orr_up s _ _ _ _ _ (adv_le s _ (adv_le s p hp)) hm
        split at h
        · cases h
          show sz m ≤ _
          omega
        · cases h
    · cases h
  · cases h
end SchM
end

section
/- A plain model of schemas' texts: how a schema is written. Conditions: none. -/
namespace SchM
def kd : Mdl → Int
  | .mk k _ _ => k
def par (k inn : Int) : Bool := decide (k = 6) || (decide (k = 5) && decide (¬ inn = 6)) || ((decide (k = 7) || decide (k = 8) || decide (k = 9)) && decide (inn = 7))
def joinW (b : W) : List W → W
  | [] => []
  | [x] => x
  | x :: y :: l => x ++ (b ++ joinW b (y :: l))
mutual
def txt : Mdl → W
  | .mk k n l => if k = 1 then wEmpty else if k = 2 then wAny else if k = 3 then wText else if k = 4 then n
    else if k = 7 then (txtL 7 l).headD [] ++ [42] else if k = 8 then (txtL 7 l).headD [] ++ [43] else if k = 9 then (txtL 7 l).headD [] ++ [63]
    else joinW (if k = 6 then [32, 124, 32] else [44, 32]) (txtL k l)
def txtL (inn : Int) : List Mdl → List W
  | [] => []
  | m :: l => (if par (kd m) inn = true then [40] ++ txt m ++ [41] else txt m) :: txtL inn l
end
def hw (inn : Int) (m : Mdl) : W := if par (kd m) inn = true then [40] ++ txt m ++ [41] else txt m
theorem txtL_map (inn : Int) : ∀ l, txtL inn l = l.map (hw inn)
  | [] => rfl
  | m :: l => by rw [txtL, List.map_cons, txtL_map inn l]; rfl
theorem hw_ge (inn : Int) (m : Mdl) : (txt m).length ≤ (hw inn m).length := by
  unfold hw
  split
  · simp; omega
  · exact Nat.le_refl _
mutual
def okT : Mdl → Bool
  | .mk k _ l => (!(decide (k = 7) || decide (k = 8) || decide (k = 9)) || decide (0 < l.length)) && okTL l
def okTL : List Mdl → Bool
  | [] => true
  | m :: l => okT m && okTL l
end
def elT (e : W × Mdl) : W := [32, 101, 108, 101, 109, 101, 110, 116, 32] ++ e.1 ++ [32, 61, 32] ++ txt e.2 ++ [59]
def text (x : W × List (W × Mdl)) : W := [114, 111, 111, 116, 32] ++ x.1 ++ [59] ++ (x.2.map elT).flatten
end SchM
end

section
/- A plain model of schemas' texts: the signs of a text, wherever blanks lie. Conditions: none. -/
namespace SchM
abbrev Tok := W × UInt8
def flush (acc : W) : List Tok := if acc = [] then [] else [(acc, 0)]
def lx : W → W → List Tok
  | acc, [] => flush acc
  | acc, c :: r => if low c = true then lx (acc ++ [c]) r else if blank c = true then flush acc ++ lx [] r else flush acc ++ (([], c) :: lx [] r)
theorem lx_low {acc : W} {c : UInt8} {r : W} (h : low c = true) : lx acc (c :: r) = lx (acc ++ [c]) r := by rw [lx, if_pos h]
theorem lx_blank {acc : W} {c : UInt8} {r : W} (h : blank c = true) : lx acc (c :: r) = flush acc ++ lx [] r := by rw [lx, if_neg (by rw [blank_nlow h]; decide), if_pos h]
theorem lx_char {acc : W} {c : UInt8} {r : W} (h : low c = false) (hb : blank c = false) : lx acc (c :: r) = flush acc ++ (([], c) :: lx [] r) := by rw [lx, if_neg (by rw [h]; decide), if_neg (by rw [hb]; decide)]
theorem lx_word : ∀ (w acc r : W), (∀ c ∈ w, low c = true) → lx acc (w ++ r) = lx (acc ++ w) r
  | [], acc, r, _ => by rw [List.nil_append, List.append_nil]
  | c :: w, acc, r, h => by
    rw [List.cons_append, lx_low (h c (List.mem_cons_self ..)), lx_word w _ r fun x hx => h x (List.mem_cons_of_mem _ hx), List.append_assoc]
    rfl
theorem lx_flush (acc : W) : ∀ r : W, Nl r → lx acc r = flush acc ++ lx [] r
  | [], _ => by simp [lx, flush]
  | c :: r, h => by
    have hl := h c rfl
    by_cases hb : blank c = true
    · rw [lx_blank hb, lx_blank hb]; simp [flush]
    · have hb' : blank c = false := by simpa using hb
      rw [lx_char hl hb', lx_char hl hb']; simp [flush]
theorem lx_blanks : ∀ (b r : W), (∀ c ∈ b, blank c = true) → lx [] (b ++ r) = lx [] r
  | [], r, _ => rfl
  | c :: b, r, h => by
    rw [List.cons_append, lx_blank (h c (List.mem_cons_self ..)), lx_blanks b r fun x hx => h x (List.mem_cons_of_mem _ hx)]
    rfl
theorem lx_w {w r : W} (hw : w ≠ []) (hl : ∀ c ∈ w, low c = true) (hr : Nl r) : lx [] (w ++ r) = (w, 0) :: lx [] r := by
  rw [lx_word w [] r hl, List.nil_append, lx_flush w r hr]
  unfold flush
  rw [if_neg hw]
  rfl
def Toks (s : W) : Nat → List Tok → Prop
  | p, [] => sgn s p = ([], 0)
  | p, t :: ts => sgn s p = t ∧ Toks s (adv s p) ts
theorem split_while (f : UInt8 → Bool) (l : W) : ∃ a r, l = a ++ r ∧ (∀ c ∈ a, f c = true) ∧ ∀ c, r.head? = some c → f c = false := by
  refine ⟨l.takeWhile f, l.dropWhile f, (List.takeWhile_append_dropWhile).symm, fun c hc => ?_, fun c hc => ?_⟩
  · have := List.all_takeWhile (p := f) (l := l)
    rw [List.all_eq_true] at this
    exact this c hc
  · have := List.head?_dropWhile_not f l
    rw [hc] at this
    simpa using this
theorem toks_lx {s : W} (hz : ∀ c ∈ s, c ≠ 0) : ∀ n p, s.length - p ≤ n → p ≤ s.length → Nb (s.drop p) → Toks s p (lx [] (s.drop p)) := by
  intro n
  induction n with
  | zero =>
    intro p hn hp _
    have : s.drop p = [] := List.drop_eq_nil_of_le (by omega)
    rw [this]
    exact end_step this
  | succ n ih =>
    intro p hn hp hb
    cases hd : s.drop p with
    | nil => exact end_step hd
    | cons c r =>
      have hmem : c ∈ s := List.mem_of_mem_drop (by rw [hd]; exact List.mem_cons_self ..)
      rw [hd] at hb
      have hnb := hb c rfl
      by_cases hl : low c = true
      · obtain ⟨w, r', e1, hw, hr'⟩ := split_while low (c :: r)
        obtain ⟨b, r'', e2, hbb, hr''⟩ := split_while blank r'
        have wne : w ≠ [] := fun e => by
          rw [e, List.nil_append] at e1
          have := hr' c (by rw [← e1]; rfl)
          rw [hl] at this
          cases this
        subst e2
        obtain ⟨g, d⟩ := word_step (by rw [hd]; exact e1) wne hw hbb hr' hr''
        rw [e1, lx_w wne hw hr', lx_blanks b r'' hbb]
        refine ⟨g, ?_⟩
        have hgt := adv_gt hp (by rw [g]; intro e; injection e with e _; exact wne e)
        have hle := adv_le s p hp
        have := ih (adv s p) (by omega) hle (by rw [d]; exact hr'')
        rw [d] at this
        exact this
      · have hl' : low c = false := by simpa using hl
        obtain ⟨b, r'', e2, hbb, hr''⟩ := split_while blank r
        subst e2
        have h0 := hz c hmem
        obtain ⟨g, d⟩ := char_step hd hl' h0 hbb hr''
        rw [lx_char hl' hnb, lx_blanks b r'' hbb]
        refine ⟨g, ?_⟩
        have hgt := adv_gt hp (by rw [g]; intro e; injection e with _ e; exact h0 e)
        have hle := adv_le s p hp
        have := ih (adv s p) (by omega) hle (by rw [d]; exact hr'')
        rw [d] at this
        exact this
theorem toks_of {s : W} (hz : ∀ c ∈ s, c ≠ 0) : Toks s (skip s 0) (lx [] s) := by
  obtain ⟨b, r, e, hb, hr⟩ := split_while blank s
  have d : s.drop (skip s 0) = r := skip_drop (b := b) (by exact e) hb hr
  have := toks_lx hz s.length (skip s 0) (by omega) (skip_le s 0 (Nat.zero_le _)).2 (by rw [d]; exact hr)
  rw [d] at this
  have e2 : lx [] s = lx [] r := by
    rw [show lx [] s = lx [] (b ++ r) from congrArg _ e, lx_blanks b r hb]
  rw [e2]
  exact this
inductive Bl : W → W → Prop
  | nil : Bl [] []
  | cons {c : UInt8} {t u : W} (pre post : W) (h1 : pre = [] ∨ pre = [10] ∧ c = 32) (h2 : post = [] ∨ post = [32, 32] ∧ low c = false) (h : Bl t u) : Bl (c :: t) (pre ++ c :: (post ++ u))
theorem Bl.snoc {c : UInt8} {pre post : W} (h1 : pre = [] ∨ pre = [10] ∧ c = 32) (h2 : post = [] ∨ post = [32, 32] ∧ low c = false) {t u : W} (h : Bl t u) : Bl (t ++ [c]) (u ++ (pre ++ c :: post)) := by
  induction h with
  | nil =>
    have := Bl.cons pre post h1 h2 .nil
    rw [List.append_nil] at this
    exact this
  | cons p q g1 g2 _ ih =>
    have := Bl.cons p q g1 g2 ih
    simp only [List.append_assoc, List.cons_append] at this ⊢
    exact this
def joinT (c : UInt8) : List (List Tok) → List Tok
  | [] => []
  | [x] => x
  | x :: y :: l => x ++ (([], c) :: joinT c (y :: l))
mutual
def tk : Mdl → List Tok
  | .mk k n l => if k = 1 then [(wEmpty, 0)] else if k = 2 then [(wAny, 0)] else if k = 3 then [(wText, 0)] else if k = 4 then [(n, 0)]
    else if k = 7 then (tkL 7 l).headD [] ++ [([], 42)] else if k = 8 then (tkL 7 l).headD [] ++ [([], 43)] else if k = 9 then (tkL 7 l).headD [] ++ [([], 63)]
    else joinT (if k = 6 then 124 else 44) (tkL k l)
def tkL (inn : Int) : List Mdl → List (List Tok)
  | [] => []
  | m :: l => (if par (kd m) inn = true then [([], 40)] ++ tk m ++ [([], 41)] else tk m) :: tkL inn l
end
def tkH (inn : Int) (m : Mdl) : List Tok := if par (kd m) inn = true then [([], 40)] ++ tk m ++ [([], 41)] else tk m
mutual
def okM : Mdl → Bool
  | .mk k n l => (decide (k = 1 ∨ k = 2 ∨ k = 3) && decide (l = []) && decide (n = []) || decide (k = 4) && isName n && n.all low && decide (l = []) || decide (k = 5 ∨ k = 6) && decide (2 ≤ l.length) && decide (n = []) || decide (k = 7 ∨ k = 8 ∨ k = 9) && decide (l.length = 1) && decide (n = [])) && okML l
def okML : List Mdl → Bool
  | [] => true
  | m :: l => okM m && okML l
end
end SchM
end

section
/- A plain model of schemas' texts: the signs of a schema's text. Conditions: none. -/
namespace SchM
theorem okML_get : ∀ (l : List Mdl), okML l = true → ∀ m ∈ l, okM m = true
  | [], _, m, hm => by simp at hm
  | a :: l, h, m, hm => by
    unfold okML at h
    rw [Bool.and_eq_true] at h
    rcases List.mem_cons.1 hm with rfl | hm
    · exact h.1
    · exact okML_get l h.2 m hm
theorem okM_cases {k : Int} {n : W} {l : List Mdl} (h : okM (.mk k n l) = true) : okML l = true ∧ (((k = 1 ∨ k = 2 ∨ k = 3) ∧ l = [] ∧ n = []) ∨ (k = 4 ∧ isName n = true ∧ (∀ c ∈ n, low c = true) ∧ l = []) ∨ ((k = 5 ∨ k = 6) ∧ 2 ≤ l.length ∧ n = []) ∨ ((k = 7 ∨ k = 8 ∨ k = 9) ∧ (∃ m, l = [m]) ∧ n = [])) := by
  unfold okM at h
  rw [Bool.and_eq_true] at h
  refine ⟨h.2, ?_⟩
  have h1 := h.1
  simp only [Bool.or_eq_true, Bool.and_eq_true, decide_eq_true_eq, List.all_eq_true] at h1
  rcases h1 with ((h1 | h1) | h1) | h1
  · exact .inl ⟨h1.1.1, h1.1.2, h1.2⟩
  · exact .inr (.inl ⟨h1.1.1.1, h1.1.1.2, h1.1.2, h1.2⟩)
  · exact .inr (.inr (.inl ⟨h1.1.1, h1.1.2, h1.2⟩))
  · refine .inr (.inr (.inr ⟨h1.1.1, ?_, h1.2⟩))
    match l, h1.1.2 with
    | [m], _ => exact ⟨m, rfl⟩
theorem isName_ne {w : W} (h : isName w = true) : w ≠ [] := (of_decide_eq_true h).1
def byT (k : Int) : UInt8 := if k = 6 then 124 else 44
def byW (k : Int) : W := if k = 6 then [32, 124, 32] else [44, 32]
theorem lx_by (k : Int) (r : W) : lx [] (byW k ++ r) = ([], byT k) :: lx [] r := by
  unfold byW byT
  split
  · show lx [] (32 :: 124 :: 32 :: r) = _
    rw [lx_blank (by decide), lx_char (by decide) (by decide), lx_blank (by decide)]
    rfl
  · show lx [] (44 :: 32 :: r) = _
    rw [lx_char (by decide) (by decide), lx_blank (by decide)]
    rfl
theorem nl_by (k : Int) (r : W) : Nl (byW k ++ r) := by
  unfold byW
  split
  · exact n_c (by decide)
  · exact n_c (by decide)
theorem lx_join (k : Int) (f : Mdl → W) (g : Mdl → List Tok) : ∀ (l : List Mdl), (∀ m ∈ l, ∀ r, Nl r → lx [] (f m ++ r) = g m ++ lx [] r) → ∀ r, Nl r → l ≠ [] → lx [] (joinW (byW k) (l.map f) ++ r) = joinT (byT k) (l.map g) ++ lx [] r
  | [], _, r, hr, h => absurd rfl h
  | [m], h, r, hr, _ => h m (List.mem_cons_self ..) r hr
  | m :: m' :: l, h, r, hr, _ => by
    have ih := lx_join k f g (m' :: l) (fun x hx => h x (List.mem_cons_of_mem _ hx)) r hr (by simp)
    have e1 : joinW (byW k) ((m :: m' :: l).map f) = f m ++ (byW k ++ joinW (byW k) ((m' :: l).map f)) := rfl
    have e2 : joinT (byT k) ((m :: m' :: l).map g) = g m ++ (([], byT k) :: joinT (byT k) ((m' :: l).map g)) := rfl
    rw [e1, e2, List.append_assoc, List.append_assoc, h m (List.mem_cons_self ..) _ (nl_by k _), lx_by, ih, List.append_assoc]
    rfl
theorem tkL_map (inn : Int) : ∀ l, tkL inn l = l.map (tkH inn)
  | [] => rfl
  | m :: l => by rw [tkL, List.map_cons, tkL_map inn l]; rfl
theorem lx_hw {m : Mdl} (inn : Int) (h : ∀ r, Nl r → lx [] (txt m ++ r) = tk m ++ lx [] r) (r : W) (hr : Nl r) : lx [] (hw inn m ++ r) = tkH inn m ++ lx [] r := by
  unfold hw tkH
  split
  · have e : [40] ++ txt m ++ [41] ++ r = 40 :: (txt m ++ (41 :: r)) := by simp
    rw [e, lx_char (by decide) (by decide), h _ (n_c (by decide)), lx_char (by decide) (by decide)]
    simp [flush]
  · exact h r hr
theorem lx_txt : ∀ (N : Nat) (m : Mdl), sz m ≤ N → okM m = true → ∀ r, Nl r → lx [] (txt m ++ r) = tk m ++ lx [] r
  | 0, .mk k n l, hN, _, _, _ => by simp [sz] at hN
  | N + 1, .mk k n l, hN, hok, r, hr => by
    have hN' : szL l ≤ N := by simp only [sz] at hN; omega
    obtain ⟨hl, hc⟩ := okM_cases hok
    have ih : ∀ m ∈ l, ∀ (inn : Int) r, Nl r → lx [] (hw inn m ++ r) = tkH inn m ++ lx [] r := fun m hm inn => by
      obtain ⟨i, hi⟩ := List.getElem?_of_mem hm
      have := sz_get l i m hi
      exact lx_hw inn (lx_txt N m (by omega) (okML_get l hl m hm))
    have rp : ∀ (b : UInt8) (m : Mdl), l = [m] → low b = false → blank b = false → ∀ r, lx [] ((txtL 7 l).headD [] ++ [b] ++ r) = (tkL 7 l).headD [] ++ [([], b)] ++ lx [] r := fun b m e h1 h2 r => by
      subst e
      show lx [] (hw 7 m ++ [b] ++ r) = tkH 7 m ++ [([], b)] ++ lx [] r
      rw [List.append_assoc, List.append_assoc]
      show lx [] (hw 7 m ++ (b :: r)) = tkH 7 m ++ (([], b) :: lx [] r)
      rw [ih m (List.mem_cons_self ..) 7 _ (n_c h1), lx_char h1 h2]
      rfl
    rcases hc with ⟨hk, h1, h2⟩ | ⟨rfl, h1, h2, h3⟩ | ⟨hk, h1, h2⟩ | ⟨hk, ⟨m, h1⟩, h2⟩
    · rcases hk with rfl | rfl | rfl
      · exact lx_w (w := wEmpty) (by decide) (by decide) hr
      · exact lx_w (w := wAny) (by decide) (by decide) hr
      · exact lx_w (w := wText) (by decide) (by decide) hr
    · exact lx_w (w := n) (isName_ne h1) h2 hr
    · have ne : l ≠ [] := fun e => by rw [e] at h1; simp at h1
      have e1 : txt (.mk k n l) = joinW (byW k) (l.map (hw k)) := by
        rw [← txtL_map]
        rcases hk with rfl | rfl <;> (rw [txt]; rfl)
      have e2 : tk (.mk k n l) = joinT (byT k) (l.map (tkH k)) := by
        rw [← tkL_map]
        rcases hk with rfl | rfl <;> (rw [tk]; rfl)
      rw [e1, e2]
      exact lx_join k (hw k) (tkH k) l (fun m hm => ih m hm k) r hr ne
    · rcases hk with rfl | rfl | rfl
      · have e1 : txt (.mk 7 n l) = (txtL 7 l).headD [] ++ [42] := by rw [txt]; rfl
        have e2 : tk (.mk 7 n l) = (tkL 7 l).headD [] ++ [([], 42)] := by rw [tk]; rfl
        rw [e1, e2]
        exact rp 42 m h1 (by decide) (by decide) r
      · have e1 : txt (.mk 8 n l) = (txtL 7 l).headD [] ++ [43] := by rw [txt]; rfl
        have e2 : tk (.mk 8 n l) = (tkL 7 l).headD [] ++ [([], 43)] := by rw [tk]; rfl
        rw [e1, e2]
        exact rp 43 m h1 (by decide) (by decide) r
      · have e1 : txt (.mk 9 n l) = (txtL 7 l).headD [] ++ [63] := by rw [txt]; rfl
        have e2 : tk (.mk 9 n l) = (tkL 7 l).headD [] ++ [([], 63)] := by rw [tk]; rfl
        rw [e1, e2]
        exact rp 63 m h1 (by decide) (by decide) r
def tkE (e : W × Mdl) : List Tok := [(wElement, 0), (e.1, 0), ([], 61)] ++ tk e.2 ++ [([], 59)]
def tkX (x : W × List (W × Mdl)) : List Tok := [(wRoot, 0), (x.1, 0), ([], 59)] ++ (x.2.map tkE).flatten
def okX (x : W × List (W × Mdl)) : Prop := (isName x.1 = true ∧ ∀ c ∈ x.1, low c = true) ∧ ∀ e ∈ x.2, (isName e.1 = true ∧ ∀ c ∈ e.1, low c = true) ∧ okM e.2 = true
theorem lx_els : ∀ (l : List (W × Mdl)), (∀ e ∈ l, (isName e.1 = true ∧ ∀ c ∈ e.1, low c = true) ∧ okM e.2 = true) → lx [] ((l.map elT).flatten) = (l.map tkE).flatten
  | [], _ => rfl
  | e :: l, h => by
    obtain ⟨⟨h1, h2⟩, h3⟩ := h e (List.mem_cons_self ..)
    have ih := lx_els l fun x hx => h x (List.mem_cons_of_mem _ hx)
    have e1 : ((e :: l).map elT).flatten = 32 :: (wElement ++ (32 :: (e.1 ++ (32 :: 61 :: 32 :: (txt e.2 ++ (59 :: (l.map elT).flatten)))))) := by simp [elT, wElement]
    rw [e1, lx_blank (by decide), lx_w (by decide) (by decide) (n_c (by decide)), lx_blank (by decide), lx_w (isName_ne h1) h2 (n_c (by decide)), lx_blank (by decide), lx_char (by decide) (by decide), lx_blank (by decide), lx_txt _ e.2 (Nat.le_refl _) h3 _ (n_c (by decide)), lx_char (by decide) (by decide), ih]
    simp [tkE, flush]
theorem lx_text {x : W × List (W × Mdl)} (h : okX x) : lx [] (text x) = tkX x := by
  have e1 : text x = wRoot ++ (32 :: (x.1 ++ (59 :: (x.2.map elT).flatten))) := by simp [text, wRoot]
  rw [e1, lx_w (by decide) (by decide) (n_c (by decide)), lx_blank (by decide), lx_w (isName_ne h.1.1) h.1.2 (n_c (by decide)), lx_char (by decide) (by decide), lx_els x.2 h.2]
  simp [tkX, flush]
end SchM
end

section
/- A plain model of schemas' texts: what is written is read. Conditions: none. -/
namespace SchM
def Rd (s : W) (Rf : Nat → R Mdl) (ts : List Tok) (m : Mdl) (bad : List UInt8) : Prop :=
  ∀ p rest, p ≤ s.length → Toks s p (ts ++ rest) → (∀ t, rest.head? = some t → ∀ c ∈ bad, t ≠ ([], c)) → ∃ q, Rf p = .ok m q ∧ Toks s q rest ∧ q ≤ s.length
mutual
def dep : Mdl → Nat
  | .mk _ _ l => 1 + depL l
def depL : List Mdl → Nat
  | [] => 0
  | m :: l => max (dep m) (depL l)
end
theorem dep_get : ∀ (l : List Mdl), ∀ m ∈ l, dep m ≤ depL l
  | [], m, h => by simp at h
  | a :: l, m, h => by
    simp only [depL]
    rcases List.mem_cons.1 h with rfl | h
    · omega
    · have := dep_get l m h; omega
theorem notHead {s : W} {q : Nat} {rest : List Tok} {c : UInt8} (h0 : c ≠ 0) (ht : Toks s q rest) (hb : ∀ t, rest.head? = some t → t ≠ ([], c)) : ¬ sgn s q = ([], c) := by
  cases rest with
  | nil =>
    have : sgn s q = ([], 0) := ht
    rw [this]
    intro e
    injection e with _ e
    exact h0 e.symm
  | cons t rest =>
    rw [ht.1]
    exact hb t rfl
theorem rd_par {s : W} {O : Nat → Nat → R Mdl} {D : Nat} {m : Mdl} (hD : D < 20) (h : Rd s (O (D + 1)) (tk m) m [42, 43, 63, 44, 124]) : Rd s (atom s O D) ([([], 40)] ++ tk m ++ [([], 41)]) m [] := by
  intro p rest hp ht _
  rw [List.append_assoc, List.append_assoc] at ht
  obtain ⟨g, ht⟩ := (show sgn s p = ([], 40) ∧ Toks s (adv s p) (tk m ++ (([], 41) :: rest)) from ht)
  obtain ⟨q, e, t, hq⟩ := h (adv s p) _ (adv_le s p hp) ht (fun t ht c hc => by
    cases ht
    intro e
    injection e with _ e
    subst e
    revert hc
    decide)
  obtain ⟨g2, t2⟩ := (show sgn s q = ([], 41) ∧ Toks s (adv s q) rest from t)
  refine ⟨adv s q, ?_, t2, adv_le s q hq⟩
  unfold atom
  rw [g, if_neg (by decide), if_neg (by decide), if_neg (by decide), if_pos rfl, if_neg (by omega), e]
  dsimp only
  rw [if_pos g2]
theorem rd_leaf {s : W} {O : Nat → Nat → R Mdl} {D : Nat} {k : Int} {n : W} (h : (k = 1 ∨ k = 2 ∨ k = 3) ∧ n = [] ∨ k = 4 ∧ isName n = true) : Rd s (atom s O D) (tk (.mk k n [])) (.mk k n []) [] := by
  intro p rest hp ht _
  rcases h with ⟨h, rfl⟩ | ⟨rfl, h⟩
  · rcases h with rfl | rfl | rfl
    · have e : tk (.mk 1 [] []) = [(wEmpty, 0)] := by rw [tk]; rfl
      rw [e] at ht
      exact ⟨adv s p, by unfold atom; rw [ht.1]; rfl, ht.2, adv_le s p hp⟩
    · have e : tk (.mk 2 [] []) = [(wAny, 0)] := by rw [tk]; rfl
      rw [e] at ht
      exact ⟨adv s p, by unfold atom; rw [ht.1]; rfl, ht.2, adv_le s p hp⟩
    · have e : tk (.mk 3 [] []) = [(wText, 0)] := by rw [tk]; rfl
      rw [e] at ht
      exact ⟨adv s p, by unfold atom; rw [ht.1]; rfl, ht.2, adv_le s p hp⟩
  · have e : tk (.mk 4 n []) = [(n, 0)] := by rw [tk]; rfl
    rw [e] at ht
    obtain ⟨hne, hl, hk⟩ := of_decide_eq_true h
    have ne : ∀ w ∈ keys, ¬ (n, (0 : UInt8)) = (w, 0) := fun w hw e => by injection e with e _; rw [e] at hk; exact hk hw
    refine ⟨adv s p, ?_, ht.2, adv_le s p hp⟩
    unfold atom
    rw [ht.1, if_neg (ne wEmpty (by decide)), if_neg (ne wAny (by decide)), if_neg (ne wText (by decide)), if_neg (fun e => by injection e with _ e; exact absurd e (by decide)), if_pos h]
theorem rd_rep {s : W} {A : Nat → R Mdl} {ts : List Tok} {m : Mdl} (h : Rd s A ts m []) : Rd s (rep s A) ts m [42, 43, 63] := by
  intro p rest hp ht hb
  obtain ⟨q, e, t, hq⟩ := h p rest hp ht (fun _ _ c hc => by cases hc)
  have nb : ∀ c ∈ ([42, 43, 63] : List UInt8), ¬ sgn s q = ([], c) := fun c hc => notHead (by rintro rfl; revert hc; decide) t fun t' ht' => hb t' ht' c hc
  refine ⟨q, ?_, t, hq⟩
  unfold rep
  rw [e]
  dsimp only
  rw [if_neg (nb 42 (by decide)), if_neg (nb 43 (by decide)), if_neg (nb 63 (by decide))]
theorem rd_rep1 {s : W} {A : Nat → R Mdl} {ts : List Tok} {m : Mdl} {k : Int} {c : UInt8} (hk : (k = 7 ∧ c = 42) ∨ (k = 8 ∧ c = 43) ∨ (k = 9 ∧ c = 63)) (h : Rd s A ts m []) : Rd s (rep s A) (ts ++ [([], c)]) (.mk k [] [m]) [42, 43, 63] := by
  intro p rest hp ht _
  rw [List.append_assoc] at ht
  obtain ⟨q, e, t, hq⟩ := h p _ hp ht (fun _ _ c hc => by cases hc)
  obtain ⟨g, t2⟩ := (show sgn s q = ([], c) ∧ Toks s (adv s q) rest from t)
  refine ⟨adv s q, ?_, t2, adv_le s q hq⟩
  unfold rep
  rw [e]
  dsimp only
  rcases hk with ⟨rfl, rfl⟩ | ⟨rfl, rfl⟩ | ⟨rfl, rfl⟩
  · rw [if_pos g]
  · rw [if_neg (by rw [g]; decide), if_pos g]
  · rw [if_neg (by rw [g]; decide), if_neg (by rw [g]; decide), if_pos g]
theorem rd_more {s : W} {X : Nat → R Mdl} {c : UInt8} (h0 : c ≠ 0) (up : Up s X) {bad : List UInt8} (hc : c ∉ bad) (f : Mdl → List Tok) : ∀ (l : List Mdl), (∀ m ∈ l, Rd s X (f m) m bad) → ∀ n p (acc : List Mdl) rest, s.length < p + n → p ≤ s.length → Toks s p ((l.map fun m => ([], c) :: f m).flatten ++ rest) → (∀ t, rest.head? = some t → ∀ d ∈ (c :: bad), t ≠ ([], d)) → ∃ q, more s X c n p acc = .ok (acc ++ l) q ∧ Toks s q rest ∧ q ≤ s.length
  | [], _, n, p, acc, rest, hn, hp, ht, hb => by
    have hne : ¬ sgn s p = ([], c) := notHead h0 (by simpa using ht) fun t ht' => hb t ht' c (List.mem_cons_self ..)
    refine ⟨p, ?_, by simpa using ht, hp⟩
    cases n with
    | zero => rw [List.append_nil]; rfl
    | succ n => rw [more, if_neg hne, List.append_nil]
  | m :: l, h, n, p, acc, rest, hn, hp, ht, hb => by
    have e1 : ((m :: l).map fun m => (([], c) :: f m : List Tok)).flatten ++ rest = ([], c) :: (f m ++ ((l.map fun m => (([], c) :: f m : List Tok)).flatten ++ rest)) := by simp
    rw [e1] at ht
    obtain ⟨g, ht⟩ := (show sgn s p = ([], c) ∧ Toks s (adv s p) _ from ht)
    have hgt := adv_gt hp (by rw [g]; intro e; injection e with _ e; exact h0 e)
    have hle := adv_le s p hp
    have hh : ∀ t, ((l.map fun m => (([], c) :: f m : List Tok)).flatten ++ rest).head? = some t → ∀ d ∈ bad, t ≠ ([], d) := by
      intro t ht' d hd
      cases l with
      | nil => exact hb t (by simpa using ht') d (List.mem_cons_of_mem _ hd)
      | cons m' l =>
        have : t = ([], c) := by simpa using ht'.symm
        rw [this]
        intro e
        injection e with _ e
        rw [e] at hc
        exact hc hd
    obtain ⟨q, e, t, hq⟩ := h m (List.mem_cons_self ..) (adv s p) _ hle ht hh
    have hup := up (adv s p) m q hle e
    cases n with
    | zero => omega
    | succ n =>
      obtain ⟨q2, e2, t2, hq2⟩ := rd_more h0 up hc f l (fun x hx => h x (List.mem_cons_of_mem _ hx)) n q (acc ++ [m]) rest (by omega) hq t hb
      refine ⟨q2, ?_, t2, hq2⟩
      rw [more, if_pos g, e]
      dsimp only
      rw [e2, List.append_assoc]
      rfl
theorem joinT_cons (c : UInt8) (f : Mdl → List Tok) : ∀ (m : Mdl) (l : List Mdl), joinT c ((m :: l).map f) = f m ++ (l.map fun m => (([], c) :: f m : List Tok)).flatten
  | m, [] => by simp [joinT]
  | m, m' :: l => by
    have ih := joinT_cons c f m' l
    show f m ++ (([], c) :: joinT c ((m' :: l).map f)) = _
    rw [ih]
    simp
theorem rd_row {s : W} {X : Nat → R Mdl} {k : Int} {c : UInt8} (h0 : c ≠ 0) (up : Up s X) {bad : List UInt8} (hc : c ∉ bad) (f : Mdl → List Tok) (m : Mdl) (l : List Mdl) (h : ∀ x ∈ m :: l, Rd s X (f x) x bad) : Rd s (row s k c X) (joinT c ((m :: l).map f)) (several k (m :: l)) (c :: bad) := by
  intro p rest hp ht hb
  rw [joinT_cons, List.append_assoc] at ht
  have hh : ∀ t, ((l.map fun m => (([], c) :: f m : List Tok)).flatten ++ rest).head? = some t → ∀ d ∈ bad, t ≠ ([], d) := by
    intro t ht' d hd
    cases l with
    | nil => exact hb t (by simpa using ht') d (List.mem_cons_of_mem _ hd)
    | cons m' l =>
      have : t = ([], c) := by simpa using ht'.symm
      rw [this]
      intro e
      injection e with _ e
      rw [e] at hc
      exact hc hd
  obtain ⟨q, e, t, hq⟩ := h m (List.mem_cons_self ..) p _ hp ht hh
  have hup := up p m q hp e
  obtain ⟨q2, e2, t2, hq2⟩ := rd_more h0 up hc f l (fun x hx => h x (List.mem_cons_of_mem _ hx)) (s.length + 1) q [m] rest (by omega) hq t hb
  refine ⟨q2, ?_, t2, hq2⟩
  unfold row
  rw [e]
  dsimp only
  rw [e2]
  rfl
theorem Rd.weak {s : W} {Rf : Nat → R Mdl} {ts : List Tok} {m : Mdl} {b b' : List UInt8} (h : Rd s Rf ts m b) (hb : ∀ c ∈ b, c ∈ b') : Rd s Rf ts m b' :=
  fun p rest hp ht hh => h p rest hp ht fun t ht' c hc => hh t ht' c (hb c hc)
theorem several_two {k : Int} {l : List Mdl} (h : 2 ≤ l.length) : several k l = .mk k [] l := by
  match l, h with
  | _ :: _ :: _, _ => rfl
theorem ok_kinds {k : Int} {n : W} {l : List Mdl} (hc : ((k = 1 ∨ k = 2 ∨ k = 3) ∧ l = [] ∧ n = []) ∨ (k = 4 ∧ isName n = true ∧ (∀ c ∈ n, low c = true) ∧ l = []) ∨ ((k = 5 ∨ k = 6) ∧ 2 ≤ l.length ∧ n = []) ∨ ((k = 7 ∨ k = 8 ∨ k = 9) ∧ (∃ m, l = [m]) ∧ n = [])) :
    (par k 7 = true ∨ par k 7 = false ∧ (k = 1 ∨ k = 2 ∨ k = 3 ∨ k = 4)) ∧ (par k 5 = true ∨ par k 5 = false ∧ k ≠ 5 ∧ k ≠ 6) ∧ (par k 6 = true ∨ par k 6 = false ∧ k ≠ 6) := by
  rcases hc with ⟨hk, _⟩ | ⟨rfl, _⟩ | ⟨hk, _⟩ | ⟨hk, _⟩
  · rcases hk with rfl | rfl | rfl <;> simp [par]
  · simp [par]
  · rcases hk with rfl | rfl <;> simp [par]
  · rcases hk with rfl | rfl | rfl <;> simp [par]
theorem rd_all (s : W) : ∀ (N : Nat) (m : Mdl), sz m ≤ N → okM m = true →
    (∀ (f D : Nat), dep m ≤ f → D + dep m ≤ 20 → Rd s (orr s (f + 1) D) (tk m) m [124, 44, 42, 43, 63]) ∧
    (∀ (f D : Nat), dep m + 1 ≤ f → D + dep m + 1 ≤ 20 → Rd s (atom s (orr s f) D) (tkH 7 m) m [] ∧ Rd s (rep s (atom s (orr s f) D)) (tkH 5 m) m [42, 43, 63] ∧ Rd s (seq s (atom s (orr s f) D)) (tkH 6 m) m [44, 42, 43, 63])
  | 0, .mk k n l, hN, _ => by simp [sz] at hN
  | N + 1, .mk k n l, hN, hok => by
    have hN' : szL l ≤ N := by simp only [sz] at hN; omega
    obtain ⟨hl, hc⟩ := okM_cases hok
    obtain ⟨p7, p5, p6⟩ := ok_kinds hc
    have ih : ∀ x ∈ l, ∀ (f D : Nat), dep x + 1 ≤ f → D + dep x + 1 ≤ 20 → Rd s (atom s (orr s f) D) (tkH 7 x) x [] ∧ Rd s (rep s (atom s (orr s f) D)) (tkH 5 x) x [42, 43, 63] ∧ Rd s (seq s (atom s (orr s f) D)) (tkH 6 x) x [44, 42, 43, 63] := fun x hx => by
      obtain ⟨i, hi⟩ := List.getElem?_of_mem hx
      have := sz_get l i x hi
      exact (rd_all s N x (by omega) (okML_get l hl x hx)).2
    have dl : ∀ x ∈ l, dep x + 1 ≤ dep (.mk k n l) := fun x hx => by
      have := dep_get l x hx
      simp only [dep]
      omega
    have ua : ∀ f D, Up s (atom s (orr s f) D) := fun f D => atom_up (orr_up s f (D + 1))
    have ur : ∀ f D, Up s (rep s (atom s (orr s f) D)) := fun f D => rep_up (ua f D)
    have us : ∀ f D, Up s (seq s (atom s (orr s f) D)) := fun f D => row_up (by decide) (ur f D)
    have hleaf : (k = 1 ∨ k = 2 ∨ k = 3 ∨ k = 4) → ∀ f D, Rd s (atom s (orr s f) D) (tk (.mk k n l)) (.mk k n l) [] := by
      intro hk f D
      rcases hc with ⟨h1, rfl, rfl⟩ | ⟨h1, h2, _, rfl⟩ | ⟨h1, _⟩ | ⟨h1, _⟩
      · exact rd_leaf (.inl ⟨h1, rfl⟩)
      · exact rd_leaf (.inr ⟨h1, h2⟩)
      · omega
      · omega
    have rep0 : ∀ f D, dep (.mk k n l) ≤ f → D + dep (.mk k n l) ≤ 20 → k ≠ 5 → k ≠ 6 → Rd s (rep s (atom s (orr s f) D)) (tk (.mk k n l)) (.mk k n l) [42, 43, 63] := by
      intro f D h1 h2 k5 k6
      rcases hc with ⟨hk, _⟩ | ⟨hk, _⟩ | ⟨hk, _⟩ | ⟨hk, ⟨x, rfl⟩, rfl⟩
      · exact rd_rep (hleaf (by omega) f D)
      · exact rd_rep (hleaf (by omega) f D)
      · omega
      · have hx := dl x (List.mem_cons_self ..)
        have hA := (ih x (List.mem_cons_self ..) f D (by omega) (by omega)).1
        rcases hk with rfl | rfl | rfl
        · have e2 : tk (.mk 7 [] [x]) = tkH 7 x ++ [([], 42)] := by rw [tk]; rfl
          rw [e2]
          exact rd_rep1 (.inl ⟨rfl, rfl⟩) hA
        · have e2 : tk (.mk 8 [] [x]) = tkH 7 x ++ [([], 43)] := by rw [tk]; rfl
          rw [e2]
          exact rd_rep1 (.inr (.inl ⟨rfl, rfl⟩)) hA
        · have e2 : tk (.mk 9 [] [x]) = tkH 7 x ++ [([], 63)] := by rw [tk]; rfl
          rw [e2]
          exact rd_rep1 (.inr (.inr ⟨rfl, rfl⟩)) hA
    have one : ∀ (X : Nat → R Mdl) (kk : Int) (c : UInt8) (ts : List Tok) (bad : List UInt8), c ≠ 0 → Up s X → c ∉ bad → Rd s X ts (.mk k n l) bad → Rd s (row s kk c X) ts (.mk k n l) (c :: bad) := fun X kk c ts bad h0 up hc' h =>
      rd_row (k := kk) h0 up hc' (fun _ => ts) (.mk k n l) [] fun x hx => by rw [List.mem_singleton.1 hx]; exact h
    have seq0 : ∀ f D, dep (.mk k n l) ≤ f → D + dep (.mk k n l) ≤ 20 → k ≠ 6 → Rd s (seq s (atom s (orr s f) D)) (tk (.mk k n l)) (.mk k n l) [44, 42, 43, 63] := by
      intro f D h1 h2 k6
      by_cases k5 : k = 5
      · subst k5
        rcases hc with ⟨hk, _⟩ | ⟨hk, _⟩ | ⟨_, h3, rfl⟩ | ⟨hk, _⟩
        · omega
        · omega
        · match l, h3 with
          | x :: l', h3 =>
            have e2 : tk (.mk 5 [] (x :: l')) = joinT 44 ((x :: l').map (tkH 5)) := by rw [← tkL_map, tk]; rfl
            have := rd_row (k := 5) (c := 44) (by decide) (ur f D) (bad := [42, 43, 63]) (by decide) (tkH 5) x l' fun y hy => (ih y hy f D (by have := dl y hy; omega) (by have := dl y hy; omega)).2.1
            rw [e2]
            rw [several_two h3] at this
            exact this
        · omega
      · exact one _ 5 44 _ _ (by decide) (ur f D) (by decide) (rep0 f D h1 h2 k5 k6)
    have or0 : ∀ (f D : Nat), dep (.mk k n l) ≤ f → D + dep (.mk k n l) ≤ 20 → Rd s (orr s (f + 1) D) (tk (.mk k n l)) (.mk k n l) [124, 44, 42, 43, 63] := by
      intro f D h1 h2
      have eo : orr s (f + 1) D = row s 6 124 (seq s (atom s (orr s f) D)) := by funext p; rw [orr]
      rw [eo]
      by_cases k6 : k = 6
      · subst k6
        rcases hc with ⟨hk, _⟩ | ⟨hk, _⟩ | ⟨_, h3, rfl⟩ | ⟨hk, _⟩
        · omega
        · omega
        · match l, h3 with
          | x :: l', h3 =>
            have e2 : tk (.mk 6 [] (x :: l')) = joinT 124 ((x :: l').map (tkH 6)) := by rw [← tkL_map, tk]; rfl
            have := rd_row (k := 6) (c := 124) (by decide) (us f D) (bad := [44, 42, 43, 63]) (by decide) (tkH 6) x l' fun y hy => (ih y hy f D (by have := dl y hy; omega) (by have := dl y hy; omega)).2.2
            rw [e2]
            rw [several_two h3] at this
            exact this
        · omega
      · exact one _ 6 124 _ _ (by decide) (us f D) (by decide) (seq0 f D h1 h2 k6)
    refine ⟨or0, fun f D h1 h2 => ?_⟩
    have hpar : Rd s (atom s (orr s f) D) ([([], 40)] ++ tk (.mk k n l) ++ [([], 41)]) (.mk k n l) [] := by
      cases f with
      | zero => omega
      | succ f =>
        refine rd_par (by omega) ((or0 f (D + 1) (by omega) (by omega)).weak ?_)
        decide
    have ey : ∀ i, par k i = true → tkH i (.mk k n l) = [([], 40)] ++ tk (.mk k n l) ++ [([], 41)] := fun i h => by
      unfold tkH
      rw [if_pos (show par (kd (Mdl.mk k n l)) i = true from h)]
    have en : ∀ i, par k i = false → tkH i (.mk k n l) = tk (.mk k n l) := fun i h => by
      unfold tkH
      rw [if_neg (by show ¬ par k i = true; rw [h]; decide)]
    refine ⟨?_, ?_, ?_⟩
    · rcases p7 with h | ⟨h, hk⟩
      · rw [ey 7 h]; exact hpar
      · rw [en 7 h]; exact hleaf hk f D
    · rcases p5 with h | ⟨h, k5, k6⟩
      · rw [ey 5 h]; exact rd_rep hpar
      · rw [en 5 h]; exact rep0 f D (by omega) (by omega) k5 k6
    · rcases p6 with h | ⟨h, k6⟩
      · rw [ey 6 h]; exact one _ 5 44 _ _ (by decide) (ur f D) (by decide) (rd_rep hpar)
      · rw [en 6 h]; exact seq0 f D (by omega) (by omega) k6
theorem rd_elem {s : W} {e : W × Mdl} {l : List W} {p : Nat} {rest : List Tok} (hn : isName e.1 = true) (hm : okM e.2 = true) (hd : dep e.2 ≤ 20) (hl : dep e.2 ≤ s.length) (hni : e.1 ∉ l) (h8 : l.length < 8) (hp : p ≤ s.length) (ht : Toks s p ([(e.1, 0), ([], 61)] ++ tk e.2 ++ [([], 59)] ++ rest)) : ∃ q, elem s l p = .ok e q ∧ Toks s q rest ∧ q ≤ s.length := by
  rw [List.append_assoc, List.append_assoc] at ht
  obtain ⟨g1, g2, t⟩ := (show sgn s p = (e.1, 0) ∧ sgn s (adv s p) = ([], 61) ∧ Toks s (adv s (adv s p)) (tk e.2 ++ (([], 59) :: rest)) from ht)
  have l2 := adv_le s _ (adv_le s p hp)
  obtain ⟨q, e1, t1, hq⟩ := (rd_all s _ e.2 (Nat.le_refl _) hm).1 s.length 0 hl (by omega) _ _ l2 t (fun t ht c hc => by
    cases ht
    intro e
    injection e with _ e
    subst e
    revert hc
    decide)
  obtain ⟨g3, t2⟩ := (show sgn s q = ([], 59) ∧ Toks s (adv s q) rest from t1)
  refine ⟨adv s q, ?_, t2, adv_le s q hq⟩
  unfold elem
  rw [g1]
  dsimp only
  rw [if_pos hn, if_neg hni, if_neg (by omega), if_pos g2, e1]
  dsimp only
  rw [if_pos g3]
theorem rd_elems {s : W} : ∀ (l acc : List (W × Mdl)) (n p : Nat), (∀ e ∈ l, isName e.1 = true ∧ okM e.2 = true ∧ dep e.2 ≤ 20 ∧ dep e.2 ≤ s.length) → ((acc ++ l).map (·.1)).Nodup → (acc ++ l).length ≤ 8 → l.length ≤ n → p ≤ s.length → Toks s p ((l.map tkE).flatten) → ∃ q, elems s n p acc = .ok (acc ++ l) q
  | [], acc, n, p, _, _, _, _, _, ht => by
    have g : sgn s p = ([], 0) := ht
    exact ⟨p, by rw [elems_end (by rw [g]; decide) g, List.append_nil]⟩
  | e :: l, acc, n, p, h, hnd, h8, hn, hp, ht => by
    obtain ⟨h1, h2, h3, h4⟩ := h e (List.mem_cons_self ..)
    have et : ((e :: l).map tkE).flatten = (wElement, 0) :: ([(e.1, 0), ([], 61)] ++ tk e.2 ++ [([], 59)] ++ (l.map tkE).flatten) := by simp [tkE]
    rw [et] at ht
    obtain ⟨g, t⟩ := ht
    cases n with
    | zero => simp at hn
    | succ n =>
      have hni : e.1 ∉ acc.map (·.1) := by
        rw [List.map_append, List.nodup_append] at hnd
        intro hm
        exact hnd.2.2 _ hm _ (List.mem_cons_self ..) rfl
      rw [List.length_append, List.length_cons] at h8
      obtain ⟨q, e1, t1, hq⟩ := rd_elem h1 h2 h3 h4 hni (by rw [List.length_map]; omega) (adv_le s p hp) t
      have e2 : acc ++ e :: l = (acc ++ [e]) ++ l := by simp
      rw [e2] at hnd
      obtain ⟨q2, e3⟩ := rd_elems l (acc ++ [e]) n q (fun x hx => h x (List.mem_cons_of_mem _ hx)) hnd (by simp; omega) (by simpa using hn) hq t1
      exact ⟨q2, by rw [elems_step g, e1]; dsimp only; rw [e3, e2]⟩
theorem rd_parse {s : W} {x : W × List (W × Mdl)} (hok : okX x) (hs : s.length ≤ 2000) (hd : ∀ e ∈ x.2, dep e.2 ≤ 20 ∧ dep e.2 ≤ s.length) (hnd : (x.2.map (·.1)).Nodup) (h8 : x.2.length ≤ 8) (h9 : x.2.length ≤ s.length) (hk : known x.1 x.2 = true) (ht : Toks s (skip s 0) (tkX x)) : parse s = .ok x 0 := by
  have hp := (skip_le s 0 (Nat.zero_le _)).2
  obtain ⟨g1, g2, g3, t⟩ := (show sgn s (skip s 0) = (wRoot, 0) ∧ sgn s (adv s (skip s 0)) = (x.1, 0) ∧ sgn s (adv s (adv s (skip s 0))) = ([], 59) ∧ Toks s (adv s (adv s (adv s (skip s 0)))) ((x.2.map tkE).flatten) from ht)
  obtain ⟨q, e⟩ := rd_elems x.2 [] (s.length + 1) (adv s (adv s (adv s (skip s 0)))) (fun e he => ⟨(hok.2 e he).1.1, (hok.2 e he).2, hd e he⟩) (by simpa using hnd) (by simpa using h8) (by omega) (adv_le s _ (adv_le s _ (adv_le s _ hp))) t
  unfold parse
  rw [if_neg (by omega), if_pos g1, g2]
  dsimp only
  rw [if_pos hok.1.1, if_pos g3, e, List.nil_append]
  unfold finish
  dsimp only
  rw [if_pos hk]
end SchM
end

section
/- A plain model of schemas made of numbers. Conditions: none. -/
namespace SchM
def nx (ns : List Int) (a : Nat) (n : Int) : Int := match ns[a]? with
  | some x => x % n
  | none => 0
def nxA (ns : List Int) (a : Nat) : Nat := if a < ns.length then a + 1 else a
def leaf (nm : List W) (ns : List Int) (k : Int) (a : Nat) : Mdl × Nat :=
  if k = 0 then (.mk 1 [] [], a) else if k = 1 then (.mk 2 [] [], a) else if k = 2 then (.mk 3 [] [], a)
  else (.mk 4 (nm.getD (nx ns a nm.length).toNat []) [], nxA ns a)
def gen (nm : List W) (ns : List Int) : Nat → Nat → Mdl × Nat
  | 0, a => leaf nm ns (nx ns a 14 % 6) (nxA ns a)
  | d + 1, a =>
    if 6 ≤ nx ns a 14 ∧ nx ns a 14 ≤ 10 then
      if nx ns (gen nm ns d (gen nm ns d (nxA ns a)).2).2 3 = 0 then
        (.mk (5 + nx ns a 14 % 2) [] [(gen nm ns d (nxA ns a)).1, (gen nm ns d (gen nm ns d (nxA ns a)).2).1, (gen nm ns d (nxA ns (gen nm ns d (gen nm ns d (nxA ns a)).2).2)).1],
          (gen nm ns d (nxA ns (gen nm ns d (gen nm ns d (nxA ns a)).2).2)).2)
      else (.mk (5 + nx ns a 14 % 2) [] [(gen nm ns d (nxA ns a)).1, (gen nm ns d (gen nm ns d (nxA ns a)).2).1], nxA ns (gen nm ns d (gen nm ns d (nxA ns a)).2).2)
    else if 11 ≤ nx ns a 14 then
      (.mk (7 + nx ns (nxA ns a) 3) [] [(gen nm ns d (nxA ns (nxA ns a))).1], (gen nm ns d (nxA ns (nxA ns a))).2)
    else leaf nm ns (nx ns a 14) (nxA ns a)
theorem nx_in (ns : List Int) (a : Nat) {n : Int} (h : 0 < n) : 0 ≤ nx ns a n ∧ nx ns a n < n := by
  unfold nx
  split
  · exact ⟨Int.emod_nonneg _ (by omega), Int.emod_lt_of_pos _ h⟩
  · exact ⟨Int.le_refl _, h⟩
theorem nxA_le (ns : List Int) (a : Nat) : a ≤ nxA ns a ∧ nxA ns a ≤ a + 1 := by
  unfold nxA
  split <;> omega
theorem leaf_le (nm : List W) (ns : List Int) (k : Int) (a : Nat) : (leaf nm ns k a).2 ≤ a + 1 := by
  have := nxA_le ns a
  unfold leaf
  split
  · exact Nat.le_succ _
  split
  · exact Nat.le_succ _
  split
  · exact Nat.le_succ _
  · exact this.2
theorem gen_le (nm : List W) (ns : List Int) : ∀ (d a : Nat), (gen nm ns d a).2 ≤ a + 4 ^ (d + 1)
  | 0, a => by
    have h1 := leaf_le nm ns (nx ns a 14 % 6) (nxA ns a)
    have h2 := nxA_le ns a
    show (leaf nm ns (nx ns a 14 % 6) (nxA ns a)).2 ≤ _
    omega
  | d + 1, a => by
    have ih := gen_le nm ns d
    have p : 4 ^ (d + 1 + 1) = 4 * 4 ^ (d + 1) := by rw [Nat.pow_succ]; omega
    have p0 : 4 ≤ 4 ^ (d + 1) := by
      have := Nat.pow_le_pow_right (n := 4) (by decide) (show 1 ≤ d + 1 by omega)
      simpa using this
    have a0 := nxA_le ns a
    rw [gen]
    split
    · have i1 := ih (nxA ns a)
      have i2 := ih (gen nm ns d (nxA ns a)).2
      have a1 := nxA_le ns (gen nm ns d (gen nm ns d (nxA ns a)).2).2
      split
      · have i3 := ih (nxA ns (gen nm ns d (gen nm ns d (nxA ns a)).2).2)
        dsimp only
        omega
      · dsimp only
        omega
    split
    · have a1 := nxA_le ns (nxA ns a)
      have i1 := ih (nxA ns (nxA ns a))
      dsimp only
      omega
    · have := leaf_le nm ns (nx ns a 14) (nxA ns a)
      omega
end SchM
namespace SchM
def five : List W := [[97], [98, 98], [99], [122, 122, 122, 122, 122, 122, 122, 122], [116, 101, 120, 116, 115]]
def genS (nm : List W) (ns : List Int) (d a0 : Nat) : Nat → List (W × Mdl) × Nat
  | 0 => ([], a0)
  | i + 1 => ((genS nm ns d a0 i).1 ++ [(nm.getD i [], (gen nm ns d (genS nm ns d a0 i).2).1)], (gen nm ns d (genS nm ns d a0 i).2).2)
theorem genS_len (nm : List W) (ns : List Int) (d a0 : Nat) : ∀ i, (genS nm ns d a0 i).1.length = i
  | 0 => rfl
  | i + 1 => by
    show ((genS nm ns d a0 i).1 ++ [_]).length = _
    rw [List.length_append, genS_len nm ns d a0 i]
    rfl
theorem genS_le (nm : List W) (ns : List Int) (d a0 : Nat) : ∀ i, (genS nm ns d a0 i).2 ≤ a0 + i * 4 ^ (d + 1)
  | 0 => by simp [genS]
  | i + 1 => by
    have h1 := gen_le nm ns d (genS nm ns d a0 i).2
    have h2 := genS_le nm ns d a0 i
    have e : (i + 1) * 4 ^ (d + 1) = i * 4 ^ (d + 1) + 4 ^ (d + 1) := Nat.succ_mul _ _
    show (gen nm ns d (genS nm ns d a0 i).2).2 ≤ _
    omega
def namesOf (size : Int) : List W := five.take (1 + (size % 5).toNat)
theorem namesOf_len (size : Int) : (namesOf size).length = 1 + (size % 5).toNat := by
  have h0 := Int.emod_nonneg size (show (5 : Int) ≠ 0 by decide)
  have h1 := Int.emod_lt_of_pos size (show (0 : Int) < 5 by decide)
  unfold namesOf
  rw [List.length_take]
  show min _ 5 = _
  omega
def make (size : Int) (ns : List Int) (d : Nat) : W × List (W × Mdl) :=
  ((namesOf size).getD (nx ns 0 (namesOf size).length).toNat [], (genS (namesOf size) ns d (nxA ns 0) (namesOf size).length).1)
end SchM
end

section
/- A plain model of schemas' texts: schemas of numbers may be. Conditions: none. -/
namespace SchM
def nz (w : W) : Prop := ∀ c ∈ w, c ≠ 0
theorem nz_app {a b : W} (ha : nz a) (hb : nz b) : nz (a ++ b) := fun c hc => (List.mem_append.1 hc).elim (ha c) (hb c)
theorem nz_low {w : W} (h : ∀ c ∈ w, low c = true) : nz w := fun c hc e => by
  have := h c hc
  rw [e] at this
  exact absurd this (by decide)
structure Gm (nm : List W) (d : Nat) (m : Mdl) : Prop where
  ok : okM m = true
  okt : okT m = true
  dp : dep m ≤ d + 1
  s : sz m ≤ 4 ^ (d + 1)
  t : (txt m).length ≤ 20 * 4 ^ d
  n : ∀ w ∈ nms m, w ∈ nm
  z : nz (txt m)
theorem hw_le (i : Int) (m : Mdl) : (hw i m).length ≤ (txt m).length + 2 := by
  unfold hw
  split
  · simp
  · omega
theorem hw_nz {i : Int} {m : Mdl} (h : nz (txt m)) : nz (hw i m) := by
  unfold hw
  split
  · exact nz_app (nz_app (by unfold nz; decide) h) (by unfold nz; decide)
  · exact h
theorem pow_pos4 (d : Nat) : 1 ≤ 4 ^ d := Nat.one_le_pow _ _ (by decide)
theorem Gm.leaf {nm : List W} {ns : List Int} {k : Int} {a : Nat} (d : Nat) (hn : 0 < nm.length) (hv : ∀ w ∈ nm, isName w = true ∧ ∀ c ∈ w, low c = true) : Gm nm d (leaf nm ns k a).1 := by
  have p1 := pow_pos4 d
  have p2 := pow_pos4 (d + 1)
  unfold SchM.leaf
  split
  · exact ⟨by simp [okM, okML], by simp [okT, okTL], by simp [dep, depL], by simp [sz, szL]; omega, by show (wEmpty).length ≤ _; show 5 ≤ _; omega, by simp [nms, nmsL], by show nz wEmpty; unfold nz; decide⟩
  split
  · exact ⟨by simp [okM, okML], by simp [okT, okTL], by simp [dep, depL], by simp [sz, szL]; omega, by show (wAny).length ≤ _; show 3 ≤ _; omega, by simp [nms, nmsL], by show nz wAny; unfold nz; decide⟩
  split
  · exact ⟨by simp [okM, okML], by simp [okT, okTL], by simp [dep, depL], by simp [sz, szL]; omega, by show (wText).length ≤ _; show 4 ≤ _; omega, by simp [nms, nmsL], by show nz wText; unfold nz; decide⟩
  · have ni := nx_in ns a (show (0 : Int) < (nm.length : Nat) by omega)
    have hlt : (nx ns a nm.length).toNat < nm.length := by omega
    have hw : nm.getD (nx ns a nm.length).toNat [] ∈ nm := by
      rw [List.getD_eq_getElem?_getD, List.getElem?_eq_getElem hlt]
      exact List.getElem_mem hlt
    generalize nm.getD (nx ns a nm.length).toNat [] = w at *
    obtain ⟨h1, h2⟩ := hv w hw
    have hl8 : w.length ≤ 8 := (of_decide_eq_true h1).2.1
    have et : txt (.mk 4 w []) = w := by rw [txt]; rfl
    refine ⟨?_, by simp [okT, okTL], by simp [dep, depL], by simp [sz, szL]; omega, by show (txt (.mk 4 w [])).length ≤ _; rw [et]; omega, ?_, by show nz (txt (.mk 4 w [])); rw [et]; exact nz_low h2⟩
    · have : w.all low = true := List.all_eq_true.2 h2
      simp [okM, okML, h1, this]
    · intro x hx
      simp [nms, nmsL] at hx
      rw [hx]
      exact hw
theorem byW_len (k : Int) : (byW k).length ≤ 3 := by
  unfold byW
  split <;> simp
theorem byW_nz (k : Int) : nz (byW k) := by
  unfold byW
  split
  · unfold nz; decide
  · unfold nz; decide
theorem txt_row {k : Int} {l : List Mdl} (hk : k = 5 ∨ k = 6) : txt (.mk k [] l) = joinW (byW k) (l.map (hw k)) := by
  rw [← txtL_map]
  rcases hk with rfl | rfl <;> (rw [txt]; rfl)
theorem Gm.two {nm : List W} {d : Nat} {x y : Mdl} {k : Int} (hk : k = 5 ∨ k = 6) (hx : Gm nm d x) (hy : Gm nm d y) : Gm nm (d + 1) (.mk k [] [x, y]) := by
  have p1 := pow_pos4 d
  have e1 : 4 ^ (d + 1) = 4 * 4 ^ d := by rw [Nat.pow_succ]; omega
  have e2 : 4 ^ (d + 1 + 1) = 4 * 4 ^ (d + 1) := by rw [Nat.pow_succ]; omega
  have et : txt (.mk k [] [x, y]) = hw k x ++ (byW k ++ hw k y) := by rw [txt_row hk]; rfl
  have b := byW_len k
  have hx1 := hw_le k x
  have hy1 := hw_le k y
  have hx2 := hx.t; have hy2 := hy.t; have hx3 := hx.s; have hy3 := hy.s; have hx4 := hx.dp; have hy4 := hy.dp
  refine ⟨?_, ?_, ?_, ?_, ?_, ?_, ?_⟩
  · rcases hk with rfl | rfl <;> simp [okM, okML, hx.ok, hy.ok]
  · rcases hk with rfl | rfl <;> simp [okT, okTL, hx.okt, hy.okt]
  · simp only [dep, depL]; omega
  · simp only [sz, szL]; omega
  · rw [et]; simp only [List.length_append]; omega
  · intro w hw
    have hk4 : k ≠ 4 := by omega
    simp [nms, nmsL, hk4] at hw
    rcases hw with hw | hw
    · exact hx.n w hw
    · exact hy.n w hw
  · rw [et]; exact nz_app (hw_nz hx.z) (nz_app (byW_nz k) (hw_nz hy.z))
theorem Gm.three {nm : List W} {d : Nat} {x y u : Mdl} {k : Int} (hk : k = 5 ∨ k = 6) (hx : Gm nm d x) (hy : Gm nm d y) (hu : Gm nm d u) : Gm nm (d + 1) (.mk k [] [x, y, u]) := by
  have p1 := pow_pos4 d
  have e1 : 4 ^ (d + 1) = 4 * 4 ^ d := by rw [Nat.pow_succ]; omega
  have e2 : 4 ^ (d + 1 + 1) = 4 * 4 ^ (d + 1) := by rw [Nat.pow_succ]; omega
  have et : txt (.mk k [] [x, y, u]) = hw k x ++ (byW k ++ (hw k y ++ (byW k ++ hw k u))) := by rw [txt_row hk]; rfl
  have b := byW_len k
  have hx1 := hw_le k x
  have hy1 := hw_le k y
  have hu1 := hw_le k u
  have hx2 := hx.t; have hy2 := hy.t; have hx3 := hx.s; have hy3 := hy.s; have hx4 := hx.dp; have hy4 := hy.dp
  have hu2 := hu.t; have hu3 := hu.s; have hu4 := hu.dp
  refine ⟨?_, ?_, ?_, ?_, ?_, ?_, ?_⟩
  · rcases hk with rfl | rfl <;> simp [okM, okML, hx.ok, hy.ok, hu.ok]
  · rcases hk with rfl | rfl <;> simp [okT, okTL, hx.okt, hy.okt, hu.okt]
  · simp only [dep, depL]; omega
  · simp only [sz, szL]; omega
  · rw [et]; simp only [List.length_append]; omega
  · intro w hw
    have hk4 : k ≠ 4 := by omega
    simp [nms, nmsL, hk4] at hw
    rcases hw with hw | hw | hw
    · exact hx.n w hw
    · exact hy.n w hw
    · exact hu.n w hw
  · rw [et]; exact nz_app (hw_nz hx.z) (nz_app (byW_nz k) (nz_app (hw_nz hy.z) (nz_app (byW_nz k) (hw_nz hu.z))))
theorem Gm.star {nm : List W} {d : Nat} {x : Mdl} {k : Int} (hk : k = 7 ∨ k = 8 ∨ k = 9) (hx : Gm nm d x) : Gm nm (d + 1) (.mk k [] [x]) := by
  have p1 := pow_pos4 d
  have e1 : 4 ^ (d + 1) = 4 * 4 ^ d := by rw [Nat.pow_succ]; omega
  have e2 : 4 ^ (d + 1 + 1) = 4 * 4 ^ (d + 1) := by rw [Nat.pow_succ]; omega
  have et : ∃ b : UInt8, b ≠ 0 ∧ txt (.mk k [] [x]) = hw 7 x ++ [b] := by
    rcases hk with rfl | rfl | rfl
    · exact ⟨42, by decide, by rw [txt]; rfl⟩
    · exact ⟨43, by decide, by rw [txt]; rfl⟩
    · exact ⟨63, by decide, by rw [txt]; rfl⟩
  obtain ⟨b, b0, et⟩ := et
  have hx1 := hw_le 7 x
  have hx2 := hx.t; have hx3 := hx.s; have hx4 := hx.dp
  refine ⟨?_, ?_, ?_, ?_, ?_, ?_, ?_⟩
  · rcases hk with rfl | rfl | rfl <;> simp [okM, okML, hx.ok]
  · rcases hk with rfl | rfl | rfl <;> simp [okT, okTL, hx.okt]
  · simp only [dep, depL]; omega
  · simp only [sz, szL]; omega
  · rw [et]; simp only [List.length_append, List.length_cons, List.length_nil]; omega
  · intro w hw
    have hk4 : k ≠ 4 := by omega
    simp [nms, nmsL, hk4] at hw
    exact hx.n w hw
  · rw [et]; exact nz_app (hw_nz hx.z) fun c hc => by rw [List.mem_singleton.1 hc]; exact b0
theorem gen_ok {nm : List W} {ns : List Int} (hn : 0 < nm.length) (hv : ∀ w ∈ nm, isName w = true ∧ ∀ c ∈ w, low c = true) : ∀ (d a : Nat), Gm nm d (gen nm ns d a).1
  | 0, a => Gm.leaf 0 hn hv
  | d + 1, a => by
    have ih := gen_ok (ns := ns) hn hv d
    have n2 : ∀ x : Int, 5 + x % 2 = 5 ∨ 5 + x % 2 = 6 := fun x => by omega
    rw [gen]
    split
    · split
      · exact Gm.three (n2 _) (ih _) (ih _) (ih _)
      · exact Gm.two (n2 _) (ih _) (ih _)
    split
    · have n3 := nx_in ns (nxA ns a) (show (0 : Int) < 3 by decide)
      exact Gm.star (by omega) (ih _)
    · exact Gm.leaf (d + 1) hn hv
theorem genS_fst {nm : List W} {ns : List Int} {d a0 : Nat} : ∀ i, i ≤ nm.length → (genS nm ns d a0 i).1.map (·.1) = nm.take i
  | 0, _ => rfl
  | i + 1, h => by
    have ih := genS_fst (nm := nm) (ns := ns) (d := d) (a0 := a0) i (by omega)
    have hlt : i < nm.length := by omega
    have hi : nm[i]? = some nm[i] := List.getElem?_eq_getElem hlt
    show ((genS nm ns d a0 i).1 ++ [(nm.getD i [], (gen nm ns d (genS nm ns d a0 i).2).1)]).map (·.1) = nm.take (i + 1)
    rw [List.map_append, ih, List.take_add_one, List.getD_eq_getElem?_getD, hi]
    rfl
theorem genS_ok {nm : List W} {ns : List Int} {d a0 : Nat} (hn : 0 < nm.length) (hv : ∀ w ∈ nm, isName w = true ∧ ∀ c ∈ w, low c = true) : ∀ i, ∀ e ∈ (genS nm ns d a0 i).1, Gm nm d e.2
  | 0, e, h => by simp [genS] at h
  | i + 1, e, h => by
    rcases List.mem_append.1 (show e ∈ (genS nm ns d a0 i).1 ++ [(nm.getD i [], (gen nm ns d (genS nm ns d a0 i).2).1)] from h) with h | h
    · exact genS_ok hn hv i e h
    · rw [List.mem_singleton.1 h]
      exact gen_ok hn hv d _
theorem five_ok : ∀ w ∈ five, isName w = true ∧ ∀ c ∈ w, low c = true := by decide
theorem namesOf_ok (size : Int) : ∀ w ∈ namesOf size, isName w = true ∧ ∀ c ∈ w, low c = true := fun w hw => five_ok w (List.mem_of_mem_take hw)
theorem namesOf_nodup (size : Int) : (namesOf size).Nodup := List.Sublist.nodup (List.take_sublist _ _) (by decide)
structure MakeOK (x : W × List (W × Mdl)) (d : Nat) : Prop where
  ok : okX x
  g : ∀ e ∈ x.2, ∃ nm, Gm nm d e.2
  nd : (x.2.map (·.1)).Nodup
  l : x.2.length ≤ 5 ∧ 0 < x.2.length
  kn : known x.1 x.2 = true
  z : nz (text x)
  len : (text x).length ≤ 16 + 5 * (22 + 20 * 4 ^ d)
  ge : 14 * x.2.length ≤ (text x).length
theorem make_ok (size : Int) (ns : List Int) (d : Nat) : MakeOK (make size ns d) d := by
  have nl := namesOf_len size
  have z0 := Int.emod_nonneg size (show (5 : Int) ≠ 0 by decide)
  have z1 := Int.emod_lt_of_pos size (show (0 : Int) < 5 by decide)
  have hv := namesOf_ok size
  have hnd := namesOf_nodup size
  unfold make
  generalize namesOf size = nm at *
  have hn : 0 < nm.length := by omega
  have ni := nx_in ns 0 (show (0 : Int) < (nm.length : Nat) by omega)
  have hlt : (nx ns 0 nm.length).toNat < nm.length := by omega
  have hr : nm.getD (nx ns 0 nm.length).toNat [] ∈ nm := by
    rw [List.getD_eq_getElem?_getD, List.getElem?_eq_getElem hlt]
    exact List.getElem_mem hlt
  generalize nm.getD (nx ns 0 nm.length).toNat [] = root at *
  have hg := genS_ok (ns := ns) (d := d) (a0 := nxA ns 0) hn hv nm.length
  have hf := genS_fst (nm := nm) (ns := ns) (d := d) (a0 := nxA ns 0) nm.length (Nat.le_refl _)
  have hlen := genS_len nm ns d (nxA ns 0) nm.length
  rw [List.take_length] at hf
  generalize (genS nm ns d (nxA ns 0) nm.length).1 = l at *
  have he : ∀ e ∈ l, e.1 ∈ nm := fun e he => by rw [← hf]; exact List.mem_map_of_mem he
  have len8 : ∀ w ∈ nm, w.length ≤ 8 ∧ 1 ≤ w.length := fun w hw => by
    have h1 := of_decide_eq_true (hv w hw).1
    exact ⟨h1.2.1, List.length_pos_iff.2 h1.1⟩
  have p1 := pow_pos4 d
  have tl : ∀ l' : List (W × Mdl), (∀ e ∈ l', e ∈ l) → ((l'.map elT).flatten).length ≤ l'.length * (21 + 20 * 4 ^ d) ∧ 14 * l'.length ≤ ((l'.map elT).flatten).length ∧ nz ((l'.map elT).flatten) := by
    intro l'
    induction l' with
    | nil => intro _; exact ⟨by simp, by simp, fun c hc => by simp at hc⟩
    | cons e l' ih =>
      intro h
      obtain ⟨i1, i2, i3⟩ := ih fun x hx => h x (List.mem_cons_of_mem _ hx)
      have hm := h e (List.mem_cons_self ..)
      have g := hg e hm
      have n8 := len8 _ (he e hm)
      have e1 : (elT e).length = 13 + e.1.length + (txt e.2).length := by simp [elT]; omega
      have gt := g.t
      have em : (e :: l').length * (21 + 20 * 4 ^ d) = l'.length * (21 + 20 * 4 ^ d) + (21 + 20 * 4 ^ d) := Nat.succ_mul _ _
      rw [List.map_cons, List.flatten_cons, List.length_append, e1, em]
      refine ⟨by omega, by rw [List.length_cons]; omega, nz_app ?_ i3⟩
      unfold elT
      exact nz_app (nz_app (nz_app (nz_app (by unfold nz; decide) (nz_low (hv _ (he e hm)).2)) (by unfold nz; decide)) g.z) (by unfold nz; decide)
  obtain ⟨t1, t2, t3⟩ := tl l fun e h => h
  have hl5 : l.length ≤ 5 := by omega
  have r8 := len8 root hr
  have et : (text (root, l)).length = 6 + root.length + ((l.map elT).flatten).length := by
    simp only [text, List.length_append, List.length_cons, List.length_nil]
    omega
  have hmul : l.length * (21 + 20 * 4 ^ d) ≤ 5 * (21 + 20 * 4 ^ d) := Nat.mul_le_mul_right _ hl5
  refine ⟨⟨hv root hr, fun e h => ⟨hv _ (he e h), (hg e h).ok⟩⟩, fun e h => ⟨nm, hg e h⟩, by rw [hf]; exact hnd, ⟨hl5, show 0 < l.length by omega⟩, ?_, ?_, by rw [et]; omega, ?_⟩
  · unfold known
    rw [List.all_eq_true]
    intro w hw
    refine decide_eq_true ?_
    show w ∈ l.map (·.1)
    rw [hf]
    rcases List.mem_cons.1 hw with rfl | hw
    · exact hr
    · clear t1 t2 t3 tl hmul et
      have : ∀ l' : List (W × Mdl), (∀ e ∈ l', e ∈ l) → w ∈ nmsE l' → w ∈ nm := by
        intro l'
        induction l' with
        | nil => intro _ h; simp [nmsE] at h
        | cons e l' ih =>
          intro h hw
          rcases List.mem_append.1 (show w ∈ nms e.2 ++ nmsE l' from hw) with hw | hw
          · exact (hg e (h e (List.mem_cons_self ..))).n w hw
          · exact ih (fun x hx => h x (List.mem_cons_of_mem _ hx)) hw
      exact this l (fun e h => h) hw
  · unfold text
    exact nz_app (nz_app (nz_app (by unfold nz; decide) (nz_low (hv root hr).2)) (by unfold nz; decide)) t3
  · rw [et]
    show 14 * l.length ≤ _
    omega
end SchM
end

section
/- Plain: how a model goes from place to place by steps; how a word's elements are such steps. Conditions: none. -/
namespace SchM
inductive RT (P : Nat → Nat → Prop) : Nat → Nat → Prop where
  | nil (i : Nat) : RT P i i
  | cons {i k j : Nat} : P i k → RT P k j → RT P i j
theorem RT.one {P : Nat → Nat → Prop} {i j : Nat} (h : P i j) : RT P i j := .cons h (.nil j)
theorem RT.trans {P : Nat → Nat → Prop} {i k j : Nat} (h1 : RT P i k) (h2 : RT P k j) : RT P i j := by
  induction h1 with
  | nil => exact h2
  | cons h _ ih => exact .cons h (ih h2)
theorem RT.snoc {P : Nat → Nat → Prop} {i k j : Nat} (h1 : RT P i k) (h2 : P k j) : RT P i j := h1.trans (.one h2)
theorem RT.bis {P Q : Nat → Nat → Prop} {r : Nat → Nat → Prop} (hb : ∀ a b a', r a b → P a a' → ∃ b', Q b b' ∧ r a' b') {a a' : Nat} (h : RT P a a') : ∀ {b}, r a b → ∃ b', RT Q b b' ∧ r a' b' := by
  induction h with
  | nil i => exact fun hr => ⟨_, .nil _, hr⟩
  | cons h _ ih =>
    intro b hr
    obtain ⟨b1, q1, r1⟩ := hb _ _ _ hr h
    obtain ⟨b2, q2, r2⟩ := ih r1
    exact ⟨b2, .cons q1 q2, r2⟩
theorem RT.mono {P Q : Nat → Nat → Prop} (hb : ∀ a b, P a b → Q a b) {a b : Nat} (h : RT P a b) : RT Q a b := by
  induction h with
  | nil i => exact .nil i
  | cons h _ ih => exact .cons (hb _ _ h) ih
theorem RT.flat {P : Nat → Nat → Prop} {a b : Nat} (h : RT (RT P) a b) : RT P a b := by
  induction h with
  | nil i => exact .nil i
  | cons h _ ih => exact h.trans ih
theorem RT.le {P : Nat → Nat → Prop} (hp : ∀ a b, P a b → a ≤ b) {a b : Nat} (h : RT P a b) : a ≤ b := by
  induction h with
  | nil i => exact Nat.le_refl _
  | cons h _ ih => exact Nat.le_trans (hp _ _ h) ih
abbrev Stp := Nat → Nat → Nat → Prop
def Any (S : Stp) (i j : Nat) : Prop := ∃ c, S c i j
mutual
def MR (fd : W → Int) (T : Nat) (S : Stp) : Mdl → Nat → Nat → Prop
  | .mk k n l => fun i j => (k = 1 ∧ i = j) ∨ (k = 2 ∧ RT (Any S) i j) ∨ (k = 3 ∧ S T i j) ∨ (k = 4 ∧ ∃ c : Nat, fd n = c ∧ S c i j) ∨ (k = 5 ∧ MSeq fd T S l i j) ∨ (k = 6 ∧ MOr fd T S l i j) ∨
      (k = 7 ∧ RT (MHd fd T S l) i j) ∨ (k = 8 ∧ ∃ m, MHd fd T S l i m ∧ RT (MHd fd T S l) m j) ∨ (k = 9 ∧ (i = j ∨ MHd fd T S l i j))
def MSeq (fd : W → Int) (T : Nat) (S : Stp) : List Mdl → Nat → Nat → Prop
  | [] => fun i j => i = j
  | m :: l => fun i j => ∃ k, MR fd T S m i k ∧ MSeq fd T S l k j
def MOr (fd : W → Int) (T : Nat) (S : Stp) : List Mdl → Nat → Nat → Prop
  | [] => fun _ _ => False
  | m :: l => fun i j => MR fd T S m i j ∨ MOr fd T S l i j
def MHd (fd : W → Int) (T : Nat) (S : Stp) : List Mdl → Nat → Nat → Prop
  | [] => fun _ _ => False
  | m :: _ => fun i j => MR fd T S m i j
end
section
variable {fd : W → Int} {T : Nat} {S S' : Stp} {r : Nat → Nat → Prop}
mutual
theorem MR_bis (hb : ∀ c a b a', r a b → S c a a' → ∃ b', S' c b b' ∧ r a' b') : ∀ (m : Mdl) {a a' b : Nat}, r a b → MR fd T S m a a' → ∃ b', MR fd T S' m b b' ∧ r a' b'
  | .mk k n l, a, a', b, hr, h => by
    unfold MR at h
    rcases h with ⟨hk, rfl⟩ | ⟨hk, h⟩ | ⟨hk, h⟩ | ⟨hk, c, hc, h⟩ | ⟨hk, h⟩ | ⟨hk, h⟩ | ⟨hk, h⟩ | ⟨hk, m, h, h2⟩ | ⟨hk, rfl | h⟩
    · exact ⟨b, by unfold MR; exact .inl ⟨hk, rfl⟩, hr⟩
    · obtain ⟨b', q, r'⟩ := RT.bis (Q := Any S') (r := r) (fun a b a' hr ⟨c, hc⟩ => let ⟨b', q, r'⟩ := hb c a b a' hr hc; ⟨b', ⟨c, q⟩, r'⟩) h hr
      exact ⟨b', by unfold MR; exact .inr (.inl ⟨hk, q⟩), r'⟩
    · obtain ⟨b', q, r'⟩ := hb _ _ _ _ hr h
      exact ⟨b', by unfold MR; exact .inr (.inr (.inl ⟨hk, q⟩)), r'⟩
    · obtain ⟨b', q, r'⟩ := hb _ _ _ _ hr h
      exact ⟨b', by unfold MR; exact .inr (.inr (.inr (.inl ⟨hk, c, hc, q⟩))), r'⟩
    · obtain ⟨b', q, r'⟩ := MSeq_bis hb l hr h
      exact ⟨b', by unfold MR; exact .inr (.inr (.inr (.inr (.inl ⟨hk, q⟩)))), r'⟩
    · obtain ⟨b', q, r'⟩ := MOr_bis hb l hr h
      exact ⟨b', by unfold MR; exact .inr (.inr (.inr (.inr (.inr (.inl ⟨hk, q⟩))))), r'⟩
    · obtain ⟨b', q, r'⟩ := RT.bis (Q := MHd fd T S' l) (r := r) (fun a b a' hr h => MHd_bis hb l hr h) h hr
      exact ⟨b', by unfold MR; exact .inr (.inr (.inr (.inr (.inr (.inr (.inl ⟨hk, q⟩)))))), r'⟩
    · obtain ⟨b1, q1, r1⟩ := MHd_bis hb l hr h
      obtain ⟨b', q, r'⟩ := RT.bis (Q := MHd fd T S' l) (r := r) (fun a b a' hr h => MHd_bis hb l hr h) h2 r1
      exact ⟨b', by unfold MR; exact .inr (.inr (.inr (.inr (.inr (.inr (.inr (.inl ⟨hk, b1, q1, q⟩))))))), r'⟩
    · exact ⟨b, by unfold MR; exact .inr (.inr (.inr (.inr (.inr (.inr (.inr (.inr ⟨hk, .inl rfl⟩))))))), hr⟩
    · obtain ⟨b1, q1, r1⟩ := MHd_bis hb l hr h
      exact ⟨b1, by unfold MR; exact .inr (.inr (.inr (.inr (.inr (.inr (.inr (.inr ⟨hk, .inr q1⟩))))))), r1⟩
theorem MSeq_bis (hb : ∀ c a b a', r a b → S c a a' → ∃ b', S' c b b' ∧ r a' b') : ∀ (l : List Mdl) {a a' b : Nat}, r a b → MSeq fd T S l a a' → ∃ b', MSeq fd T S' l b b' ∧ r a' b'
  | [], a, a', b, hr, h => by
    unfold MSeq at h
    subst h
    exact ⟨b, by unfold MSeq; rfl, hr⟩
  | m :: l, a, a', b, hr, h => by
    unfold MSeq at h
    obtain ⟨k, h1, h2⟩ := h
    obtain ⟨b1, q1, r1⟩ := MR_bis hb m hr h1
    obtain ⟨b2, q2, r2⟩ := MSeq_bis hb l r1 h2
    exact ⟨b2, by unfold MSeq; exact ⟨b1, q1, q2⟩, r2⟩
theorem MOr_bis (hb : ∀ c a b a', r a b → S c a a' → ∃ b', S' c b b' ∧ r a' b') : ∀ (l : List Mdl) {a a' b : Nat}, r a b → MOr fd T S l a a' → ∃ b', MOr fd T S' l b b' ∧ r a' b'
  | [], a, a', b, hr, h => by
    unfold MOr at h
    exact h.elim
  | m :: l, a, a', b, hr, h => by
    unfold MOr at h
    rcases h with h | h
    · obtain ⟨b1, q1, r1⟩ := MR_bis hb m hr h
      exact ⟨b1, by unfold MOr; exact .inl q1, r1⟩
    · obtain ⟨b1, q1, r1⟩ := MOr_bis hb l hr h
      exact ⟨b1, by unfold MOr; exact .inr q1, r1⟩
theorem MHd_bis (hb : ∀ c a b a', r a b → S c a a' → ∃ b', S' c b b' ∧ r a' b') : ∀ (l : List Mdl) {a a' b : Nat}, r a b → MHd fd T S l a a' → ∃ b', MHd fd T S' l b b' ∧ r a' b'
  | [], a, a', b, hr, h => by
    unfold MHd at h
    exact h.elim
  | m :: _, a, a', b, hr, h => by
    unfold MHd at h
    obtain ⟨b1, q1, r1⟩ := MR_bis hb m hr h
    exact ⟨b1, by unfold MHd; exact q1, r1⟩
end
end
section
variable {fd : W → Int} {T : Nat} {S : Stp}
mutual
theorem MR_any : ∀ (m : Mdl) {i j : Nat}, MR fd T S m i j → RT (Any S) i j
  | .mk k n l, i, j, h => by
    unfold MR at h
    rcases h with ⟨_, rfl⟩ | ⟨_, h⟩ | ⟨_, h⟩ | ⟨_, c, _, h⟩ | ⟨_, h⟩ | ⟨_, h⟩ | ⟨_, h⟩ | ⟨_, m, h, h2⟩ | ⟨_, rfl | h⟩
    · exact .nil _
    · exact h
    · exact .one ⟨_, h⟩
    · exact .one ⟨_, h⟩
    · exact MSeq_any l h
    · exact MOr_any l h
    · exact (h.mono fun a b h => MHd_any l h).flat
    · exact (MHd_any l h).trans (h2.mono fun a b h => MHd_any l h).flat
    · exact .nil _
    · exact MHd_any l h
theorem MSeq_any : ∀ (l : List Mdl) {i j : Nat}, MSeq fd T S l i j → RT (Any S) i j
  | [], i, j, h => by unfold MSeq at h; subst h; exact .nil _
  | m :: l, i, j, h => by
    unfold MSeq at h
    obtain ⟨k, h1, h2⟩ := h
    exact (MR_any m h1).trans (MSeq_any l h2)
theorem MOr_any : ∀ (l : List Mdl) {i j : Nat}, MOr fd T S l i j → RT (Any S) i j
  | [], i, j, h => by unfold MOr at h; exact h.elim
  | m :: l, i, j, h => by
    unfold MOr at h
    exact h.elim (MR_any m) (MOr_any l)
theorem MHd_any : ∀ (l : List Mdl) {i j : Nat}, MHd fd T S l i j → RT (Any S) i j
  | [], i, j, h => by unfold MHd at h; exact h.elim
  | m :: _, i, j, h => by unfold MHd at h; exact MR_any m h
end
end
structure Sc where
  fd : W → Int
  T : Nat
  ms : Nat → Mdl
def StpN (s : Sc) (w : List Int) : Nat → Stp
  | 0 => fun _ _ _ => False
  | t + 1 => fun c i j => (c = s.T ∧ w[i]? = some (2 * (s.T : Int)) ∧ j = i + 1) ∨ (c < s.T ∧ w[i]? = some (2 * (c : Int)) ∧ ∃ j', MR s.fd s.T (StpN s w t) (s.ms c) (i + 1) j' ∧ w[j']? = some (2 * (c : Int) + 1) ∧ j = j' + 1)
def Stw (s : Sc) (w : List Int) : Stp := StpN s w (w.length + 1)
theorem get_lt {α : Type} {l : List α} {i : Nat} {x : α} (h : l[i]? = some x) : i < l.length := (List.getElem?_eq_some_iff.1 h).1
theorem StpN_lt (s : Sc) (w : List Int) : ∀ (t c i j : Nat), StpN s w t c i j → i < j ∧ j ≤ w.length
  | 0, _, _, _, h => h.elim
  | t + 1, c, i, j, h => by
    rcases h with ⟨_, h1, rfl⟩ | ⟨_, h1, j', h2, h3, rfl⟩
    · have := get_lt h1; omega
    · have q := (MR_any _ h2).le fun a b ⟨c, hc⟩ => Nat.le_of_lt (StpN_lt s w t c a b hc).1
      have := get_lt h3
      omega
theorem StpN_st (s : Sc) (w : List Int) : ∀ (t t' c i j : Nat), w.length + 1 ≤ t' + i → StpN s w t c i j → StpN s w t' c i j
  | 0, _, _, _, _, _, h => h.elim
  | t + 1, t', c, i, j, ht, h => by
    have hl := StpN_lt s w _ _ _ _ h
    match t', ht with
    | 0, ht => omega
    | t' + 1, ht =>
      rcases h with h | ⟨h0, h1, j', h2, h3, rfl⟩
      · exact .inl h
      · obtain ⟨b', q, rfl, _⟩ := MR_bis (S' := StpN s w t') (r := fun a b => a = b ∧ i + 1 ≤ a) (fun c a b a' ⟨hab, ha⟩ hc => by
          subst hab
          exact ⟨a', StpN_st s w t t' c a a' (by omega) hc, rfl, by have := (StpN_lt s w t c a a' hc).1; omega⟩) _ ⟨rfl, Nat.le_refl _⟩ h2
        exact .inr ⟨h0, h1, j', q, h3, rfl⟩
theorem Stw_lt {s : Sc} {w : List Int} {c i j : Nat} (h : Stw s w c i j) : i < j ∧ j ≤ w.length := StpN_lt s w _ _ _ _ h
theorem Stw_iff (s : Sc) (w : List Int) (c i j : Nat) : Stw s w c i j ↔ (c = s.T ∧ w[i]? = some (2 * (s.T : Int)) ∧ j = i + 1) ∨ (c < s.T ∧ w[i]? = some (2 * (c : Int)) ∧ ∃ j', MR s.fd s.T (Stw s w) (s.ms c) (i + 1) j' ∧ w[j']? = some (2 * (c : Int) + 1) ∧ j = j' + 1) := by
  constructor
  · intro h
    have h : StpN s w (w.length + 1) c i j := h
    rcases h with h | ⟨h0, h1, j', h2, h3, rfl⟩
    · exact .inl h
    · obtain ⟨b', q, rfl, _⟩ := MR_bis (S' := Stw s w) (r := fun a b => a = b ∧ i + 1 ≤ a) (fun c a b a' ⟨hab, ha⟩ hc => by
        subst hab
        exact ⟨a', StpN_st s w _ _ c a a' (by omega) hc, rfl, by have := (StpN_lt s w _ c a a' hc).1; omega⟩) _ ⟨rfl, Nat.le_refl _⟩ h2
      exact .inr ⟨h0, h1, j', q, h3, rfl⟩
  · intro h
    show StpN s w (w.length + 1) c i j
    rcases h with h | ⟨h0, h1, j', h2, h3, rfl⟩
    · exact .inl h
    · obtain ⟨b', q, rfl, _⟩ := MR_bis (S' := StpN s w w.length) (r := fun a b => a = b ∧ i + 1 ≤ a) (fun c a b a' ⟨hab, ha⟩ hc => by
        subst hab
        exact ⟨a', StpN_st s w _ _ c a a' (by omega) hc, rfl, by have := (Stw_lt hc).1; omega⟩) _ ⟨rfl, Nat.le_refl _⟩ h2
      exact .inr ⟨h0, h1, j', q, h3, rfl⟩
def HasW (s : Sc) (root : W) (w : List Int) : Prop := ∃ k : Nat, s.fd root = k ∧ k < s.T ∧ Stw s w k 0 w.length
theorem Stw_even {s : Sc} {w : List Int} {c i j : Nat} (h : Stw s w c i j) : w[i]? = some (2 * (c : Int)) ∧ c ≤ s.T := by
  rcases (Stw_iff s w c i j).1 h with ⟨rfl, h, _⟩ | ⟨h0, h, _⟩
  · exact ⟨h, Nat.le_refl _⟩
  · exact ⟨h, Nat.le_of_lt h0⟩
end SchM
end

section
/- Plain: a word's elements and its partners; rows of children; what a schema has is whole. Conditions: none. -/
namespace SchM
def put (o : Nat → Int) (x : Nat) (v : Int) : Nat → Int := fun y => if y = x then v else o y
theorem put_same (o : Nat → Int) (x : Nat) (v : Int) : put o x v x = v := by simp [put]
theorem put_ne {o : Nat → Int} {x y : Nat} {v : Int} (h : y ≠ x) : put o x v y = o y := by simp [put, h]
def mstep (T : Nat) (c : Int) (i : Nat) (st : (Nat → Int) × List Nat) : (Nat → Int) × List Nat :=
  if c = 2 * (T : Int) then (put st.1 i (-1), st.2) else if c % 2 = 0 then (put st.1 i (-1), i :: st.2) else match st.2 with
    | [] => (put st.1 i (-1), [])
    | k :: r => (put (put (put st.1 i (-1)) i k) k i, r)
def mrun (T : Nat) (w : List Int) : Nat → (Nat → Int) × List Nat
  | 0 => (fun _ => 0, [])
  | i + 1 => match w[i]? with
    | some c => mstep T c i (mrun T w i)
    | none => mrun T w i
theorem mrun_lt (T : Nat) (w : List Int) : ∀ (i : Nat), ∀ x ∈ (mrun T w i).2, x < i
  | 0, x, h => by simp [mrun] at h
  | i + 1, x, h => by
    unfold mrun at h
    split at h
    · unfold mstep at h
      split at h
      · exact Nat.lt_succ_of_lt (mrun_lt T w i x h)
      · split at h
        · rcases List.mem_cons.1 h with rfl | h
          · exact Nat.lt_succ_self _
          · exact Nat.lt_succ_of_lt (mrun_lt T w i x h)
        · split at h
          · cases h
          · rename_i k r e
            exact Nat.lt_succ_of_lt (mrun_lt T w i x (by rw [e]; exact List.mem_cons_of_mem _ h))
    · exact Nat.lt_succ_of_lt (mrun_lt T w i x h)
theorem mrun_in (T : Nat) (w : List Int) : ∀ (i x : Nat), x < i → i ≤ w.length → -1 ≤ (mrun T w i).1 x ∧ (mrun T w i).1 x < i
  | 0, x, h, _ => by omega
  | i + 1, x, h, hi => by
    have ih : ∀ y, y < i → -1 ≤ (mrun T w i).1 y ∧ (mrun T w i).1 y < i := fun y hy => mrun_in T w i y hy (by omega)
    have p : ∀ {o : Nat → Int}, (∀ y, y < i → -1 ≤ o y ∧ o y < i) → -1 ≤ put o i (-1) x ∧ put o i (-1) x < (i + 1 : Nat) := by
      intro o ho
      by_cases e : x = i
      · subst e; rw [put_same]; omega
      · rw [put_ne e]
        have := ho x (by omega)
        omega
    unfold mrun
    rw [List.getElem?_eq_getElem (show i < w.length by omega)]
    dsimp only
    unfold mstep
    split
    · exact p ih
    · split
      · exact p ih
      · split
        · exact p ih
        · rename_i k r e
          have hk := mrun_lt T w i k (by rw [e]; simp)
          dsimp only
          by_cases e1 : x = k
          · subst e1; rw [put_same]; omega
          · rw [put_ne e1]
            by_cases e2 : x = i
            · subst e2; rw [put_same]; omega
            · rw [put_ne e2]; exact p ih
structure Bal (T : Nat) (w : List Int) (i j : Nat) : Prop where
  le : i ≤ j
  stk : (mrun T w j).2 = (mrun T w i).2
  low : ∀ x, x < i → (mrun T w j).1 x = (mrun T w i).1 x
  mid : ∀ x, i ≤ x → x < j → 0 ≤ (mrun T w j).1 x ∨ w[x]? = some (2 * (T : Int))
  rng : ∀ x, i ≤ x → x < j → ∃ c, w[x]? = some c ∧ 0 ≤ c ∧ c ≤ 2 * (T : Int)
theorem Bal.refl (T : Nat) (w : List Int) (i : Nat) : Bal T w i i := ⟨Nat.le_refl _, rfl, fun _ _ => rfl, fun x h1 h2 => by omega, fun x h1 h2 => by omega⟩
theorem Bal.trans {T : Nat} {w : List Int} {i k j : Nat} (a : Bal T w i k) (b : Bal T w k j) : Bal T w i j where
  le := Nat.le_trans a.le b.le
  stk := b.stk.trans a.stk
  low x hx := (b.low x (Nat.lt_of_lt_of_le hx a.le)).trans (a.low x hx)
  mid x h1 h2 := by
    by_cases h : x < k
    · rw [b.low x h]; exact a.mid x h1 h
    · exact b.mid x (by omega) h2
  rng x h1 h2 := by
    by_cases h : x < k
    · exact a.rng x h1 h
    · exact b.rng x (by omega) h2
theorem Bal.rt {T : Nat} {w : List Int} {P : Nat → Nat → Prop} (hp : ∀ a b, P a b → Bal T w a b) {i j : Nat} (h : RT P i j) : Bal T w i j := by
  induction h with
  | nil i => exact .refl T w i
  | cons h _ ih => exact (hp _ _ h).trans ih
theorem StpN_bal (s : Sc) (w : List Int) : ∀ (t c i j : Nat), StpN s w t c i j → Bal s.T w i j ∧ (c < s.T → (mrun s.T w j).1 i = (j : Int) - 1)
  | 0, _, _, _, h => h.elim
  | t + 1, c, i, j, h => by
    rcases h with ⟨hc, h1, rfl⟩ | ⟨h0, h1, j', h2, h3, rfl⟩
    · have e : mrun s.T w (i + 1) = (put (mrun s.T w i).1 i (-1), (mrun s.T w i).2) := by
        rw [show mrun s.T w (i + 1) = (match w[i]? with | some c => mstep s.T c i (mrun s.T w i) | none => mrun s.T w i) from rfl, h1]
        dsimp only
        unfold mstep
        rw [if_pos rfl]
      refine ⟨⟨by omega, by rw [e], fun x hx => by rw [e]; exact put_ne (by omega), fun x a b => .inr (by rw [show x = i by omega]; exact h1), fun x a b => ⟨2 * (s.T : Int), by rw [show x = i by omega]; exact h1, by omega, by omega⟩⟩, fun h => by omega⟩
    · have e : mrun s.T w (i + 1) = (put (mrun s.T w i).1 i (-1), i :: (mrun s.T w i).2) := by
        rw [show mrun s.T w (i + 1) = (match w[i]? with | some c => mstep s.T c i (mrun s.T w i) | none => mrun s.T w i) from rfl, h1]
        dsimp only
        unfold mstep
        rw [if_neg (by omega), if_pos (by omega)]
      have b : Bal s.T w (i + 1) j' := Bal.rt (fun a b ⟨c, hc⟩ => (StpN_bal s w t c a b hc).1) (MR_any _ h2)
      have bl := b.le
      have es : (mrun s.T w j').2 = i :: (mrun s.T w i).2 := by rw [b.stk, e]
      have e2 : mrun s.T w (j' + 1) = (put (put (put (mrun s.T w j').1 j' (-1)) j' i) i j', (mrun s.T w i).2) := by
        rw [show mrun s.T w (j' + 1) = (match w[j']? with | some c => mstep s.T c j' (mrun s.T w j') | none => mrun s.T w j') from rfl, h3]
        dsimp only
        unfold mstep
        rw [if_neg (by omega), if_neg (by omega), es]
      refine ⟨⟨by omega, by rw [e2], fun x hx => ?_, fun x a1 a2 => ?_, fun x a1 a2 => ?_⟩, fun _ => ?_⟩
      · rw [e2]
        dsimp only
        rw [put_ne (by omega), put_ne (by omega), put_ne (by omega), b.low x (by omega), e]
        exact put_ne (by omega)
      · rw [e2]
        dsimp only
        by_cases x1 : x = i
        · subst x1; rw [put_same]; exact .inl (by omega)
        · rw [put_ne x1]
          by_cases x2 : x = j'
          · subst x2; rw [put_same]; exact .inl (by omega)
          · rw [put_ne x2, put_ne x2]
            exact b.mid x (by omega) (by omega)
      · by_cases x1 : x = i
        · subst x1; exact ⟨_, h1, by omega, by omega⟩
        · by_cases x2 : x = j'
          · subst x2; exact ⟨_, h3, by omega, by omega⟩
          · exact b.rng x (by omega) (by omega)
      · rw [e2]
        dsimp only
        rw [put_same]
        omega
theorem mrun_keep (T : Nat) (w : List Int) (x j : Nat) (hx : x < j) (hs : x ∉ (mrun T w j).2) : ∀ d, (mrun T w (j + d)).1 x = (mrun T w j).1 x ∧ x ∉ (mrun T w (j + d)).2
  | 0 => ⟨rfl, hs⟩
  | d + 1 => by
    obtain ⟨a, b⟩ := mrun_keep T w x j hx hs d
    rw [← a]
    rw [show j + (d + 1) = (j + d) + 1 by omega]
    generalize hm : j + d = m at *
    have hxm : x ≠ m := by omega
    rw [show mrun T w (m + 1) = (match w[m]? with | some c => mstep T c m (mrun T w m) | none => mrun T w m) from rfl]
    split
    · unfold mstep
      split
      · exact ⟨put_ne hxm, b⟩
      · split
        · exact ⟨put_ne hxm, fun h => (List.mem_cons.1 h).elim hxm b⟩
        · split
          · exact ⟨put_ne hxm, fun h => by cases h⟩
          · rename_i k r e
            rw [e] at b
            have hxk : x ≠ k := fun h => b (by rw [h]; simp)
            refine ⟨?_, fun h => b (List.mem_cons_of_mem _ h)⟩
            dsimp only
            rw [put_ne hxk, put_ne hxm, put_ne hxm]
    · exact ⟨rfl, b⟩
theorem Stw_partner {s : Sc} {w : List Int} {c i j : Nat} (h : Stw s w c i j) (hc : c < s.T) {n : Nat} (hn : j ≤ n) : (mrun s.T w n).1 i = (j : Int) - 1 := by
  obtain ⟨b, p⟩ := StpN_bal s w _ _ _ _ h
  have hl := Stw_lt h
  have hns : i ∉ (mrun s.T w j).2 := by
    rw [b.stk]
    intro hm
    have := mrun_lt s.T w i i hm
    omega
  have := (mrun_keep s.T w i j hl.1 hns (n - j)).1
  rw [show j + (n - j) = n by omega] at this
  rw [this, p hc]
theorem Stw_det {s : Sc} {w : List Int} {c c' i j j' : Nat} (h : Stw s w c i j) (h' : Stw s w c' i j') : c = c' ∧ j = j' := by
  have e1 := Stw_even h
  have e2 := Stw_even h'
  have e3 := e1.1.symm.trans e2.1
  have ec : c = c' := by
    injection e3 with e3
    omega
  subst ec
  refine ⟨rfl, ?_⟩
  by_cases hc : c < s.T
  · have l1 := Stw_lt h
    have l2 := Stw_lt h'
    have p1 := Stw_partner h hc (Nat.le_max_left j j')
    have p2 := Stw_partner h' hc (Nat.le_max_right j j')
    omega
  · rcases (Stw_iff s w c i j).1 h with ⟨_, _, rfl⟩ | ⟨h0, _⟩
    · rcases (Stw_iff s w c i j').1 h' with ⟨_, _, rfl⟩ | ⟨h0, _⟩
      · rfl
      · exact absurd h0 hc
    · exact absurd h0 hc
inductive Pth (S : Stp) : Nat → Nat → List Nat → Prop where
  | nil (i : Nat) : Pth S i i []
  | cons {c i k j : Nat} {r : List Nat} : S c i k → Pth S k j r → Pth S i j (c :: r)
theorem Pth.snoc {S : Stp} {i k j c : Nat} {r : List Nat} (h : Pth S i k r) (hs : S c k j) : Pth S i j (r ++ [c]) := by
  induction h with
  | nil i => exact .cons hs (.nil _)
  | cons h _ ih => exact .cons h (ih hs)
def rowS (row : List Nat) : Stp := fun c a b => row[a]? = some c ∧ b = a + 1
theorem Pth.eq_nil {s : Sc} {w : List Int} {i : Nat} {r : List Nat} (h : Pth (Stw s w) i i r) : r = [] := by
  cases h with
  | nil => rfl
  | cons h1 h2 =>
    rename_i c k r
    have l1 := Stw_lt h1
    have : ∀ {a b : Nat} {r : List Nat}, Pth (Stw s w) a b r → a ≤ b := by
      intro a b r h
      induction h with
      | nil => exact Nat.le_refl _
      | cons h _ ih => have := Stw_lt h; omega
    have := this h2
    omega
theorem fits_iff {s : Sc} {w : List Int} {i e : Nat} {row : List Nat} (hp : Pth (Stw s w) i e row) (hend : ∀ c j, ¬ Stw s w c e j) (m : Mdl) : MR s.fd s.T (rowS row) m 0 row.length ↔ MR s.fd s.T (Stw s w) m i e := by
  let r : Nat → Nat → Prop := fun a b => ∃ r1 r2, row = r1 ++ r2 ∧ a = r1.length ∧ Pth (Stw s w) i b r1 ∧ Pth (Stw s w) b e r2
  have r0 : r 0 i := ⟨[], row, rfl, rfl, .nil i, hp⟩
  constructor
  · intro h
    obtain ⟨b', q, r1, r2, e1, e2, e3, e4⟩ := MR_bis (S' := Stw s w) (r := r) (fun c a b a' hr ⟨hc, ha⟩ => by
      obtain ⟨r1, r2, e1, rfl, e3, e4⟩ := hr
      subst ha
      rw [e1, List.getElem?_append_right (Nat.le_refl _), Nat.sub_self] at hc
      cases e4 with
      | nil => simp at hc
      | cons h1 h2 =>
        simp at hc
        subst hc
        exact ⟨_, h1, r1 ++ [_], _, by rw [e1]; simp, by simp, e3.snoc h1, h2⟩) m r0 h
    have : r2 = [] := by
      have := congrArg List.length e1
      rw [List.length_append, e2] at this
      exact List.eq_nil_of_length_eq_zero (by omega)
    subst this
    cases e4
    exact q
  · intro h
    obtain ⟨a', q, r1, r2, e1, e2, e3, e4⟩ := MR_bis (S' := rowS row) (r := fun b a => r a b) (fun c b a b' hr hc => by
      obtain ⟨r1, r2, e1, rfl, e3, e4⟩ := hr
      cases e4 with
      | nil => exact absurd hc (hend _ _)
      | cons h1 h2 =>
        obtain ⟨rfl, rfl⟩ := Stw_det h1 hc
        exact ⟨r1.length + 1, ⟨by rw [e1, List.getElem?_append_right (Nat.le_refl _), Nat.sub_self]; rfl, rfl⟩, r1 ++ [_], _, by rw [e1]; simp, by simp, e3.snoc hc, h2⟩) m r0 h
    have := e4.eq_nil
    subst this
    rw [List.append_nil] at e1
    rw [e1, ← e2]
    rw [e1] at q
    exact q
theorem stuck {s : Sc} {w : List Int} {i k e : Nat} {row : List Nat} (hp : Pth (Stw s w) i k row) (hk : k < e) (hno : ∀ c j, Stw s w c k j → ¬ j ≤ e) : ¬ RT (Any (Stw s w)) i e := by
  induction hp with
  | nil i =>
    intro h
    cases h with
    | nil => omega
    | cons h1 h2 =>
      obtain ⟨c, h1⟩ := h1
      exact hno _ _ h1 (h2.le fun a b ⟨c, hc⟩ => Nat.le_of_lt (Stw_lt hc).1)
  | cons h1 h2 ih =>
    rename_i c i m k row
    intro h
    cases h with
    | nil =>
      have l1 := Stw_lt h1
      have : ∀ {a b : Nat} {r : List Nat}, Pth (Stw s w) a b r → a ≤ b := by
        intro a b r h
        induction h with
        | nil => exact Nat.le_refl _
        | cons h _ ih => have := Stw_lt h; omega
      have := this h2
      omega
    | cons g1 g2 =>
      obtain ⟨c', g1⟩ := g1
      obtain ⟨rfl, rfl⟩ := Stw_det h1 g1
      exact ih hk hno g2
theorem HasW.rng {s : Sc} {root : W} {w : List Int} (h : HasW s root w) : ∀ c ∈ w, 0 ≤ c ∧ c ≤ 2 * (s.T : Int) := by
  obtain ⟨k, _, _, h⟩ := h
  obtain ⟨b, _⟩ := StpN_bal s w _ _ _ _ h
  intro c hc
  obtain ⟨x, hx⟩ := List.mem_iff_getElem?.1 hc
  obtain ⟨c', h1, h2⟩ := b.rng x (Nat.zero_le _) (get_lt hx)
  rw [hx] at h1
  cases h1
  exact h2
theorem HasW.whole {s : Sc} {root : W} {w : List Int} (h : HasW s root w) (x : Nat) (hx : x < w.length) : 0 ≤ (mrun s.T w w.length).1 x ∨ w[x]? = some (2 * (s.T : Int)) := by
  obtain ⟨k, _, _, h⟩ := h
  exact (StpN_bal s w _ _ _ _ h).1.mid x (Nat.zero_le _) hx
theorem HasW.len {s : Sc} {root : W} {w : List Int} (h : HasW s root w) : 1 < w.length ∧ ∃ k : Nat, s.fd root = k ∧ k < s.T ∧ w[0]? = some (2 * (k : Int)) := by
  obtain ⟨k, h1, h2, h⟩ := h
  rcases (Stw_iff s w k 0 w.length).1 h with ⟨rfl, _⟩ | ⟨_, h4, j', h5, h6, h7⟩
  · omega
  · have := (MR_any _ h5).le fun a b ⟨c, hc⟩ => Nat.le_of_lt (Stw_lt hc).1
    exact ⟨by omega, k, h1, h2, h4⟩
theorem StpN_app (s : Sc) (w v : List Int) : ∀ (t c i j : Nat), StpN s w t c i j → StpN s (w ++ v) t c i j
  | 0, _, _, _, h => h.elim
  | t + 1, c, i, j, h => by
    have ap : ∀ {x : Nat} {y : Int}, w[x]? = some y → (w ++ v)[x]? = some y := fun {x y} hx => by rw [List.getElem?_append_left (get_lt hx)]; exact hx
    rcases h with ⟨hc, h1, h2⟩ | ⟨h0, h1, j', h2, h3, h4⟩
    · exact .inl ⟨hc, ap h1, h2⟩
    · obtain ⟨b', q, rfl⟩ := MR_bis (S' := StpN s (w ++ v) t) (r := fun a b => a = b) (fun c a b a' hab hc => by
        subst hab
        exact ⟨a', StpN_app s w v t c a a' hc, rfl⟩) _ rfl h2
      exact .inr ⟨h0, ap h1, j', q, ap h3, h4⟩
theorem Stw_app {s : Sc} {w : List Int} {c i j : Nat} (h : Stw s w c i j) (v : List Int) : Stw s (w ++ v) c i j :=
  StpN_st s (w ++ v) _ _ _ _ _ (by omega) (StpN_app s w v _ _ _ _ h)
theorem HasW.cut {s : Sc} {root : W} {w : List Int} (h : HasW s root w) : ¬ HasW s root (w.take (w.length - 1)) := by
  rintro ⟨k', _, _, h'⟩
  have hl := h.len.1
  obtain ⟨k, _, _, h⟩ := h
  have h2 := Stw_app h' (w.drop (w.length - 1))
  rw [List.take_append_drop] at h2
  have := (Stw_det h h2).2
  rw [List.length_take] at this
  omega
end SchM
end

section
/- Plain: going on again and again, so often as there are places. Conditions: none. -/
namespace SchM
def itR (X B : Nat → Nat → Prop) : Nat → Nat → Nat → Prop
  | 0 => B
  | q + 1 => fun i j => itR X B q i j ∨ ∃ k, i ≤ k ∧ k ≤ j ∧ itR X B q i k ∧ X k j
theorem itR_mono {X B : Nat → Nat → Prop} {i j : Nat} : ∀ {q q' : Nat}, q ≤ q' → itR X B q i j → itR X B q' i j
  | q, 0, h, hq => by rw [Nat.le_zero.1 h] at hq; exact hq
  | q, q' + 1, h, hq => by
    by_cases e : q = q' + 1
    · rw [← e]; exact hq
    · exact .inl (itR_mono (by omega) hq)
theorem itR_sound {X B : Nat → Nat → Prop} : ∀ {q i j : Nat}, itR X B q i j → ∃ k, B i k ∧ RT X k j
  | 0, i, j, h => ⟨j, h, .nil j⟩
  | q + 1, i, j, h => by
    rcases h with h | ⟨k, _, _, h1, h2⟩
    · exact itR_sound h
    · obtain ⟨m, h3, h4⟩ := itR_sound h1
      exact ⟨m, h3, h4.snoc h2⟩
theorem itR_full {X B : Nat → Nat → Prop} (hX : ∀ a b, X a b → a ≤ b) {i m j : Nat} (h : RT X m j) : ∀ {q : Nat}, i ≤ m → itR X B q i m → itR X B (q + (j - m)) i j := by
  induction h with
  | nil m => exact fun _ hq => by rw [Nat.sub_self]; exact hq
  | cons h1 h2 ih =>
    rename_i a k j
    intro q hi hq
    have l1 := hX _ _ h1
    have l2 := h2.le hX
    by_cases e : a = k
    · subst e
      exact ih hi hq
    · have h3 : itR X B (q + 1) i k := .inr ⟨a, hi, l1, hq, h1⟩
      exact itR_mono (by omega) (ih (by omega) h3)
theorem itR_iff {X B : Nat → Nat → Prop} (hX : ∀ a b, X a b → a ≤ b) (hB : ∀ a b, B a b → a ≤ b) {n i j : Nat} (hj : j ≤ n) : itR X B n i j ↔ ∃ k, B i k ∧ RT X k j := by
  constructor
  · exact itR_sound
  · rintro ⟨k, h1, h2⟩
    have := itR_full (q := 0) hX h2 (hB _ _ h1) h1
    exact itR_mono (by have := hB _ _ h1; omega) this
theorem rowS_lt {row : List Nat} {c a b : Nat} (h : rowS row c a b) : a < b ∧ b ≤ row.length := by
  obtain ⟨h1, rfl⟩ := h
  have := get_lt h1
  omega
theorem rowS_le {row : List Nat} : ∀ a b, Any (rowS row) a b → a ≤ b := fun a b ⟨_, hc⟩ => Nat.le_of_lt (rowS_lt hc).1
theorem MRr_le {fd : W → Int} {T : Nat} {row : List Nat} {m : Mdl} {a b : Nat} (h : MR fd T (rowS row) m a b) : a ≤ b := (MR_any m h).le rowS_le
theorem MSeqr_le {fd : W → Int} {T : Nat} {row : List Nat} {l : List Mdl} {a b : Nat} (h : MSeq fd T (rowS row) l a b) : a ≤ b := (MSeq_any l h).le rowS_le
theorem RT_any {row : List Nat} {a b : Nat} : RT (Any (rowS row)) a b ∧ b ≤ row.length ↔ a ≤ b ∧ b ≤ row.length := by
  constructor
  · rintro ⟨h, hb⟩
    exact ⟨h.le rowS_le, hb⟩
  · rintro ⟨hab, hb⟩
    refine ⟨?_, hb⟩
    have : ∀ d a, a + d ≤ row.length → RT (Any (rowS row)) a (a + d) := by
      intro d
      induction d with
      | zero => exact fun a _ => .nil a
      | succ d ih =>
        intro a h
        have h2 := ih (a + 1) (by omega)
        rw [show a + 1 + d = a + (d + 1) by omega] at h2
        exact .cons ⟨row[a]'(by omega), List.getElem?_eq_getElem (by omega), rfl⟩ h2
    have := this (b - a) a (by omega)
    rwa [show a + (b - a) = b by omega] at this
end SchM
end

section
/- An abstract machine for Go's model: values, heap, and how an abstract heap stands for a world. Conditions: none. -/
namespace Go.AM
open Go
inductive AObj where
  | row (c : List Value) (wr : Bool)
  | map (es : List (Value × Value × Nat)) (clock : Nat)
  | mapIter (m : Option Nat) (since : Nat) (seen : List Nat) (last : Nat)
  | strIter (s : ByteArray) (pos : Nat)
  | dead
abbrev AH := List AObj
structure Pl where
  b : Nat
  sh : Nat
  room : Nat
  es : Nat
abbrev Bj := Nat → Option Pl
def openCap : Nat := 18446744073709551616
inductive VR (β : Bj) : Value → Value → Prop
  | bool (b : Bool) : VR β (.bool b) (.bool b)
  | int (k : IntKind) (n : Int) : VR β (.int k n) (.int k n)
  | float (k : FloatKind) (n : Nat) : VR β (.float k n) (.float k n)
  | complex (k : FloatKind) (n m : Nat) : VR β (.complex k n m) (.complex k n m)
  | str (s : ByteArray) : VR β (.string s) (.string s)
  | nilp : VR β (.pointer none) (.pointer none)
  | ptr {id off : Nat} {p : Pl} (h : β id = some p) : VR β (.pointer (some ⟨id, off, none⟩)) (.pointer (some ⟨p.b, p.sh + off, none⟩))
  | nils : VR β (.slice none 0 0) (.slice none 0 0)
  | slx {id off len cap : Nat} {p : Pl} {a : Addr} (h : β id = some p) (hl : len ≤ cap) (hc : cap < openCap) (ha : cap = 0 ∨ a = ⟨p.b, p.sh + off, none⟩) : VR β (.slice (some ⟨id, off, none⟩) len cap) (.slice (some a) len cap)
  | slo {id off len cap : Nat} {p : Pl} {a : Addr} (h : β id = some p) (hl : len ≤ cap) (hc : cap < openCap) (hr : p.sh + off + cap * p.es = p.room) (ha : cap = 0 ∨ a = ⟨p.b, p.sh + off, none⟩) :
      VR β (.slice (some ⟨id, off, none⟩) len (openCap + p.es)) (.slice (some a) len cap)
  | nilm : VR β (.map none) (.map none)
  | map {id : Nat} {p : Pl} (h : β id = some p) : VR β (.map (some id)) (.map (some p.b))
  | func (fn : Fn) {a b a' b' : Array Value} (ha : a.size = a'.size) (hb : b.size = b'.size) (h1 : ∀ i, i < a.size → VR β (a.getD i undef) (a'.getD i undef)) (h2 : ∀ i, i < b.size → VR β (b.getD i undef) (b'.getD i undef)) :
      VR β (.func fn a b) (.func fn a' b')
  | nilFunc : VR β .nilFunc .nilFunc
  | iface (t : TypeId) {v v' : Value} (h : VR β v v') : VR β (.iface t v) (.iface t v')
  | nilIface : VR β .nilIface .nilIface
  | agg {a a' : Array Value} (hs : a.size = a'.size) (h1 : ∀ v ∈ a, v.oneCell' = true) (h : ∀ i, i < a.size → VR β (a.getD i undef) (a'.getD i undef)) : VR β (.agg a) (.agg a')
  | tuple {a a' : Array Value} (hs : a.size = a'.size) (h : ∀ i, i < a.size → VR β (a.getD i undef) (a'.getD i undef)) : VR β (.tuple a) (.tuple a')
def BLe (β β' : Bj) : Prop := ∀ id p, β id = some p → β' id = some p
theorem BLe.refl (β : Bj) : BLe β β := fun _ _ h => h
theorem BLe.trans {a b c : Bj} (h : BLe a b) (k : BLe b c) : BLe a c := fun _ _ e => k _ _ (h _ _ e)
theorem VR.mono {β β' : Bj} (hb : BLe β β') {v v' : Value} (h : VR β v v') : VR β' v v' := by
  induction h with
  | bool b => exact .bool b
  | int k n => exact .int k n
  | float k n => exact .float k n
  | complex k n m => exact .complex k n m
  | str s => exact .str s
  | nilp => exact .nilp
  | ptr h => exact .ptr (hb _ _ h)
  | nils => exact .nils
  | slx h hl hc ha => exact .slx (hb _ _ h) hl hc ha
  | slo h hl hc hr ha => exact .slo (hb _ _ h) hl hc hr ha
  | nilm => exact .nilm
  | map h => exact .map (hb _ _ h)
  | func fn ha hb' _ _ i1 i2 => exact .func fn ha hb' i1 i2
  | nilFunc => exact .nilFunc
  | iface t _ ih => exact .iface t ih
  | nilIface => exact .nilIface
  | agg hs h1 _ ih => exact .agg hs h1 ih
  | tuple hs _ ih => exact .tuple hs ih
theorem VR.undef (β : Bj) : VR β undef undef := .tuple rfl fun i hi => absurd hi (by simp)
def pureS : Value → Bool
  | .bool _ | .int .. | .float .. | .complex .. | .string _ | .pointer none | .slice none 0 0 | .map none | .nilFunc | .nilIface => true
  | .func _ a b => a.size == 0 && b.size == 0
  | _ => false
def pureV : Value → Bool
  | .agg a => a.all pureS
  | .tuple a => a.all pureS
  | v => pureS v
theorem VR.ofPureS {β : Bj} {v : Value} (h : pureS v = true) : VR β v v := by
  unfold pureS at h
  split at h
  case h_1 => exact .bool _
  case h_2 => exact .int _ _
  case h_3 => exact .float _ _
  case h_4 => exact .complex _ _ _
  case h_5 => exact .str _
  case h_6 => exact .nilp
  case h_7 => exact .nils
  case h_8 => exact .nilm
  case h_9 => exact .nilFunc
  case h_10 => exact .nilIface
  case h_11 =>
    simp only [Bool.and_eq_true, beq_iff_eq] at h
    exact .func _ rfl rfl (fun i hi => by omega) (fun i hi => by omega)
  case h_12 => cases h
theorem getD_mem {a : Array Value} {i : Nat} (hi : i < a.size) : a.getD i undef ∈ a := by
  simp [Array.getD, hi]
theorem pureS_one {v : Value} (h : pureS v = true) : v.oneCell' = true := by
  cases v <;> first | rfl | (simp [pureS] at h)
theorem VR.ofPure {β : Bj} {v : Value} (h : pureV v = true) : VR β v v := by
  unfold pureV at h
  split at h
  · exact .agg rfl (fun v hv => pureS_one (Array.all_eq_true'.1 h _ hv)) fun i hi => .ofPureS (Array.all_eq_true'.1 h _ (getD_mem hi))
  · exact .tuple rfl fun i hi => .ofPureS (Array.all_eq_true'.1 h _ (getD_mem hi))
  · exact .ofPureS h
theorem VR.pureS_eq {β : Bj} {v v' : Value} (h : VR β v v') (hp : pureS v = true) : v' = v := by
  cases h <;> first | rfl | (simp [pureS] at hp; done) | skip
  rename_i fn a b a' b' ha hb _ _
  simp [pureS] at hp
  obtain ⟨h1, h2⟩ := hp
  have e1 : a' = #[] := Array.eq_empty_of_size_eq_zero (by rw [← ha, h1]; rfl)
  have e2 : b' = #[] := Array.eq_empty_of_size_eq_zero (by rw [← hb, h2]; rfl)
  rw [e1, e2, h1, h2]
theorem array_ext_getD {a a' : Array Value} (hs : a.size = a'.size) (h : ∀ i, i < a.size → a'.getD i undef = a.getD i undef) : a' = a := by
  apply Array.ext hs.symm
  intro i h1 h2
  have := h i h2
  simpa [Array.getD, h1, h2] using this
theorem VR.pure_eq {β : Bj} {v v' : Value} (h : VR β v v') (hp : pureV v = true) : v' = v := by
  cases h with
  | agg hs _ hh =>
    unfold pureV at hp
    rw [array_ext_getD hs fun i hi => (hh i hi).pureS_eq (Array.all_eq_true'.1 hp _ (getD_mem hi))]
  | tuple hs hh =>
    unfold pureV at hp
    rw [array_ext_getD hs fun i hi => (hh i hi).pureS_eq (Array.all_eq_true'.1 hp _ (getD_mem hi))]
  | bool => rfl
  | int => rfl
  | float => rfl
  | complex => rfl
  | str => rfl
  | nilp => rfl
  | nils => rfl
  | nilm => rfl
  | nilFunc => rfl
  | nilIface => rfl
  | ptr => simp [pureV, pureS] at hp
  | slx => simp [pureV, pureS] at hp
  | slo => simp [pureV, pureS] at hp
  | map => simp [pureV, pureS] at hp
  | iface => simp [pureV, pureS] at hp
  | func fn ha hb h1 h2 => exact VR.pureS_eq (β := β) (.func fn ha hb h1 h2) hp
def EntR (β : Bj) (e : Value × Value × Nat) (c : MapEntry) : Prop := VR β e.1 c.key ∧ VR β e.2.1 c.val ∧ e.2.2 = c.born
def EntsR (β : Bj) : List (Value × Value × Nat) → List MapEntry → Prop
  | [], [] => True
  | e :: es, c :: cs => EntR β e c ∧ EntsR β es cs
  | _, _ => False
def ObjAt (β : Bj) (o : AObj) (p : Pl) (w : World) : Prop :=
  match o with
  | .row c wr => ∃ cc e fr, w.heap[p.b]? = some (.cells cc e fr) ∧ p.sh + c.length ≤ p.room ∧ p.room ≤ cc.size ∧
      (∀ i, i < c.length → VR β (c.getD i undef) (cc.getD (p.sh + i) undef)) ∧ (wr = true → fr = (0, 0)) ∧ (∀ v ∈ c, v.oneCell' = true)
  | .map es ck => ∃ ees, w.heap[p.b]? = some (.map ees ck) ∧ EntsR β es ees.toList
  | .mapIter m since seen last => p.sh = 0 ∧ ∃ m', w.heap[p.b]? = some (.mapIter m' since seen.toArray last) ∧ VR β (.map m) (.map m')
  | .strIter s pos => p.sh = 0 ∧ w.heap[p.b]? = some (.stringIter s pos)
  | .dead => True
def live : Option AObj → Bool
  | none | some .dead => false
  | _ => true
def isRo : Option AObj → Bool
  | some (.row _ false) => true
  | _ => false
structure Rel (β : Bj) (h : AH) (w : World) : Prop where
  lt : ∀ {id p}, β id = some p → id < h.length
  obj : ∀ {id p o}, β id = some p → h[id]? = some o → ObjAt β o p w
  sep : ∀ {i j p q}, i ≠ j → β i = some p → β j = some q → live h[i]? = true → live h[j]? = true → (isRo h[i]? && isRo h[j]?) = false → p.b ≠ q.b
def WB (β : Bj) (h : AH) (b : Nat) : Prop := ∃ id p, β id = some p ∧ p.b = b ∧ live h[id]? = true ∧ isRo h[id]? = false
structure Ext (D : Nat → Prop) (β : Bj) (h : AH) (w : World) (β' : Bj) (h' : AH) (w' : World) : Prop where
  ble : BLe β β'
  dom : ∀ id, D id → β' id ≠ none → β id ≠ none
  len : h.length ≤ h'.length
  afr : ∀ id, D id → β id = none → h'[id]? = h[id]?
  size : w.heap.size ≤ w'.heap.size
  tape : w'.tape = w.tape
  os : w'.os = w.os
  out : w'.output = w.output
  cfr : ∀ b, b < w.heap.size → ¬ WB β h b → w'.heap[b]? = w.heap[b]?
  wb : ∀ b, WB β' h' b → WB β h b ∨ w.heap.size ≤ b
theorem Ext.refl (D : Nat → Prop) (β : Bj) (h : AH) (w : World) : Ext D β h w β h w :=
  ⟨.refl β, fun _ _ h => h, Nat.le_refl _, fun _ _ _ => rfl, Nat.le_refl _, rfl, rfl, rfl, fun _ _ _ => rfl, fun _ h => .inl h⟩
theorem Ext.trans {D : Nat → Prop} {β β1 β2 : Bj} {h h1 h2 : AH} {w w1 w2 : World} (a : Ext D β h w β1 h1 w1) (b : Ext D β1 h1 w1 β2 h2 w2) : Ext D β h w β2 h2 w2 where
  ble := a.ble.trans b.ble
  dom id hid h2 := a.dom id hid (b.dom id hid h2)
  len := Nat.le_trans a.len b.len
  afr id hid hb := by
    rw [b.afr id hid, a.afr id hid hb]
    cases e : β1 id with
    | none => rfl
    | some p => exact absurd hb (a.dom id hid (by rw [e]; simp))
  size := Nat.le_trans a.size b.size
  tape := b.tape.trans a.tape
  os := b.os.trans a.os
  out := b.out.trans a.out
  cfr bl hbl hw := by
    rw [b.cfr bl (Nat.lt_of_lt_of_le hbl a.size) (fun hw1 => (a.wb bl hw1).elim hw (by omega)), a.cfr bl hbl hw]
  wb bl hw := (b.wb bl hw).elim (a.wb bl) fun hl => .inr (Nat.le_trans a.size hl)
theorem Ext.mono {D E : Nat → Prop} {β β' : Bj} {h h' : AH} {w w' : World} (a : Ext D β h w β' h' w') (hm : ∀ id, E id → D id) : Ext E β h w β' h' w' :=
  { a with dom := fun id hid => a.dom id (hm id hid), afr := fun id hid => a.afr id (hm id hid) }
theorem EntsR.mono {β β' : Bj} (hb : BLe β β') : ∀ {es : List (Value × Value × Nat)} {cs : List MapEntry}, EntsR β es cs → EntsR β' es cs
  | [], [], _ => trivial
  | _ :: _, _ :: _, ⟨⟨h1, h2, h3⟩, h⟩ => ⟨⟨h1.mono hb, h2.mono hb, h3⟩, h.mono hb⟩
theorem ObjAt.congr {β β' : Bj} (hb : BLe β β') {o : AObj} {p : Pl} {w w' : World} (h : ObjAt β o p w) (hw : w'.heap[p.b]? = w.heap[p.b]?) : ObjAt β' o p w' := by
  cases o with
  | row c wr =>
    obtain ⟨cc, e, fr, h1, h3, h4, h5, h6⟩ := h
    exact ⟨cc, e, fr, hw.trans h1, h3, h4, fun i hi => (h5 i hi).mono hb, h6⟩
  | map es ck =>
    obtain ⟨ees, h1, h2⟩ := h
    exact ⟨ees, hw.trans h1, h2.mono hb⟩
  | mapIter m s se l =>
    obtain ⟨h0, m', h1, h2⟩ := h
    exact ⟨h0, m', hw.trans h1, h2.mono hb⟩
  | strIter s pos => exact ⟨h.1, hw.trans h.2⟩
  | dead => trivial
theorem ObjAt.lt {β : Bj} {o : AObj} {p : Pl} {w : World} (h : ObjAt β o p w) (hl : live (some o) = true) : p.b < w.heap.size := by
  have key : ∀ {x : Obj}, w.heap[p.b]? = some x → p.b < w.heap.size := fun hx => (Array.getElem?_eq_some_iff.1 hx).1
  cases o with
  | row c wr => obtain ⟨cc, e, fr, h1, _⟩ := h; exact key h1
  | map es ck => obtain ⟨ees, h1, _⟩ := h; exact key h1
  | mapIter m s se l => obtain ⟨_, m', h1, _⟩ := h; exact key h1
  | strIter s pos => exact key h.2
  | dead => cases hl
theorem live_some {h : AH} {i : Nat} (hl : live h[i]? = true) : ∃ o, h[i]? = some o ∧ live (some o) = true := by
  cases e : h[i]? with
  | none => rw [e] at hl; cases hl
  | some o => exact ⟨o, rfl, by rw [← e]; exact hl⟩
theorem Rel.blt {β : Bj} {h : AH} {w : World} (R : Rel β h w) {id : Nat} {p : Pl} (hp : β id = some p) (hl : live h[id]? = true) : p.b < w.heap.size := by
  obtain ⟨o, ho, hlo⟩ := live_some hl
  exact (R.obj hp ho).lt hlo
theorem getElem?_set_same {h : AH} {i : Nat} {o : AObj} (hi : i < h.length) : (h.set i o)[i]? = some o := by
  simp [hi]
theorem getElem?_set_other {h : AH} {i j : Nat} {o : AObj} (hij : i ≠ j) : (h.set i o)[j]? = h[j]? := by
  simp [hij]
theorem Rel.update {β : Bj} {h : AH} {w w' : World} (R : Rel β h w) {id : Nat} {p : Pl} {o' : AObj} (hp : β id = some p) (hl : live h[id]? = true) (hro : isRo h[id]? = false)
    (hw : ∀ b, b ≠ p.b → b < w.heap.size → w'.heap[b]? = w.heap[b]?) (ho : ObjAt β o' p w') : Rel β (h.set id o') w' where
  lt hj := by rw [List.length_set]; exact R.lt hj
  obj {j q o} hj hjo := by
    by_cases e : id = j
    · subst e
      rw [hp] at hj
      obtain rfl := Option.some.inj hj
      rw [getElem?_set_same (R.lt hp)] at hjo
      obtain rfl := Option.some.inj hjo
      exact ho
    · rw [getElem?_set_other e] at hjo
      have h0 := R.obj hj hjo
      cases hd : live (some o) with
      | false => cases o <;> simp [live] at hd; trivial
      | true =>
        have hne : p.b ≠ q.b := R.sep e hp hj hl (by rw [hjo]; exact hd) (by rw [hro]; rfl)
        exact h0.congr (.refl β) (hw _ (fun x => hne x.symm) (h0.lt hd))
  sep {i j q r} hij hi hj li lj hr := by
    by_cases e1 : id = i
    · subst e1
      rw [hp] at hi
      obtain rfl := Option.some.inj hi
      rw [getElem?_set_other hij] at lj hr
      exact R.sep hij hp hj hl lj (by rw [hro]; rfl)
    · rw [getElem?_set_other e1] at li hr
      by_cases e2 : id = j
      · subst e2
        rw [hp] at hj
        obtain rfl := Option.some.inj hj
        exact R.sep hij hi hp li hl (by rw [hro, Bool.and_false])
      · rw [getElem?_set_other e2] at lj hr
        exact R.sep hij hi hj li lj hr
def upd (β : Bj) (id : Nat) (p : Pl) : Bj := fun j => if j = id then some p else β j
theorem upd_same (β : Bj) (id : Nat) (p : Pl) : upd β id p id = some p := by simp [upd]
theorem upd_other {β : Bj} {id j : Nat} {p : Pl} (h : j ≠ id) : upd β id p j = β j := by simp [upd, h]
theorem upd_le {β : Bj} {id : Nat} {p : Pl} (h : β id = none) : BLe β (upd β id p) := by
  intro j q hj
  by_cases e : j = id
  · subst e; rw [h] at hj; cases hj
  · rw [upd_other e, hj]
theorem Rel.add {β : Bj} {h h' : AH} {w w' : World} (R : Rel β h w) {id : Nat} {p : Pl} {o' : AObj} (hn : β id = none) (hid : h'[id]? = some o') (hoth : ∀ j, j ≠ id → j < h.length → h'[j]? = h[j]?) (hlen : h.length ≤ h'.length)
    (hfree : ∀ j q, β j = some q → live h[j]? = true → q.b ≠ p.b) (hw : ∀ b, b ≠ p.b → b < w.heap.size → w'.heap[b]? = w.heap[b]?) (ho : ObjAt (upd β id p) o' p w') : Rel (upd β id p) h' w' where
  lt {j q} hj := by
    by_cases e : j = id
    · subst e; exact (List.getElem?_eq_some_iff.1 hid).1
    · rw [upd_other e] at hj; exact Nat.lt_of_lt_of_le (R.lt hj) hlen
  obj {j q o} hj hjo := by
    by_cases e : j = id
    · subst e
      rw [upd_same] at hj
      obtain rfl := Option.some.inj hj
      rw [hid] at hjo
      obtain rfl := Option.some.inj hjo
      exact ho
    · rw [upd_other e] at hj
      rw [hoth j e (R.lt hj)] at hjo
      have h0 := R.obj hj hjo
      cases hd : live (some o) with
      | false => cases o <;> simp [live] at hd; trivial
      | true => exact h0.congr (upd_le hn) (hw _ (hfree j q hj (by rw [hjo]; exact hd)) (h0.lt hd))
  sep {i j q r} hij hi hj li lj hr := by
    by_cases e1 : i = id
    · subst e1
      have e2 : j ≠ i := fun x => hij x.symm
      rw [upd_same] at hi
      obtain rfl := Option.some.inj hi
      rw [upd_other e2] at hj
      rw [hoth j e2 (R.lt hj)] at lj
      exact fun x => hfree j r hj lj x.symm
    · rw [upd_other e1] at hi
      rw [hoth i e1 (R.lt hi)] at li hr
      by_cases e2 : j = id
      · subst e2
        rw [upd_same] at hj
        obtain rfl := Option.some.inj hj
        exact hfree i q hi li
      · rw [upd_other e2] at hj
        rw [hoth j e2 (R.lt hj)] at lj hr
        exact R.sep hij hi hj li lj hr
theorem Rel.heap {β : Bj} {h : AH} {w w' : World} (R : Rel β h w) (hw : w'.heap = w.heap) : Rel β h w' where
  lt := R.lt
  obj hp ho := (R.obj hp ho).congr (.refl β) (by rw [hw])
  sep := R.sep
end Go.AM
end

section
/- The abstract machine's operations that touch no memory, and that Go's model does the same. Conditions: none. -/
namespace Go.AM
open Go
abbrev Env := Nat → Value
def Env.set (e : Env) (d : Nat) (v : Value) : Env := fun i => cond (Nat.beq i d) v (e i)
def putE (e : Env) : Option Nat → Value → Env
  | some d, v => e.set d v
  | none, _ => e
def ev (e : Env) : Operand → Value
  | .tmp t => e t
  | .const v => v
  | .global g => .pointer (some ⟨g, 0, none⟩)
  | .func f => .func (.func f) #[] #[]
theorem VR.one {β : Bj} {v v' : Value} (h : VR β v v') : v'.oneCell' = v.oneCell' := by cases h <;> rfl
def optW {α : Type} (o : Option α) (K : α → Prop) : Prop :=
  match o with
  | some v => K v
  | none => False
@[simp] theorem optW_some {α : Type} (v : α) (K : α → Prop) : optW (some v) K = K v := rfl
@[simp] theorem optW_none {α : Type} (K : α → Prop) : optW none K = False := rfl
theorem optW_elim {α : Type} {o : Option α} {K : α → Prop} (h : optW o K) : ∃ v, o = some v ∧ K v := by
  cases o with
  | none => exact h.elim
  | some v => exact ⟨v, rfl, h⟩
def pPick (c a b : Value) : Option Value :=
  match c with
  | .bool t => some (cond t a b)
  | _ => none
def pBinI (op : BinOp) (k : IntKind) (a b : Int) : Option Value :=
  match op with
  | .add => some (.int k (k.wrap (a + b)))
  | .sub => some (.int k (k.wrap (a - b)))
  | .mul => some (.int k (k.wrap (a * b)))
  | .quo => if b = 0 then none else some (.int k (k.wrap (a.tdiv b)))
  | .rem => if b = 0 then none else some (.int k (a.tmod b))
  | .and => some (.int k (k.wrap (BitVec.ofInt k.bits a &&& BitVec.ofInt k.bits b).toNat))
  | .eql => some (.bool (a == b))
  | .neq => some (.bool (a != b))
  | .lss => some (.bool (decide (a < b)))
  | .leq => some (.bool (decide (a ≤ b)))
  | .gtr => some (.bool (decide (a > b)))
  | .geq => some (.bool (decide (a ≥ b)))
  | _ => none
def pShift (op : BinOp) (k : IntKind) (a b : Int) : Option Value :=
  if b < 0 then none else
  match op with
  | .shl => some (.int k (k.wrap (a * 2 ^ (min b.toNat k.bits))))
  | .shr => some (.int k (a.fdiv (2 ^ (min b.toNat k.bits))))
  | _ => none
def pBinS (op : BinOp) (x y : ByteArray) : Option Value :=
  match op with
  | .add => if x.size + y.size < 9223372036854775808 then some (.string (x ++ y)) else none
  | .eql => some (.bool (x.toList == y.toList))
  | .neq => some (.bool !(x.toList == y.toList))
  | _ => none
def flatScalar (P : Program) (t : TypeId) : Bool :=
  match P.underlying t with
  | some (.int _) | some .string | some .bool => true
  | _ => false
def isScal (P : Program) (t : TypeId) (v : Value) : Bool :=
  match P.underlying t, v with
  | some (.int _), .int _ _ => true
  | some .string, .string _ => true
  | some .bool, .bool _ => true
  | _, _ => false
def flatFields (P : Program) : Nat → List Field → Bool
  | _, [] => true
  | i, f :: fs => (f.name != "_" && f.offset == i && flatScalar P f.type) && flatFields P (i + 1) fs
def sameScal : Value → Value → Option Bool
  | .int k a, .int k' b => if k = k' then some (a == b) else none
  | .string a, .string b => some (a.toList == b.toList)
  | .bool a, .bool b => some (a == b)
  | _, _ => none
def sameScals : List Value → List Value → Option Bool
  | [], [] => some true
  | x :: xs, y :: ys => match sameScal x y with
    | some true => sameScals xs ys
    | some false => some false
    | none => none
  | _, _ => none
def scalsOf (P : Program) : List Field → List Value → Bool
  | [], [] => true
  | f :: fs, v :: vs => isScal P f.type v && scalsOf P fs vs
  | _, _ => false
def allScal (P : Program) (t : TypeId) : List Value → Bool
  | [] => true
  | v :: vs => isScal P t v && allScal P t vs
def sameAgg (P : Program) (t : TypeId) (x y : List Value) : Option Bool :=
  match P.underlying t with
  | some (.struct fs) => if P.stoodInHeld t = false ∧ flatFields P 0 fs.toList = true ∧ scalsOf P fs.toList x = true ∧ scalsOf P fs.toList y = true then sameScals x y else none
  | some (.array n e) => if flatScalar P e = true ∧ (P.info? e).map (·.size) = some 1 ∧ x.length = n ∧ y.length = n ∧ allScal P e x = true ∧ allScal P e y = true then sameScals x y else none
  | _ => none
def pNil (P : Program) (t : TypeId) (x y : Value) : Option Bool :=
  match P.underlying t, x, y with
  | some .bool, .bool a, .bool b => some (a == b)
  | some (.pointer _), .pointer none, .pointer b => some b.isNone
  | some (.pointer _), .pointer (some _), .pointer none => some false
  | some (.slice _), .slice none _ _, .slice b _ _ => some b.isNone
  | some (.slice _), .slice (some _) _ _, .slice none _ _ => some false
  | some (.map ..), .map none, .map b => some b.isNone
  | some (.map ..), .map (some _), .map none => some false
  | some (.func ..), .nilFunc, .nilFunc => some true
  | some (.func ..), .nilFunc, .func .. => some false
  | some (.func ..), .func .., .nilFunc => some false
  | _, _, _ => none
def pBinE (P : Program) (t : TypeId) (x y : Value) : Option Bool :=
  match x, y with
  | .agg a, .agg b => if P.eqGuardType P.depth t = false then sameAgg P t a.toList b.toList else none
  | x, y => pNil P t x y
def pBin (P : Program) (op : BinOp) (t : TypeId) (x y : Value) : Option Value :=
  match op, x, y with
  | .shl, .int k a, .int _ b => pShift .shl k a b
  | .shr, .int k a, .int _ b => pShift .shr k a b
  | op, .int k a, .int k' b => if k = k' then pBinI op k a b else none
  | op, .string a, .string b => pBinS op a b
  | .eql, x, y => (pBinE P t x y).map .bool
  | .neq, x, y => (pBinE P t x y).map fun b => .bool !b
  | _, _, _ => none
def pUn (op : UnOp) (x : Value) : Option Value :=
  match op, x with
  | .neg, .int k n => some (.int k (k.wrap (0 - n)))
  | .not, .bool b => some (.bool !b)
  | _, _ => none
def pOff (n : Nat) (x : Value) : Option Value :=
  match x with
  | .pointer (some ⟨id, off, none⟩) => some (.pointer (some ⟨id, off + n, none⟩))
  | _ => none
def pFieldAddr (P : Program) (s : TypeId) (f : Nat) (x : Value) : Option Value :=
  match P.underlying s with
  | some (.struct fs) => match fs[f]? with
    | some fd => match P.info? fd.type with
      | some i => if i.size = 0 then none else pOff fd.offset x
      | none => none
    | none => none
  | _ => none
def pIdxS (s : Nat) (x i : Value) : Option Value :=
  match x, i with
  | .slice (some ⟨id, off, none⟩) len _, .int _ n => if 0 ≤ n ∧ n < (len : Int) then some (.pointer (some ⟨id, off + n.toNat * s, none⟩)) else none
  | _, _ => none
def pIdxA (len s : Nat) (x i : Value) : Option Value :=
  match x, i with
  | .pointer (some ⟨id, off, none⟩), .int _ n => if 0 ≤ n ∧ n < (len : Int) then some (.pointer (some ⟨id, off + n.toNat * s, none⟩)) else none
  | _, _ => none
def pIndexAddr (P : Program) (t : TypeId) (x i : Value) : Option Value :=
  match P.underlying t with
  | some (.slice e) => match P.info? e with
    | some inf => pIdxS inf.size x i
    | none => none
  | some (.array len e) => match P.info? e with
    | some inf => pIdxA len inf.size x i
    | none => none
  | _ => none
def pIdxStr (x i : Value) : Option Value :=
  match x, i with
  | .string s, .int _ n => if 0 ≤ n then (s[n.toNat]?).map fun b => .int .u8 b.toNat else none
  | _, _ => none
def partV (agg : Bool) (size : Nat) (cs : List Value) (off : Nat) : Option Value :=
  match agg with
  | true => some (.agg ((cs.drop off).take size).toArray)
  | false => cs[off]?
def isAggT (P : Program) (t : TypeId) : Option Bool :=
  match P.underlying t with
  | some (.struct _) | some (.array _ _) => some true
  | some _ => some false
  | none => none
def pIndex (P : Program) (t : TypeId) (x i : Value) : Option Value :=
  match P.underlying t with
  | some .string => pIdxStr x i
  | some (.array len e) => match P.info? e, isAggT P e, x, i with
    | some inf, some ag, .agg cs, .int _ n => if 0 ≤ n ∧ n < (len : Int) then partV ag inf.size cs.toList (n.toNat * inf.size) else none
    | _, _, _, _ => none
  | _ => none
def pField (P : Program) (t : TypeId) (x : Value) (f : Nat) : Option Value :=
  match P.underlying t with
  | some (.struct fs) => match fs[f]? with
    | some fd => match P.info? fd.type, isAggT P fd.type, x with
      | some inf, some ag, .agg cs => partV ag inf.size cs.toList fd.offset
      | _, _, _ => none
    | none => none
  | _ => none
def pExtract (x : Value) (i : Nat) : Option Value :=
  match x with
  | .tuple vs => vs.toList[i]?
  | _ => none
def pNilCheck (x : Value) : Option Value :=
  match x with
  | .pointer (some a) => some (.pointer (some a))
  | _ => none
def pConv (P : Program) (src dst : TypeId) (x : Value) : Option Value :=
  match P.underlying src, P.underlying dst, x with
  | some _, some (.int k), .int _ n => some (.int k (k.wrap n))
  | some _, some .string, .string s => some (.string s)
  | _, _, _ => none
def cellsL (v : Value) : List Value :=
  match v with
  | .agg cs => cs.toList
  | v => [v]
def fillL (place : Nat → Option (Nat × Nat)) (cells : List Value) : List (Nat × Value) → Option (List Value)
  | [] => some cells
  | (i, v) :: rest =>
    match place i with
    | none => none
    | some (off, size) =>
      if (cellsL v).length = size ∧ off + (cellsL v).length ≤ cells.length ∧ (cellsL v).all (·.oneCell') = true then
        fillL place (cells.take off ++ cellsL v ++ cells.drop (off + (cellsL v).length)) rest
      else none
def zeroL (P : Program) (t : TypeId) : Option (List Value) :=
  match P.info? t with
  | some i => match i.zero with
    | some z => if pureV z = true ∧ (cellsL z).all (·.oneCell') = true then some (cellsL z) else none
    | none => none
  | none => none
def placesOf (P : Program) (fs : List Field) : List (Nat × Nat) := fs.map fun f => (f.offset, P.cellsOf f.type)
def knownTypes (P : Program) (fs : List Field) : Bool := fs.all fun f => (P.info? f.type).isSome
def pBuild (P : Program) (t : TypeId) (parts : List (Nat × Value)) : Option Value :=
  match zeroL P t, P.underlying t with
  | some z, some (.struct fs) => if knownTypes P fs.toList = true then (fillL (fun i => (placesOf P fs.toList)[i]?) z parts).map fun cs => .agg cs.toArray else none
  | some z, some (.array _ e) => match P.info? e with
    | some i => (fillL (fun j => some (j * i.size, i.size)) z parts).map fun cs => .agg cs.toArray
    | none => none
  | _, _ => none
def pSliceB (x : Option Value) (y d : Nat) : Option Nat :=
  match x with
  | none => some d
  | some (.int _ i) => if 0 ≤ i ∧ i ≤ (y : Int) then some i.toNat else none
  | some _ => none
def pSliceStr (x : Value) (lo hi : Option Value) : Option Value :=
  match x with
  | .string s => match pSliceB hi s.size s.size with
    | some h => match pSliceB lo h 0 with
      | some l => some (.string (s.extract l h))
      | none => none
    | none => none
  | _ => none
def pSliceOp (s : Nat) (a : Option Addr) (len : Nat) (lo hi : Option Value) : Option Value :=
  match pSliceB hi len len with
  | some h => match pSliceB lo h 0 with
    | some l => some (.slice (a.map (fun x => ⟨x.block, x.off + l * s, none⟩)) (h - l) (openCap + s))
    | none => none
  | none => none
def pSliceEx (s : Nat) (a : Option Addr) (len m : Nat) (lo hi : Option Value) : Option Value :=
  match pSliceB hi m len with
  | some h => match pSliceB lo h 0 with
    | some l => some (.slice (if m = l then a else a.map (fun x => ⟨x.block, x.off + l * s, none⟩)) (h - l) (m - l))
    | none => none
  | none => none
def pSliceSl (s : Nat) (x : Value) (lo hi mx : Option Value) : Option Value :=
  match x with
  | .slice a len cap =>
    if cap < openCap then
      match pSliceB mx cap cap with
      | some m => pSliceEx s a len m lo hi
      | none => none
    else if cap = openCap + s then
      match mx with
      | none => pSliceOp s a len lo hi
      | some _ => match pSliceB mx len 0 with
        | some m => pSliceEx s a len m lo hi
        | none => none
    else none
  | _ => none
def pSlice (P : Program) (t : TypeId) (x : Value) (lo hi mx : Option Value) : Option Value :=
  match P.underlying t with
  | some .string => if mx.isNone then pSliceStr x lo hi else none
  | some (.slice e) => match P.info? e with
    | some i => if mx.isSome = true ∧ hi.isNone = true then none else pSliceSl i.size x lo hi mx
    | none => none
  | _ => none
def pMax2 (mx : Bool) (x y : Value) : Option Value :=
  match x, y with
  | .int k a, .int k' b => if k = k' then some (.int k (cond mx (if b > a then b else a) (if b < a then b else a))) else none
  | _, _ => none
def pLen (P : Program) (t : TypeId) (x : Value) : Option Value :=
  match P.underlying t, x with
  | some .string, .string s => some (.int .i64 s.size)
  | some (.slice _), .slice _ n _ => some (.int .i64 n)
  | some (.array n _), _ => some (.int .i64 n)
  | _, _ => none
def pCap (P : Program) (t : TypeId) (x : Value) : Option Value :=
  match P.underlying t, x with
  | some (.slice _), .slice _ _ c => if c < openCap then some (.int .i64 c) else none
  | _, _ => none
end Go.AM
end

section
/- Go's model carries out each operation that touches no memory as the abstract machine does. Conditions: none. -/
namespace Go.AM
open Go
set_option linter.unusedSimpArgs false
variable {P : Program} {β : Bj} (w : World)
theorem run_info {t : TypeId} {i : TypeInfo} (h : P.info? t = some i) : (typeInfo t).run P w = .ok i w := by simp [typeInfo, h]
theorem run_size {t : TypeId} {i : TypeInfo} (h : P.info? t = some i) : (sizeOf t).run P w = .ok i.size w := by simp [sizeOf, run_info w h]
theorem run_agg {t : TypeId} {b : Bool} (h : isAggT P t = some b) : (isAgg t).run P w = .ok b w := by
  unfold isAggT at h
  split at h <;> simp_all [isAgg, underlying]
theorem sim_pick {c a b v c' a' b' : Value} (h : pPick c a b = some v) (hc : VR β c c') (ha : VR β a a') (hb : VR β b b') :
    ∃ v', (do pure (.value (if ← asBool c' then a' else b')) : Sem Next).run P w = .ok (.value v') w ∧ VR β v v' := by
  unfold pPick at h
  split at h
  · cases hc
    obtain rfl := Option.some.inj h
    rename_i t
    cases t
    · exact ⟨b', by simp [asBool], hb⟩
    · exact ⟨a', by simp [asBool], ha⟩
  · cases h
theorem sim_binI {op : BinOp} {k : IntKind} {a b : Int} {v : Value} (t : TypeId) (h : pBinI op k a b = some v) : (binOp op t (.int k a) (.int k b)).run P w = .ok v w ∧ VR β v v := by
  unfold pBinI at h
  split at h
  all_goals first
    | (cases h; done)
    | (obtain rfl := Option.some.inj h
       refine ⟨?_, ?_⟩
       · simp [binOp, Op.intArith, Op.intDiv, Op.intBits, Op.intCmp]
       · first | exact .int _ _ | exact .bool _)
    | (split at h
       · cases h
       · rename_i hb
         obtain rfl := Option.some.inj h
         exact ⟨by simp [binOp, Op.intDiv, hb], .int _ _⟩)
theorem sim_shift {op : BinOp} {k k' : IntKind} {a b : Int} {v : Value} (t : TypeId) (hop : op = .shl ∨ op = .shr) (h : pShift op k a b = some v) : (binOp op t (.int k a) (.int k' b)).run P w = .ok v w ∧ VR β v v := by
  unfold pShift at h
  split at h
  · cases h
  · rename_i hb
    rcases hop with rfl | rfl <;> (simp only [] at h; obtain rfl := Option.some.inj h; exact ⟨by simp [binOp, Op.shift, hb], .int _ _⟩)
theorem sim_binS {op : BinOp} {a b : ByteArray} {v : Value} (t : TypeId) (h : pBinS op a b = some v) : (binOp op t (.string a) (.string b)).run P w = .ok v w ∧ VR β v v := by
  unfold pBinS at h
  split at h
  · split at h
    · rename_i hs
      obtain rfl := Option.some.inj h
      refine ⟨?_, .str _⟩
      have hm : IntKind.i64.max = 9223372036854775807 := by decide
      have : ((a.size : Int) + (b.size : Int)) ≤ 9223372036854775807 := by omega
      simp [binOp, Op.stringOp, hm, this]
    · cases h
  · obtain rfl := Option.some.inj h
    exact ⟨by simp [binOp, Op.stringOp], .bool _⟩
  · obtain rfl := Option.some.inj h
    exact ⟨by simp [binOp, Op.stringOp], .bool _⟩
  · cases h
theorem sim_scal {t : TypeId} {x y : Value} {r : Bool} (d : Nat) (h : sameScal x y = some r) (hx : isScal P t x = true) (hy : isScal P t y = true) : (Op.equalIn (d + 1) t x y).run P w = .ok r w := by
  unfold sameScal at h
  split at h
  · split at h
    · rename_i hk
      subst hk
      obtain rfl := Option.some.inj h
      unfold isScal at hx
      split at hx <;> simp_all [Op.equalIn, run_underlying]
    · cases h
  · obtain rfl := Option.some.inj h
    unfold isScal at hx
    split at hx <;> simp_all [Op.equalIn, run_underlying, beq_toListBytes]
  · obtain rfl := Option.some.inj h
    unfold isScal at hx
    split at hx <;> simp_all [Op.equalIn, run_underlying]
  · cases h
theorem flat_notAgg {t : TypeId} (h : flatScalar P t = true) : isAggT P t = some false := by
  unfold flatScalar at h
  unfold isAggT
  split at h <;> simp_all
theorem run_part_flat {t : TypeId} (h : flatScalar P t = true) (cs : Array Value) (i : Nat) (v : Value) (hv : cs[i]? = some v) : (part t cs i).run P w = .ok v w := by
  simp [part, run_agg w (flat_notAgg h), hv]
theorem sim_fields : ∀ (fs : List Field) (i : Nat) (d : Nat) (a b : Array Value) (x y : List Value) (r : Bool), flatFields P i fs = true → scalsOf P fs x = true → scalsOf P fs y = true → sameScals x y = some r →
    (∀ j, a[i + j]? = x[j]?) → (∀ j, b[i + j]? = y[j]?) → (Op.eqFields (d + 1) a b fs).run P w = .ok r w
  | [], i, d, a, b, x, y, r, _, hx, hy, h, _, _ => by
    cases x with
    | nil => cases y with
      | nil => simp [sameScals] at h; subst h; simp [Op.eqFields]
      | cons => simp [scalsOf] at hy
    | cons => simp [scalsOf] at hx
  | f :: fs, i, d, a, b, x, y, r, hf, hx, hy, h, ha, hb => by
    cases x with
    | nil => simp [scalsOf] at hx
    | cons x0 xs =>
      cases y with
      | nil => simp [scalsOf] at hy
      | cons y0 ys =>
        simp only [flatFields, Bool.and_eq_true, bne_iff_ne, ne_eq, beq_iff_eq] at hf
        obtain ⟨⟨⟨hn, ho⟩, hs⟩, hfs⟩ := hf
        simp only [scalsOf, Bool.and_eq_true] at hx hy
        have h0 := run_part_flat w hs a f.offset x0 (by rw [ho]; have := ha 0; simpa using this)
        have h1 := run_part_flat w hs b f.offset y0 (by rw [ho]; have := hb 0; simpa using this)
        simp only [sameScals] at h
        have rec_ := sim_fields fs (i + 1) d a b xs ys
        cases e : sameScal x0 y0 with
        | none => rw [e] at h; cases h
        | some q =>
          rw [e] at h
          have heq := sim_scal w d e hx.1 hy.1
          cases q with
          | true =>
            simp only at h
            have := rec_ r hfs hx.2 hy.2 h (fun j => by rw [show i + 1 + j = i + (j + 1) by omega, ha]; simp) (fun j => by rw [show i + 1 + j = i + (j + 1) by omega, hb]; simp)
            simp [Op.eqFields, hn, h0, h1, heq, this]
          | false =>
            simp only [Option.some.injEq] at h
            subst h
            simp [Op.eqFields, hn, h0, h1, heq]
theorem sim_elems {e : TypeId} {i0 : TypeInfo} (hi : P.info? e = some i0) (h1 : i0.size = 1) (hs : flatScalar P e = true) (d : Nat) (a b : Array Value) : ∀ (n i : Nat) (x y : List Value) (r : Bool), x.length = n → y.length = n →
    allScal P e x = true → allScal P e y = true → sameScals x y = some r → (∀ j, a[i + j]? = x[j]?) → (∀ j, b[i + j]? = y[j]?) →
    (forIn (m := Sem) (List.range' i n) ((none : Option Bool), PUnit.unit) fun i _ => do
        if !(← Op.equalIn (d + 1) e (← part e a (i * 1)) (← part e b (i * 1))) then return ForInStep.done (some false, PUnit.unit)
        pure (ForInStep.yield (none, PUnit.unit))).run P w = .ok ((if r then none else some false), PUnit.unit) w
  | 0, i, x, y, r, hx, hy, _, _, h, _, _ => by
    cases x with
    | nil => cases y with
      | nil => simp [sameScals] at h; subst h; simp
      | cons => simp at hy
    | cons => simp at hx
  | n + 1, i, x, y, r, hx, hy, ax, ay, h, ha, hb => by
    cases x with
    | nil => simp at hx
    | cons x0 xs =>
      cases y with
      | nil => simp at hy
      | cons y0 ys =>
        simp only [allScal, Bool.and_eq_true] at ax ay
        have h0 := run_part_flat w hs a (i * 1) x0 (by have := ha 0; simpa using this)
        have h1' := run_part_flat w hs b (i * 1) y0 (by have := hb 0; simpa using this)
        simp only [Nat.mul_one] at h0 h1'
        simp only [sameScals] at h
        have rec_ := sim_elems hi h1 hs d a b n (i + 1) xs ys
        cases e' : sameScal x0 y0 with
        | none => rw [e'] at h; cases h
        | some q =>
          rw [e'] at h
          have heq := sim_scal w d e' ax.1 ay.1
          cases q with
          | true =>
            simp only at h
            have := rec_ r (by simpa using hx) (by simpa using hy) ax.2 ay.2 h (fun j => by rw [show i + 1 + j = i + (j + 1) by omega, ha]; simp) (fun j => by rw [show i + 1 + j = i + (j + 1) by omega, hb]; simp)
            simp only [Nat.mul_one] at this
            simp [List.range'_succ, h0, h1', heq]
            simpa using this
          | false =>
            simp only [Option.some.injEq] at h
            subst h
            simp [List.range'_succ, h0, h1', heq]
theorem sim_sameAgg {t : TypeId} {a b : Array Value} {r : Bool} (h : sameAgg P t a.toList b.toList = some r) (d : Nat) : (Op.equalIn (d + 2) t (.agg a) (.agg b)).run P w = .ok r w := by
  unfold sameAgg at h
  split at h
  · rename_i fs ht
    split at h
    · rename_i hc
      obtain ⟨c1, c2, c3, c4⟩ := hc
      have hfo : P.fieldsOf t = fs := by simp [Program.fieldsOf, ht]
      rw [run_equalIn_struct w (d + 1) t a b (by rw [hfo]; exact ht) c1, hfo]
      exact sim_fields w fs.toList 0 d a b _ _ r c2 c3 c4 h (fun j => by simp) (fun j => by simp)
    · cases h
  · rename_i n e ht
    split at h
    · rename_i hc
      obtain ⟨c1, c2, c3, c4, c5, c6⟩ := hc
      cases hi : P.info? e with
      | none => rw [hi] at c2; cases c2
      | some i0 =>
        rw [hi] at c2
        have h1 : i0.size = 1 := by simpa using c2
        have := sim_elems w hi h1 c1 d a b n 0 a.toList b.toList r c3 c4 c5 c6 h (fun j => by simp) (fun j => by simp)
        have hsz := run_size w hi
        rw [h1] at hsz
        obtain ⟨D, hD⟩ : ∃ D, D = d + 1 := ⟨_, rfl⟩
        rw [← hD] at this
        rw [show d + 2 = D + 1 by omega]
        simp only [Op.equalIn, Sem.run_bind, run_underlying ht, Result.andThen_ok, hsz, Std.Legacy.Range.forIn_eq_forIn_range', Std.Legacy.Range.size]
        simp only [Nat.sub_zero, Nat.add_sub_cancel, Nat.div_one, this]
        cases r <;> simp
    · cases h
  · cases h
theorem sim_nil {t : TypeId} {x y x' y' : Value} {r : Bool} (h : pNil P t x y = some r) (hx : VR β x x') (hy : VR β y y') (d : Nat) : (Op.equalIn (d + 1) t x' y').run P w = .ok r w := by
  unfold pNil at h
  split at h
  all_goals first
    | (cases h; done)
    | (rename_i ht
       obtain rfl := Option.some.inj h
       cases hx <;> cases hy <;> simp [Op.equalIn, run_underlying ht])
    | (rename_i ht _
       obtain rfl := Option.some.inj h
       cases hx <;> cases hy <;> simp [Op.equalIn, run_underlying ht])
theorem VR.agg_inv {a : Array Value} {v' : Value} (h : VR β (.agg a) v') : ∃ a', v' = .agg a' := by
  cases h
  exact ⟨_, rfl⟩
theorem isScal_pure {t : TypeId} {v : Value} (h : isScal P t v = true) : pureS v = true := by
  unfold isScal at h
  split at h <;> first | rfl | cases h
theorem scalsOf_pure : ∀ {fs : List Field} {x : List Value}, scalsOf P fs x = true → ∀ v ∈ x, pureS v = true
  | [], [], _, v, hv => by cases hv
  | f :: fs, y :: ys, h, v, hv => by
    simp only [scalsOf, Bool.and_eq_true] at h
    rcases List.mem_cons.1 hv with rfl | hv
    · exact isScal_pure h.1
    · exact scalsOf_pure h.2 v hv
theorem allScal_pure {t : TypeId} : ∀ {x : List Value}, allScal P t x = true → ∀ v ∈ x, pureS v = true
  | [], _, v, hv => by cases hv
  | y :: ys, h, v, hv => by
    simp only [allScal, Bool.and_eq_true] at h
    rcases List.mem_cons.1 hv with rfl | hv
    · exact isScal_pure h.1
    · exact allScal_pure h.2 v hv
theorem sameAgg_pure {t : TypeId} {x y : List Value} {r : Bool} (h : sameAgg P t x y = some r) : (∀ v ∈ x, pureS v = true) ∧ (∀ v ∈ y, pureS v = true) := by
  unfold sameAgg at h
  split at h
  · split at h
    · rename_i hc
      exact ⟨scalsOf_pure hc.2.2.1, scalsOf_pure hc.2.2.2⟩
    · cases h
  · split at h
    · rename_i hc
      exact ⟨allScal_pure hc.2.2.2.2.1, allScal_pure hc.2.2.2.2.2⟩
    · cases h
  · cases h
theorem pureAgg {a : Array Value} (h : ∀ v ∈ a.toList, pureS v = true) : pureV (.agg a) = true := by
  unfold pureV
  exact Array.all_eq_true'.2 fun x hx => h x (by simpa using hx)
theorem run_eqGuard_none {op : BinOp} {t : TypeId} {xo yo : Operand} {x y : Value} (h1 : ∀ a, x ≠ .agg a) (h2 : x ≠ .nilIface) : (eqGuard op t xo yo x y).run P w = .ok () w := by
  cases x <;> first | exact absurd rfl (h1 _) | exact absurd rfl h2 | (cases op <;> simp [eqGuard])
theorem sim_bin {op : BinOp} {t : TypeId} {x y x' y' v : Value} (xo yo : Operand) (h : pBin P op t x y = some v) (hx : VR β x x') (hy : VR β y y') :
    ∃ v', (do eqGuard op t xo yo x' y'; binOp op t x' y' : Sem Value).run P w = .ok v' w ∧ VR β v v' := by
  have key : ∀ {r : Bool}, pBinE P t x y = some r → (Op.equal t x' y').run P w = .ok r w ∧ ∀ op, (eqGuard op t xo yo x' y').run P w = .ok () w := by
    intro r hr
    unfold pBinE at hr
    split at hr
    · rename_i a b
      split at hr
      · rename_i hg
        have hp := sameAgg_pure hr
        rw [hx.pure_eq (pureAgg hp.1), hy.pure_eq (pureAgg hp.2)]
        exact ⟨sim_sameAgg w hr 9998, fun op => run_eqGuard_agg w op t xo yo a b hg⟩
      · cases hr
    · rename_i hne
      refine ⟨sim_nil w hr hx hy 9999, fun op => run_eqGuard_none w ?_ ?_⟩
      · rintro a rfl
        cases hx
        unfold pNil at hr
        split at hr <;> simp_all
      · rintro rfl
        cases hx
        unfold pNil at hr
        split at hr <;> simp_all
  unfold pBin at h
  split at h
  · cases hx; cases hy
    rename_i k a k' b
    have := sim_shift (P := P) (β := β) (k' := k') w t (.inl rfl) h
    exact ⟨v, by simp [eqGuard, this.1], this.2⟩
  · cases hx; cases hy
    rename_i k a k' b
    have := sim_shift (P := P) (β := β) (k' := k') w t (.inr rfl) h
    exact ⟨v, by simp [eqGuard, this.1], this.2⟩
  · split at h
    · rename_i hk
      subst hk
      cases hx; cases hy
      have := sim_binI (P := P) (β := β) w t h
      refine ⟨v, ?_, this.2⟩
      rw [Sem.run_bind, run_eqGuard_none w (by simp) (by simp)]
      exact this.1
    · cases h
  · cases hx; cases hy
    have := sim_binS (P := P) (β := β) w t h
    refine ⟨v, ?_, this.2⟩
    rw [Sem.run_bind, run_eqGuard_none w (by simp) (by simp)]
    exact this.1
  · rename_i n1 n2
    cases hr : pBinE P t x y with
    | none => rw [hr] at h; cases h
    | some r =>
      rw [hr] at h
      obtain rfl := Option.some.inj h
      obtain ⟨k1, k2⟩ := key hr
      refine ⟨.bool r, ?_, .bool r⟩
      rw [Sem.run_bind, k2]
      have : binOp .eql t x' y' = (do pure (.bool (← Op.equal t x' y'))) := by
        cases hx <;> cases hy <;> first | rfl | (exfalso; first | exact n1 _ _ _ _ rfl rfl | exact n2 _ _ rfl rfl) | (unfold pBinE pNil at hr; split at hr <;> simp_all)
      simp [this, k1]
  · rename_i n1 n2
    cases hr : pBinE P t x y with
    | none => rw [hr] at h; cases h
    | some r =>
      rw [hr] at h
      obtain rfl := Option.some.inj h
      obtain ⟨k1, k2⟩ := key hr
      refine ⟨.bool (!r), ?_, .bool (!r)⟩
      rw [Sem.run_bind, k2]
      have : binOp .neq t x' y' = (do pure (.bool (!(← Op.equal t x' y')))) := by
        cases hx <;> cases hy <;> first | rfl | (exfalso; first | exact n1 _ _ _ _ rfl rfl | exact n2 _ _ rfl rfl) | (unfold pBinE pNil at hr; split at hr <;> simp_all)
      simp [this, k1]
  · cases h
end Go.AM
end

section
/- Go's model carries out each further operation that touches no memory as the abstract machine does. Conditions: none. -/
namespace Go.AM
open Go
set_option linter.unusedSimpArgs false
variable {P : Program} {β : Bj} (w : World)
theorem sim_un {op : UnOp} {x x' v : Value} (h : pUn op x = some v) (hx : VR β x x') : ∃ v', (Op.unary op x').run P w = .ok v' w ∧ VR β v v' := by
  unfold pUn at h
  split at h
  · cases hx
    obtain rfl := Option.some.inj h
    exact ⟨_, by simp [Op.unary, Op.intArith], .int _ _⟩
  · cases hx
    obtain rfl := Option.some.inj h
    exact ⟨_, by simp [Op.unary], .bool _⟩
  · cases h
theorem add_none (b off n : Nat) : (⟨b, off, none⟩ : Addr).add n = ⟨b, off + n, none⟩ := by
  unfold Addr.add
  split
  · rename_i h; subst h; rfl
  · rfl
theorem pOff_inv {n : Nat} {x v : Value} (h : pOff n x = some v) : ∃ id off, x = .pointer (some ⟨id, off, none⟩) ∧ v = .pointer (some ⟨id, off + n, none⟩) := by
  unfold pOff at h
  split at h
  · exact ⟨_, _, rfl, (Option.some.inj h).symm⟩
  · cases h
theorem VR.ptr_inv {id off : Nat} {v' : Value} (h : VR β (.pointer (some ⟨id, off, none⟩)) v') : ∃ p, β id = some p ∧ v' = .pointer (some ⟨p.b, p.sh + off, none⟩) := by
  cases h
  exact ⟨_, ‹_›, rfl⟩
theorem sim_fieldAddr {s : TypeId} {f : Nat} {x x' v : Value} (h : pFieldAddr P s f x = some v) (hx : VR β x x') : ∃ v', (Instr.fieldAt s x' f).run P w = .ok v' w ∧ VR β v v' := by
  unfold pFieldAddr at h
  split at h
  · rename_i fs hs
    split at h
    · rename_i fd hf
      split at h
      · rename_i i hi
        split at h
        · cases h
        · rename_i hz
          obtain ⟨id, off, rfl, rfl⟩ := pOff_inv h
          obtain ⟨p, hp, rfl⟩ := hx.ptr_inv
          refine ⟨.pointer (some ⟨p.b, p.sh + (off + fd.offset), none⟩), ?_, .ptr hp⟩
          simp [Instr.fieldAt, run_underlying hs, hf, Instr.sureAddr, fieldPlace, run_size w hi, hz, add_none, Nat.add_assoc]
      · cases h
    · cases h
  · cases h
theorem VR.slice_inv {id off len cap : Nat} {v' : Value} (h : VR β (.slice (some ⟨id, off, none⟩) len cap) v') :
    ∃ p a' cap', β id = some p ∧ v' = .slice (some a') len cap' ∧ (cap' = 0 ∨ a' = ⟨p.b, p.sh + off, none⟩) ∧ len ≤ cap' ∧ cap' < openCap ∧ (openCap ≤ cap → cap = openCap + p.es ∧ p.sh + off + cap' * p.es = p.room) ∧ (cap < openCap → cap' = cap) := by
  cases h with
  | slx hp hl hc ha => exact ⟨_, _, _, hp, rfl, ha, hl, hc, fun e => by omega, fun _ => rfl⟩
  | slo hp hl hc hr ha => exact ⟨_, _, _, hp, rfl, ha, hl, hc, fun _ => ⟨rfl, hr⟩, fun h => by omega⟩
theorem VR.int_inv {k : IntKind} {n : Int} {v' : Value} (h : VR β (.int k n) v') : v' = .int k n := by cases h; rfl
theorem sim_indexAddr {t : TypeId} {x i x' i' v : Value} (h : pIndexAddr P t x i = some v) (hx : VR β x x') (hi : VR β i i') : ∃ v', (Instr.indexAt t x' i').run P w = .ok v' w ∧ VR β v v' := by
  unfold pIndexAddr at h
  split at h
  · rename_i e ht
    split at h
    · rename_i inf hinf
      unfold pIdxS at h
      split at h
      · rename_i id off len cap k n
        split at h
        · rename_i hn
          obtain rfl := Option.some.inj h
          obtain rfl := hi.int_inv
          obtain ⟨p, a', cap', hp, rfl, ha, hlc, _⟩ := hx.slice_inv
          have ha' : a' = ⟨p.b, p.sh + off, none⟩ := by
            rcases ha with h0 | h
            · omega
            · exact h
          subst ha'
          refine ⟨.pointer (some ⟨p.b, p.sh + (off + n.toNat * inf.size), none⟩), ?_, .ptr hp⟩
          simp [Instr.indexAt, asIntOf, run_underlying ht, hn, run_size w hinf, add_none, Nat.add_assoc]
        · cases h
      · cases h
    · cases h
  · rename_i len e ht
    split at h
    · rename_i inf hinf
      unfold pIdxA at h
      split at h
      · rename_i id off k n
        split at h
        · rename_i hn
          obtain rfl := Option.some.inj h
          obtain rfl := hi.int_inv
          obtain ⟨p, hp, rfl⟩ := hx.ptr_inv
          refine ⟨.pointer (some ⟨p.b, p.sh + (off + n.toNat * inf.size), none⟩), ?_, .ptr hp⟩
          simp [Instr.indexAt, asIntOf, run_underlying ht, hn, Instr.sureAddr, run_size w hinf, add_none, Nat.add_assoc]
        · cases h
      · cases h
    · cases h
  · cases h
theorem partV_sim {t : TypeId} {ag : Bool} {inf : TypeInfo} {cs cs' : Array Value} {off : Nat} {v : Value} (hi : P.info? t = some inf) (hg : isAggT P t = some ag) (h : partV ag inf.size cs.toList off = some v) (hx : VR β (.agg cs) (.agg cs')) :
    ∃ v', (part t cs' off).run P w = .ok v' w ∧ VR β v v' := by
  cases hx with
  | agg hs h1 hh =>
    cases ag with
    | false =>
      simp only [partV, Array.getElem?_toList] at h
      have hlt := (Array.getElem?_eq_some_iff.1 h).1
      have hlt' : off < cs'.size := by omega
      have he := hh off hlt
      have e1 : cs.getD off undef = v := by
        obtain ⟨_, e⟩ := Array.getElem?_eq_some_iff.1 h
        simp [Array.getD, hlt, e]
      have e2 : cs'.getD off undef = cs'[off] := by simp [Array.getD, hlt']
      rw [e1, e2] at he
      exact ⟨_, by simp [part, run_agg w hg, hlt'], he⟩
    | true =>
      simp only [partV, Option.some.injEq] at h
      subst h
      refine ⟨.agg (cs'.extract off (off + inf.size)), by simp [part, run_agg w hg, run_size w hi], ?_⟩
      have e0 : ((cs.toList.drop off).take inf.size).toArray = cs.extract off (off + inf.size) := by
        apply Array.ext'
        simp [List.extract_eq_take_drop]
      rw [e0]
      refine .agg (by simp [hs]) (fun v hv => h1 v ?_) ?_
      · obtain ⟨i, hi, rfl⟩ := Array.mem_iff_getElem.1 hv
        simp
      · intro i hi
        simp at hi
        have := hh (off + i) (by omega)
        have a1 : (cs.extract off (off + inf.size)).getD i undef = cs.getD (off + i) undef := by
          simp [Array.getD, hi, show off + i < cs.size by omega]
        have a2 : (cs'.extract off (off + inf.size)).getD i undef = cs'.getD (off + i) undef := by
          have : i < min (off + inf.size) cs'.size - off := by omega
          simp [Array.getD, this, show off + i < cs'.size by omega]
        rw [a1, a2]
        exact this
theorem sim_index {t : TypeId} {x i x' i' v : Value} (h : pIndex P t x i = some v) (hx : VR β x x') (hi : VR β i i') : ∃ v', (Instr.index t x' i').run P w = .ok v' w ∧ VR β v v' := by
  unfold pIndex at h
  split at h
  · rename_i ht
    unfold pIdxStr at h
    split at h
    · rename_i s k n
      obtain rfl := hi.int_inv
      cases hx
      split at h
      · rename_i hn
        cases e : s[n.toNat]? with
        | none => rw [e] at h; cases h
        | some b =>
          rw [e] at h
          obtain rfl := Option.some.inj h
          exact ⟨.int .u8 b.toNat, by simp [Instr.index, asIntOf, run_underlying ht, hn, e], .int _ _⟩
      · cases h
    · cases h
  · rename_i len e ht
    split at h
    · rename_i inf ag cs k n hinf hag
      obtain rfl := hi.int_inv
      obtain ⟨cs', rfl⟩ := hx.agg_inv
      split at h
      · rename_i hn
        obtain ⟨v', hr, hv⟩ := partV_sim w hinf hag h hx
        exact ⟨v', by simp [Instr.index, asIntOf, run_underlying ht, hn, run_size w hinf, hr], hv⟩
      · cases h
    · cases h
  · cases h
theorem sim_field {t : TypeId} {x x' v : Value} {f : Nat} (h : pField P t x f = some v) (hx : VR β x x') : ∃ v', (Instr.field t x' f).run P w = .ok v' w ∧ VR β v v' := by
  unfold pField at h
  split at h
  · rename_i fs ht
    split at h
    · rename_i fd hf
      split at h
      · rename_i inf ag cs hinf hag
        obtain ⟨cs', rfl⟩ := hx.agg_inv
        obtain ⟨v', hr, hv⟩ := partV_sim w hinf hag h hx
        exact ⟨v', by simp [Instr.field, run_underlying ht, hf, asAgg, hr], hv⟩
      · cases h
    · cases h
  · cases h
theorem sim_extract {x x' v : Value} {i : Nat} (h : pExtract x i = some v) (hx : VR β x x') : ∃ v', (Instr.extract x' i).run P w = .ok v' w ∧ VR β v v' := by
  unfold pExtract at h
  split at h
  · cases hx with
    | tuple hs hh =>
      rename_i vs vs'
      simp only [Array.getElem?_toList] at h
      have hlt := (Array.getElem?_eq_some_iff.1 h).1
      have hlt' : i < vs'.size := by omega
      have he := hh i hlt
      have e1 : vs.getD i undef = v := by
        obtain ⟨_, e⟩ := Array.getElem?_eq_some_iff.1 h
        simp [Array.getD, hlt, e]
      have e2 : vs'.getD i undef = vs'[i] := by simp [Array.getD, hlt']
      rw [e1, e2] at he
      exact ⟨_, by simp [Instr.extract, hlt'], he⟩
  · cases h
theorem sim_conv {s d : TypeId} {x x' v : Value} (h : pConv P s d x = some v) (hx : VR β x x') : ∃ v', (convert s d x').run P w = .ok v' w ∧ VR β v v' := by
  unfold pConv at h
  split at h
  · rename_i h1 h2
    cases hx
    obtain rfl := Option.some.inj h
    exact ⟨_, by simp [convert, run_underlying h1, run_underlying h2, Conv.intToInt], .int _ _⟩
  · rename_i h1 h2
    cases hx
    obtain rfl := Option.some.inj h
    exact ⟨_, by simp [convert, run_underlying h1, run_underlying h2], .str _⟩
  · cases h
theorem sim_max2 {mx : Bool} {x y x' y' v : Value} (h : pMax2 mx x y = some v) (hx : VR β x x') (hy : VR β y y') : ∃ v', (if mx then Builtin.max2 x' y' else Builtin.min2 x' y').run P w = .ok v' w ∧ VR β v v' := by
  unfold pMax2 at h
  split at h
  · split at h
    · rename_i hk
      subst hk
      cases hx; cases hy
      obtain rfl := Option.some.inj h
      cases mx
      · exact ⟨_, by simp [Builtin.min2], .int _ _⟩
      · exact ⟨_, by simp [Builtin.max2], .int _ _⟩
    · cases h
  · cases h
theorem sim_cap {t : TypeId} {ts : Array TypeId} {ty : TypeId} {x x' v : Value} (ht0 : ts[0]? = some t) (h : pCap P t x = some v) (hx : VR β x x') : ∃ v', (Builtin.cap_ ts ty #[x']).run P w = .ok v' w ∧ VR β v v' := by
  unfold pCap at h
  split at h
  · rename_i ht
    split at h
    · rename_i hc
      obtain rfl := Option.some.inj h
      cases hx with
      | nils => exact ⟨_, by simp [Builtin.cap_, ht0, run_underlying ht, goInt], .int _ _⟩
      | slx => exact ⟨_, by simp [Builtin.cap_, ht0, run_underlying ht, goInt], .int _ _⟩
      | slo => exact absurd hc (by omega)
    · cases h
  · cases h
theorem sim_len {t : TypeId} {ts : Array TypeId} {ty : TypeId} {x x' v : Value} (ht0 : ts[0]? = some t) (h : pLen P t x = some v) (hx : VR β x x') : ∃ v', (Builtin.len_ ts ty #[x']).run P w = .ok v' w ∧ VR β v v' := by
  unfold pLen at h
  split at h
  · rename_i ht
    cases hx
    obtain rfl := Option.some.inj h
    exact ⟨_, by simp [Builtin.len_, ht0, run_underlying ht, goInt], .int _ _⟩
  · rename_i ht
    obtain rfl := Option.some.inj h
    cases hx <;> exact ⟨_, by simp [Builtin.len_, ht0, run_underlying ht, goInt], .int _ _⟩
  · rename_i ht
    obtain rfl := Option.some.inj h
    exact ⟨_, by simp [Builtin.len_, ht0, run_underlying ht, goInt], .int _ _⟩
  · cases h
end Go.AM
end

section
/- Go's model builds structs and cuts slices as the abstract machine does. Conditions: none. -/
namespace Go.AM
open Go
set_option linter.unusedSimpArgs false
variable {P : Program} {β : Bj} (w : World)
theorem agetD (a : Array Value) (i : Nat) : a.getD i undef = (a[i]?).getD undef := by
  rw [Array.getD_eq_getD_getElem?]
theorem lgetD (a : List Value) (i : Nat) : a.getD i undef = (a[i]?).getD undef := List.getD_eq_getElem?_getD
theorem toList_getD (a : Array Value) (i : Nat) : a.toList.getD i undef = a.getD i undef := by rw [agetD, lgetD, Array.getElem?_toList]
def CellsR (β : Bj) (l : List Value) (a : Array Value) : Prop := a.size = l.length ∧ ∀ i, i < l.length → VR β (l.getD i undef) (a.getD i undef)
theorem VR.cells {v v' : Value} (h : VR β v v') : CellsR β (cellsL v) v'.cells := by
  cases h with
  | agg hs _ hh =>
    rename_i a a' _
    refine ⟨by simp [cellsL, Value.cells, hs], fun i hi => ?_⟩
    simp only [cellsL] at hi ⊢
    have := hh i (by simpa using hi)
    rw [toList_getD]
    exact this
  | _ =>
    refine ⟨rfl, fun i hi => ?_⟩
    have : i = 0 := by simp [cellsL] at hi; exact hi
    subst this
    simp only [cellsL, Value.cells, List.getD, Array.getD]
    simp
    first | exact VR.bool _ | exact VR.int _ _ | exact VR.float _ _ | exact VR.complex _ _ _ | exact VR.str _ | exact VR.nilp | (exact VR.ptr ‹_›) | exact VR.nils | (exact VR.slx ‹_› ‹_› ‹_› ‹_›) | (exact VR.slo ‹_› ‹_› ‹_› ‹_› ‹_›) | exact VR.nilm | (exact VR.map ‹_›) | (exact VR.func _ ‹_› ‹_› ‹_› ‹_›) | exact VR.nilFunc | (exact VR.iface _ ‹_›) | exact VR.nilIface | (exact VR.tuple ‹_› ‹_›)
theorem foldSet (off : Nat) : ∀ (l : List Value) (k : Nat) (cs : Array Value), ((l.zipIdx k).foldl (fun (cs : Array Value) (x : Value × Nat) => cs.setIfInBounds (off + x.2) x.1) cs).size = cs.size ∧
    ∀ i, off + k + l.length ≤ cs.size → ((l.zipIdx k).foldl (fun (cs : Array Value) (x : Value × Nat) => cs.setIfInBounds (off + x.2) x.1) cs).getD i undef = if off + k ≤ i ∧ i < off + k + l.length then l.getD (i - (off + k)) undef else cs.getD i undef
  | [], k, cs => by
    refine ⟨rfl, fun i _ => ?_⟩
    simp only [List.zipIdx_nil, List.foldl_nil, List.length_nil, Nat.add_zero]
    rw [if_neg (by omega)]
  | v :: r, k, cs => by
    have ih := foldSet off r (k + 1) (cs.setIfInBounds (off + k) v)
    simp only [List.zipIdx_cons, List.foldl_cons]
    refine ⟨by rw [ih.1]; simp, fun i hi => ?_⟩
    simp only [List.length_cons] at hi
    rw [ih.2 i (by simp; omega)]
    by_cases h1 : i = off + k
    · subst h1
      rw [if_neg (by omega), if_pos (by simp)]
      have : off + k < cs.size := by omega
      simp [agetD, this]
    · by_cases h2 : off + (k + 1) ≤ i ∧ i < off + (k + 1) + r.length
      · rw [if_pos h2, if_pos (by simp; omega)]
        rw [show i - (off + k) = (i - (off + (k + 1))) + 1 by omega]
        simp
      · rw [if_neg h2, if_neg (by simp; omega)]
        rw [agetD, agetD, Array.getElem?_setIfInBounds_ne (by omega)]
theorem splice_getD (cl vs : List Value) (off i : Nat) (h : off + vs.length ≤ cl.length) :
    (cl.take off ++ vs ++ cl.drop (off + vs.length)).getD i undef = if off ≤ i ∧ i < off + vs.length then vs.getD (i - off) undef else cl.getD i undef := by
  simp only [List.getD_eq_getElem?_getD]
  congr 1
  by_cases h1 : i < off
  · rw [if_neg (by omega), List.append_assoc, List.getElem?_append_left (by simp; omega)]
    simp [h1]
  · by_cases h2 : i < off + vs.length
    · rw [if_pos ⟨by omega, h2⟩, List.append_assoc, List.getElem?_append_right (by simp; omega), List.getElem?_append_left (by simp; omega)]
      rw [List.length_take, Nat.min_eq_left (by omega)]
    · rw [if_neg (by omega), List.getElem?_append_right (by simp; omega), List.getElem?_drop]
      have e : off + vs.length + (i - (cl.take off ++ vs).length) = i := by
        rw [List.length_append, List.length_take]
        omega
      rw [e]
def PartsR (β : Bj) : List (Nat × Value) → List (Nat × Value) → Prop
  | [], [] => True
  | (i, v) :: r, (j, u) :: s => i = j ∧ VR β v u ∧ PartsR β r s
  | _, _ => False
theorem sim_fill (place : Nat → Option (Nat × Nat)) : ∀ (ps qs : List (Nat × Value)) (cl cl' : List Value) (ca : Array Value), PartsR β ps qs → fillL place cl ps = some cl' → CellsR β cl ca → (∀ v ∈ cl, v.oneCell' = true) →
    ∃ ca', Instr.fill place ca qs = some ca' ∧ CellsR β cl' ca' ∧ ∀ v ∈ cl', v.oneCell' = true
  | [], [], cl, cl', ca, _, h, hc, h1 => by
    simp only [fillL, Option.some.injEq] at h
    subst h
    exact ⟨ca, rfl, hc, h1⟩
  | (i, v) :: r, (j, u) :: s, cl, cl', ca, hp, h, hc, h1 => by
    obtain ⟨rfl, hv, hr⟩ := hp
    simp only [fillL] at h
    cases e : place i with
    | none => rw [e] at h; cases h
    | some q =>
      obtain ⟨off, size⟩ := q
      rw [e] at h
      simp only at h
      split at h
      · rename_i hh
        obtain ⟨hsz, hle, hone⟩ := hh
        have hvc := hv.cells
        have hus : u.cells.size = size := by rw [hvc.1, hsz]
        have f := foldSet off u.cells.toList 0 ca
        have e0 : u.cells.zipIdx.foldl (fun (cs : Array Value) (x : Value × Nat) => cs.setIfInBounds (off + x.2) x.1) ca = (u.cells.toList.zipIdx 0).foldl (fun (cs : Array Value) (x : Value × Nat) => cs.setIfInBounds (off + x.2) x.1) ca := by
          rw [← Array.foldl_toList, Array.toList_zipIdx]
        have hlen : u.cells.toList.length = (cellsL v).length := by simp [hvc.1]
        obtain ⟨ca', h2, h3, h4⟩ := sim_fill place r s (cl.take off ++ cellsL v ++ cl.drop (off + (cellsL v).length)) cl' (u.cells.zipIdx.foldl (fun (cs : Array Value) (x : Value × Nat) => cs.setIfInBounds (off + x.2) x.1) ca) hr h
          (by
            rw [e0]
            refine ⟨by rw [f.1, hc.1]; simp; omega, fun k hk => ?_⟩
            rw [f.2 k (by rw [hlen, hc.1]; omega), splice_getD _ _ _ _ hle, hlen]
            simp only [Nat.add_zero]
            split
            · rename_i hk2
              have := hvc.2 (k - off) (by omega)
              rw [toList_getD (u.cells)]
              exact this
            · exact hc.2 k (by simp at hk; omega))
          (by
            intro x hx
            rcases List.mem_append.1 hx with hx | hx
            · rcases List.mem_append.1 hx with hx | hx
              · exact h1 x (List.mem_of_mem_take hx)
              · exact List.all_eq_true.1 hone x hx
            · exact h1 x (List.mem_of_mem_drop hx))
        refine ⟨ca', ?_, h3, h4⟩
        simp only [Instr.fill, e]
        rw [if_neg (by rw [hus, hc.1]; simp; omega)]
        exact h2
      · cases h
  | [], _ :: _, _, _, _, h, _, _, _ => by cases h
  | _ :: _, [], _, _, _, h, _, _, _ => by cases h
theorem zeroL_spec {t : TypeId} {l : List Value} (h : zeroL P t = some l) : ∃ z, (zeroValue t).run P w = .ok z w ∧ cellsL z = l ∧ z.cells = l.toArray ∧ CellsR β l z.cells ∧ (∀ v ∈ l, v.oneCell' = true) ∧ VR β z z := by
  unfold zeroL at h
  split at h
  · rename_i i hi
    split at h
    · rename_i z hz
      split at h
      · rename_i hc
        obtain rfl := Option.some.inj h
        refine ⟨z, by simp [zeroValue, run_info w hi, hz], rfl, ?_, (VR.ofPure hc.1).cells, fun v hv => List.all_eq_true.1 hc.2 v hv, VR.ofPure hc.1⟩
        cases z <;> simp [Value.cells, cellsL]
      · cases h
    · cases h
  · cases h
theorem run_places : ∀ (fs : List Field), knownTypes P fs = true → (fs.mapM (m := Sem) fun f => do pure (f.offset, ← sizeOf f.type)).run P w = .ok (placesOf P fs) w
  | [], _ => by simp [placesOf]
  | f :: fs, h => by
    simp only [knownTypes, List.all_cons, Bool.and_eq_true] at h
    obtain ⟨i, hi⟩ := Option.isSome_iff_exists.1 h.1
    have := run_places fs h.2
    simp [placesOf, Program.cellsOf, hi, run_size w hi] at this ⊢
    simp [this]
theorem agg_of_cells {l : List Value} {a : Array Value} (h : CellsR β l a) (h1 : ∀ v ∈ l, v.oneCell' = true) : VR β (.agg l.toArray) (.agg a) := by
  refine .agg (by simp [h.1]) (fun v hv => h1 v (by simpa using hv)) fun i hi => ?_
  have := h.2 i (by simpa using hi)
  rw [← toList_getD]
  exact this
theorem sim_build {t : TypeId} {ps : List (Nat × Value)} {qs : Array (Nat × Value)} {v : Value} (h : pBuild P t ps = some v) (hp : PartsR β ps qs.toList) : ∃ v', (Instr.build t qs).run P w = .ok v' w ∧ VR β v v' := by
  unfold pBuild at h
  split at h
  · rename_i z fs hz ht
    split at h
    · rename_i hk
      cases e : fillL (fun i => (placesOf P fs.toList)[i]?) z ps with
      | none => rw [e] at h; cases h
      | some cs =>
        rw [e] at h
        obtain rfl := Option.some.inj h
        obtain ⟨zv, hrun, _, _, hzc, hz1, _⟩ := zeroL_spec (β := β) w hz
        obtain ⟨ca', h2, h3, h4⟩ := sim_fill _ _ _ _ _ _ hp e hzc hz1
        refine ⟨.agg ca', ?_, agg_of_cells h3 h4⟩
        have hm : (fs.mapM (m := Sem) fun f => do pure (f.offset, ← sizeOf f.type)).run P w = .ok (placesOf P fs.toList).toArray w := by
          rw [Array.mapM_eq_mapM_toList, Sem.run_map, run_places w _ hk]
          rfl
        simp only [Instr.build, Sem.run_bind, hrun, Result.andThen_ok, run_underlying ht, hm]
        have e3 : (fun (x : Nat) => (placesOf P fs.toList).toArray[x]?) = (fun (i : Nat) => (placesOf P fs.toList)[i]?) := by funext i; simp
        simp only [e3, h2]
        rfl
    · cases h
  · rename_i z n e hz ht
    split at h
    · rename_i i hi
      cases e' : fillL (fun j => some (j * i.size, i.size)) z ps with
      | none => rw [e'] at h; cases h
      | some cs =>
        rw [e'] at h
        obtain rfl := Option.some.inj h
        obtain ⟨zv, hrun, _, _, hzc, hz1, _⟩ := zeroL_spec (β := β) w hz
        obtain ⟨ca', h2, h3, h4⟩ := sim_fill _ _ _ _ _ _ hp e' hzc hz1
        refine ⟨.agg ca', ?_, agg_of_cells h3 h4⟩
        simp only [Instr.build, Sem.run_bind, hrun, Result.andThen_ok, run_underlying ht, run_size w hi, h2]
        rfl
    · cases h
  · cases h
def OptR (β : Bj) : Option Value → Option Value → Prop
  | none, none => True
  | some v, some u => VR β v u
  | _, _ => False
theorem sim_bound {x x' : Option Value} {v y d n : Nat} (code : BoundsCode) (h : pSliceB x y d = some n) (hx : OptR β x x') (u : Value) (hu : x' = some u) : n ≤ y ∧ (y ≤ v → (Instr.sliceBound u v code).run P w = .ok n w) := by
  subst hu
  unfold pSliceB at h
  split at h
  · cases hx
  · split at h
    · rename_i hi
      obtain rfl := Option.some.inj h
      cases (show VR β _ _ from hx)
      refine ⟨by omega, fun hv => ?_⟩
      rename_i k i
      have h2 : i ≤ (v : Int) := by omega
      simp [Instr.sliceBound, asIntOf, hi.1, h2]
    · cases h
  · cases h
theorem bound_none {y d n : Nat} (h : pSliceB none y d = some n) : n = d := by
  simp [pSliceB] at h; exact h.symm
theorem OptR.none_inv {x' : Option Value} (h : OptR β none x') : x' = none := by cases x' <;> first | rfl | cases h
theorem OptR.some_inv {v : Value} {x' : Option Value} (h : OptR β (some v) x') : ∃ u, x' = some u ∧ VR β v u := by
  cases x' with
  | none => cases h
  | some u => exact ⟨u, rfl, h⟩
def bndR (P : Program) (w : World) (c : BoundsCode) (x : Option Value) (y d : Nat) : Result Nat :=
  match x with
  | some v => (Instr.sliceBound v y c).run P w
  | none => .ok d w
theorem sim_bndR {x x' : Option Value} {y d n : Nat} (c : BoundsCode) (h : pSliceB x y d = some n) (r : OptR β x x') (y' d' : Nat) (hy : y ≤ y') (hd : x = none → d' = d) : bndR P w c x' y' d' = .ok n w := by
  cases x with
  | none => obtain rfl := r.none_inv; obtain rfl := bound_none h; rw [hd rfl]; rfl
  | some v =>
    obtain ⟨u, rfl, hu⟩ := r.some_inv
    exact (sim_bound (P := P) (v := y') w c h r u rfl).2 hy
theorem run_sliceSl {t e : TypeId} {i : TypeInfo} (ht : P.underlying t = some (.slice e)) (hi : P.info? e = some i) (a : Option Addr) (len cap l h m : Nat) (lo' hi' mx' : Option Value) (hcond : ¬ (mx'.isSome = true ∧ hi'.isNone = true))
    (hm : bndR P w .slice3Acap mx' cap cap = .ok m w) (hh : ∀ c, bndR P w c hi' m len = .ok h w) (hl : ∀ c, bndR P w c lo' h 0 = .ok l w) :
    (Instr.sliceAt t (.slice a len cap) lo' hi' mx').run P w = .ok (.slice (if m = l then a else a.map (·.add (l * i.size))) (h - l) (m - l)) w := by
  simp only [Instr.sliceAt, Instr.slice, Sem.run_bind, run_underlying ht, Result.andThen_ok, Instr.sliceBounds]
  have hl1 := hl .slice3C
  have hl2 := hl .sliceB
  have hh1 := hh .slice3B
  have hh2 := hh .sliceAcap
  unfold bndR at *
  cases mx' <;> cases hi' <;> cases lo' <;> simp_all [run_size w hi]
theorem isNone_R {x x' : Option Value} (r : OptR β x x') : x'.isNone = x.isNone := by cases x <;> cases x' <;> first | rfl | cases r
theorem isSome_R {x x' : Option Value} (r : OptR β x x') : x'.isSome = x.isSome := by cases x <;> cases x' <;> first | rfl | cases r
theorem bound_le {x : Option Value} {y d n : Nat} (h : pSliceB x y d = some n) (hd : x = none → d ≤ y) : n ≤ y := by
  unfold pSliceB at h
  split at h
  · obtain rfl := Option.some.inj h; exact hd rfl
  · split at h
    · obtain rfl := Option.some.inj h; omega
    · cases h
  · cases h
def BaseR (β : Bj) (cap' len : Nat) (a a' : Option Addr) : Prop :=
  (a = none ∧ a' = none ∧ cap' = 0 ∧ len = 0) ∨ ∃ id off p x, a = some ⟨id, off, none⟩ ∧ β id = some p ∧ a' = some x ∧ (cap' = 0 ∨ x = ⟨p.b, p.sh + off, none⟩)
theorem sim_sliceEx {t e : TypeId} {i : TypeInfo} (ht : P.underlying t = some (.slice e)) (hi : P.info? e = some i) {a : Option Addr} {len m : Nat} {lo hi0 lo' hi' mx' : Option Value} {v : Value} (h : pSliceEx i.size a len m lo hi0 = some v)
    (rlo : OptR β lo lo') (rhi : OptR β hi0 hi') (hcond : ¬ (mx'.isSome = true ∧ hi'.isNone = true)) (a' : Option Addr) (cap' : Nat) (hm : bndR P w .slice3Acap mx' cap' cap' = .ok m w) (hmc : m ≤ cap') (hmo : m < openCap)
    (ha : BaseR β cap' len a a') (hlen : len ≤ m ∨ hi0 ≠ none) : ∃ v', (Instr.sliceAt t (.slice a' len cap') lo' hi' mx').run P w = .ok v' w ∧ VR β v v' := by
  unfold pSliceEx at h
  split at h
  · rename_i hh e1
    split at h
    · rename_i l e2
      obtain rfl := Option.some.inj h
      refine ⟨_, run_sliceSl w ht hi a' len cap' l hh m lo' hi' mx' hcond hm (fun c => sim_bndR w c e1 rhi m len (Nat.le_refl _) (fun _ => rfl)) (fun c => sim_bndR w c e2 rlo hh 0 (Nat.le_refl _) (fun _ => rfl)), ?_⟩
      have hhm : hh ≤ m := bound_le e1 (fun hn => hlen.resolve_right (by simp [hn]))
      have hlh : l ≤ hh := bound_le e2 (fun _ => Nat.zero_le _)
      rcases ha with ⟨rfl, rfl, h0, h1⟩ | ⟨id, off, p, x, rfl, hp, rfl, hx⟩
      · have e3 : hh = 0 := by omega
        have e4 : l = 0 := by omega
        have e5 : m = 0 := by omega
        subst e3 e4 e5
        exact .nils
      · by_cases hml : m = l
        · rw [if_pos hml, if_pos hml]
          exact .slx hp (by omega) (by omega) (.inl (by omega))
        · rw [if_neg hml, if_neg hml]
          simp only [Option.map_some]
          refine .slx hp (by omega) (by omega) ?_
          rcases hx with h0 | rfl
          · left; omega
          · right
            rw [add_none, Nat.add_assoc]
    · cases h
  · cases h
theorem VR.slice_base {a : Option Addr} {len cap : Nat} {x' : Value} (h : VR β (.slice a len cap) x') : ∃ a' cap', x' = .slice a' len cap' ∧ BaseR β cap' len a a' ∧ len ≤ cap' ∧ cap' < openCap ∧ (cap < openCap → cap' = cap) ∧
    (openCap ≤ cap → ∃ id off p, a = some ⟨id, off, none⟩ ∧ β id = some p ∧ cap = openCap + p.es ∧ p.sh + off + cap' * p.es = p.room) := by
  cases h with
  | nils => exact ⟨none, 0, rfl, .inl ⟨rfl, rfl, rfl, rfl⟩, Nat.le_refl _, by decide, fun _ => rfl, fun h => absurd h (by decide)⟩
  | slx hp hl hc ha => exact ⟨_, _, rfl, .inr ⟨_, _, _, _, rfl, hp, rfl, ha⟩, hl, hc, fun _ => rfl, fun h => by omega⟩
  | slo hp hl hc hr ha => exact ⟨_, _, rfl, .inr ⟨_, _, _, _, rfl, hp, rfl, ha⟩, hl, hc, fun h => by omega, fun _ => ⟨_, _, _, rfl, hp, rfl, hr⟩⟩
theorem sim_slice {t : TypeId} {x x' v : Value} {lo hi mx lo' hi' mx' : Option Value} (h : pSlice P t x lo hi mx = some v) (hx : VR β x x') (rlo : OptR β lo lo') (rhi : OptR β hi hi') (rmx : OptR β mx mx') :
    ∃ v', (Instr.sliceAt t x' lo' hi' mx').run P w = .ok v' w ∧ VR β v v' := by
  unfold pSlice at h
  split at h
  · rename_i ht
    split at h
    · rename_i hm
      have hmx : mx = none := by cases mx <;> simp_all
      subst hmx
      obtain rfl := rmx.none_inv
      unfold pSliceStr at h
      split at h
      · rename_i s
        cases hx
        split at h
        · rename_i hh e1
          split at h
          · rename_i l e2
            obtain rfl := Option.some.inj h
            have r1 := sim_bndR (P := P) w .sliceAlen e1 rhi s.size s.size (Nat.le_refl _) (fun _ => rfl)
            have r2 := sim_bndR (P := P) w .sliceB e2 rlo hh 0 (Nat.le_refl _) (fun _ => rfl)
            refine ⟨_, ?_, .str _⟩
            simp only [Instr.sliceAt, Instr.slice, Sem.run_bind, run_underlying ht, Result.andThen_ok, Option.isSome_none, Bool.false_eq_true, if_false, Instr.sliceBounds, Sem.run_pure]
            unfold bndR at r1 r2
            cases hi' <;> cases lo' <;> simp_all
          · cases h
        · cases h
      · cases h
    · cases h
  · rename_i e ht
    split at h
    · rename_i i hi0
      split at h
      · cases h
      · rename_i hcond
        have hcond' : ¬ (mx'.isSome = true ∧ hi'.isNone = true) := by rw [isSome_R rmx, isNone_R rhi]; exact hcond
        unfold pSliceSl at h
        split at h
        · rename_i a len cap
          obtain ⟨a', cap', rfl, hb, hlc, hco, hex, hop⟩ := hx.slice_base
          split at h
          · rename_i hc
            obtain rfl := hex hc
            split at h
            · rename_i m e1
              have hmle : m ≤ cap' := bound_le e1 (fun _ => Nat.le_refl _)
              refine sim_sliceEx w ht hi0 h rlo rhi hcond' a' cap' (sim_bndR w _ e1 rmx cap' cap' (Nat.le_refl _) (fun _ => rfl)) hmle (by omega) hb ?_
              cases mx with
              | none => left; have := bound_none e1; omega
              | some v => right; intro hn; subst hn; exact hcond ⟨rfl, rfl⟩
            · cases h
          · split at h
            · rename_i hc hcs
              obtain ⟨id, off, p, rfl, hp, hes, hroom⟩ := hop (by omega)
              have hsz : i.size = p.es := by omega
              split at h
              · obtain rfl := rmx.none_inv
                unfold pSliceOp at h
                split at h
                · rename_i hh e1
                  split at h
                  · rename_i l e2
                    obtain rfl := Option.some.inj h
                    have hhm : hh ≤ len := bound_le e1 (fun _ => Nat.le_refl _)
                    have hlh : l ≤ hh := bound_le e2 (fun _ => Nat.zero_le _)
                    refine ⟨_, run_sliceSl w ht hi0 a' len cap' l hh cap' lo' hi' none (by simp) rfl (fun c => sim_bndR w c e1 rhi cap' len hlc (fun _ => rfl)) (fun c => sim_bndR w c e2 rlo hh 0 (Nat.le_refl _) (fun _ => rfl)), ?_⟩
                    rcases hb with ⟨hn, _⟩ | ⟨id', off', p', x, hsome, hp', rfl, hx'⟩
                    · cases hn
                    · cases hsome
                      rw [hp] at hp'
                      obtain rfl := Option.some.inj hp'
                      rw [hsz]
                      have hsub : p.sh + (off + l * p.es) + (cap' - l) * p.es = p.room := by
                        rw [Nat.sub_mul]
                        have : l * p.es ≤ cap' * p.es := Nat.mul_le_mul_right _ (by omega)
                        omega
                      by_cases hml : cap' = l
                      · rw [if_pos hml]
                        exact .slo hp (by omega) (by omega) hsub (.inl (by omega))
                      · rw [if_neg hml]
                        simp only [Option.map_some]
                        refine .slo hp (by omega) (by omega) hsub ?_
                        rcases hx' with h0 | rfl
                        · left; omega
                        · right
                          rw [add_none, Nat.add_assoc]
                  · cases h
                · cases h
              · rename_i mv
                split at h
                · rename_i m e1
                  have hmle : m ≤ len := bound_le e1 (fun hn => by cases hn)
                  refine sim_sliceEx w ht hi0 h rlo rhi hcond' a' cap' (sim_bndR w _ e1 rmx cap' cap' hlc (fun hn => by cases hn)) (by omega) (by omega) hb ?_
                  right; intro hn; subst hn; exact hcond ⟨rfl, rfl⟩
                · cases h
            · cases h
        · cases h
    · cases h
  · cases h
end Go.AM
end

section
/- The abstract machine's operations on memory. Conditions: none. -/
namespace Go.AM
open Go
def rdRow (ag : Bool) (n : Nat) (x : Value) (h : AH) : Option Value :=
  match x with
  | .pointer (some ⟨id, off, none⟩) => match h[id]? with
    | some (.row c _) => if off + n ≤ c.length then partV ag n c off else none
    | _ => none
  | _ => none
def pLoad (P : Program) (t : TypeId) (x : Value) (h : AH) : Option Value :=
  match P.info? t, isAggT P t with
  | some i, some true => rdRow true i.size x h
  | some i, some false => if i.size = 1 then rdRow false 1 x h else none
  | _, _ => none
def newW (slot : Option Nat) (o : AObj) (h : AH) (K : Nat → AH → Prop) : Prop :=
  match slot with
  | none => K h.length (h ++ [o])
  | some r => K r (h.set r o)
def aAlloc (P : Program) (t : TypeId) (slot : Option Nat) (h : AH) (K : Value → AH → Prop) : Prop :=
  optW (zeroL P t) fun c => newW slot (.row c true) h fun id h' => K (.pointer (some ⟨id, 0, none⟩)) h'
def aBox (v : Value) (slot : Option Nat) (h : AH) (K : Value → AH → Prop) : Prop :=
  (cellsL v).all (·.oneCell') = true ∧ newW slot (.row (cellsL v) true) h fun id h' => K (.pointer (some ⟨id, 0, none⟩)) h'
def repL (z : List Value) : Nat → List Value
  | 0 => []
  | n + 1 => z ++ repL z n
def pBuildSlice (P : Program) (t : TypeId) (len : Nat) (parts : List (Nat × Value)) : Option (List Value) :=
  match P.underlying t with
  | some (.slice e) => match P.info? e, zeroL P e with
    | some i, some z => if z.length = i.size ∧ len * i.size ≤ 16777216 ∧ len ≤ 16777216 then fillL (fun j => some (j * i.size, i.size)) (repL z len) parts else none
    | _, _ => none
  | _ => none
def aBuildSlice (P : Program) (t : TypeId) (len : Nat) (parts : List (Nat × Value)) (slot : Option Nat) (h : AH) (K : Value → AH → Prop) : Prop :=
  optW (pBuildSlice P t len parts) fun c => newW slot (.row c true) h fun id h' => K (.slice (some ⟨id, 0, none⟩) len len) h'
def aMakeMap (slot : Option Nat) (h : AH) (K : Value → AH → Prop) : Prop :=
  newW slot (.map [] 0) h fun id h' => K (.map (some id)) h'
def room40 : Nat := 1099511627776
def pMakeSlice (P : Program) (t : TypeId) (len cap : Value) : Option (Nat × Nat × List Value) :=
  match P.underlying t, len, cap with
  | some (.slice e), .int .i64 l, .int .i64 c => match P.info? e, zeroL P e with
    | some i, some z => if 0 ≤ l ∧ l ≤ c ∧ c ≤ (room40 : Int) ∧ i.bytes ≤ 256 ∧ z.length = i.size then some (l.toNat, c.toNat, repL z c.toNat) else none
    | _, _ => none
  | _, _, _ => none
def aMakeSlice (P : Program) (t : TypeId) (len cap : Value) (slot : Option Nat) (h : AH) (K : Value → AH → Prop) : Prop :=
  optW (pMakeSlice P t len cap) fun r => newW slot (.row r.2.2 true) h fun id h' => K (.slice (some ⟨id, 0, none⟩) r.1 r.2.1) h'
def bytesL (s : ByteArray) : List Value := s.data.toList.map fun b => .int .u8 b.toNat
def aStrBytes (s : ByteArray) (slot : Option Nat) (h : AH) (K : Value → AH → Prop) : Prop :=
  s.size < room40 ∧ newW slot (.row (bytesL s) false) h fun id h' => K (.slice (some ⟨id, 0, none⟩) s.size (openCap + 1)) h'
def bytesOf : List Value → Option (List UInt8)
  | [] => some []
  | .int .u8 n :: r => match bytesOf r with
    | some l => some (UInt8.ofNat n.toNat :: l)
    | none => none
  | _ => none
def pBytesStr (x : Value) (h : AH) : Option Value :=
  match x with
  | .slice none _ _ => some (.string ⟨#[]⟩)
  | .slice (some ⟨id, off, none⟩) len _ => match h[id]? with
    | some (.row c _) => if 0 < len ∧ off + len ≤ c.length then (bytesOf ((c.drop off).take len)).map fun l => .string ⟨l.toArray⟩ else if len = 0 then some (.string ⟨#[]⟩) else none
    | _ => none
  | _ => none
def spliceL (c : List Value) (off : Nat) (vs : List Value) : List Value := c.take off ++ vs ++ c.drop (off + vs.length)
def stRow (x : Value) (vs : List Value) (h : AH) : Option AH :=
  match x with
  | .pointer (some ⟨id, off, none⟩) => match h[id]? with
    | some (.row c true) => if off + vs.length ≤ c.length then some (h.set id (.row (spliceL c off vs) true)) else none
    | _ => none
  | _ => none
def pStore (n : Nat) (x v : Value) (h : AH) : Option AH :=
  if (cellsL v).length = n ∧ (cellsL v).all (·.oneCell') = true then stRow x (cellsL v) h else none
def stOf (P : Program) (t : TypeId) (x v : Value) (h : AH) : Option AH :=
  match P.info? t with
  | some i => pStore i.size x v h
  | none => none
def srcL (s : Nat) (x : Value) (h : AH) : Option (Nat × List Value) :=
  match x with
  | .slice none 0 _ => some (0, [])
  | .slice (some ⟨id, off, none⟩) n _ => if n = 0 then some (0, []) else match h[id]? with
    | some (.row c _) => if off + n * s ≤ c.length then some (n, (c.drop off).take (n * s)) else none
    | _ => none
  | .string b => if s = 1 then some (b.size, bytesL b) else none
  | _ => none
def firstL (n : Nat) (a : Option Addr) (h : AH) : Option (List Value) :=
  if n = 0 then some [] else
  match a with
  | some ⟨id, off, none⟩ => match h[id]? with
    | some (.row c _) => if off + n ≤ c.length then some ((c.drop off).take n) else none
    | _ => none
  | _ => none
def stAt (a : Option Addr) (d : Nat) (vs : List Value) (h : AH) : Option AH :=
  match vs with
  | [] => some h
  | v :: r => match a with
    | some ⟨id, off, none⟩ => stRow (.pointer (some ⟨id, off + d, none⟩)) (v :: r) h
    | _ => none
def pAppEx (s : Nat) (a : Option Addr) (len cap n : Nat) (news : List Value) (h : AH) : Option (Value × AH) :=
  if len + n ≤ cap then (stAt a (len * s) news h).map fun h' => (.slice a (len + n) cap, h')
  else (firstL (len * s) a h).map fun old => (.slice (some ⟨h.length, 0, none⟩) (len + n) (openCap + s), h ++ [.row (old ++ news) true])
def pAppOp (s : Nat) (a : Option Addr) (len n : Nat) (news : List Value) (h : AH) : Option (Value × AH) :=
  match a with
  | some ⟨id, off, none⟩ => match h[id]? with
    | some (.row c true) =>
      if off + (len + n) * s ≤ c.length then (stAt a (len * s) news h).map fun h' => (.slice a (len + n) (openCap + s), h')
      else if off + len * s ≤ c.length then some (.slice (some ⟨h.length, 0, none⟩) (len + n) (openCap + s), h.set id .dead ++ [.row ((c.drop off).take (len * s) ++ news) true])
      else none
    | _ => none
  | _ => none
def pAppS (s : Nat) (b x : Value) (h : AH) : Option (Value × AH) :=
  match b, srcL s x h with
  | .slice a len cap, some (n, news) =>
    if len + n < room40 then
      if cap < openCap then pAppEx s a len cap n news h
      else if cap = openCap + s then pAppOp s a len n news h
      else none
    else none
  | _, _ => none
def appBoth (s : Nat) (b x : Value) (h : AH) (K : Value → AH → Prop) : Prop :=
  match b, srcL s x h with
  | .slice (some ⟨id, off, none⟩) len cap, some (n, news) =>
    len + n < room40 ∧ cap = openCap + s ∧ match h[id]? with
    | some (.row c true) => off + len * s = c.length ∧ K (.slice (some ⟨id, off, none⟩) (len + n) cap) (h.set id (.row (c ++ news) true)) ∧
        K (.slice (some ⟨h.length, 0, none⟩) (len + n) cap) (h ++ [.row (c.drop off ++ news) true])
    | _ => False
  | _, _ => False
def appS (s : Nat) (b x : Value) (h : AH) (K : Value → AH → Prop) : Prop :=
  optW (pAppS s b x h) (fun r => K r.1 r.2) ∨ appBoth s b x h K
def appZ (s : Nat) (z : List Value) (b : Value) (n : Int) (h : AH) (K : Value → AH → Prop) : Prop :=
  match b with
  | .slice none 0 0 => if n = 0 then K (.slice none 0 0) h else if 0 < n ∧ n < (room40 : Int) then K (.slice (some ⟨h.length, 0, none⟩) n.toNat (openCap + s)) (h ++ [.row (repL z n.toNat) true]) else False
  | _ => False
def aAppend (P : Program) (ts : Array TypeId) (b x : Value) (h : AH) (K : Value → AH → Prop) : Prop :=
  match ts.toList with
  | [t, tx] => match P.underlying t, P.underlying tx, x with
    | some (.slice e), some (.slice _), .slice .. | some (.slice e), some .string, .string _ => match P.info? e, zeroL P e with
      | some i, some z => if 0 < i.size ∧ i.bytes ≤ 64 ∧ z.length = i.size then appS i.size b x h K else False
      | _, _ => False
    | some (.slice e), some (.int _), .int .i64 n => match P.info? e, zeroL P e with
      | some i, some z => if 0 < i.size ∧ i.bytes ≤ 64 ∧ z.length = i.size then appZ i.size z b n h K else False
      | _, _ => False
    | _, _, _ => False
  | _ => False
end Go.AM
end

section
/- Go's model reads and makes memory as the abstract machine does. Conditions: none. -/
namespace Go.AM
open Go
set_option linter.unusedSimpArgs false
variable {P : Program} {β : Bj} {h : AH} {w : World}
def segC (cc : Array Value) (o n : Nat) : List Value := (List.range n).map fun j => cc.getD (o + j) undef
theorem segC_length (cc : Array Value) (o n : Nat) : (segC cc o n).length = n := by simp [segC]
theorem segC_get (cc : Array Value) (o n j : Nat) (hj : j < n) : (segC cc o n)[j]? = some (cc.getD (o + j) undef) := by simp [segC, hj]
theorem cell_at {b o : Nat} {cc : Array Value} {e : TypeId} {fr : Nat × Nat} (hb : w.heap[b]? = some (.cells cc e fr)) (ho : o < cc.size) : w.cell? ⟨b, o, none⟩ = some (cc.getD o undef) := by
  simp [World.cell?, hb, agetD, ho]
theorem segC_cells {b o n : Nat} {cc : Array Value} {e : TypeId} {fr : Nat × Nat} (hb : w.heap[b]? = some (.cells cc e fr)) (ho : o + n ≤ cc.size) : ∀ j v, (segC cc o n)[j]? = some v → w.cell? ((⟨b, o, none⟩ : Addr).add j) = some v := by
  intro j v hj
  have hlt := (List.getElem?_eq_some_iff.1 hj).1
  rw [segC_length] at hlt
  rw [segC_get _ _ _ _ hlt] at hj
  obtain rfl := Option.some.inj hj
  rw [add_none]
  exact cell_at hb (by omega)
theorem seg_R {c : List Value} {cc : Array Value} {sh off n : Nat} (hc : ∀ i, i < c.length → VR β (c.getD i undef) (cc.getD (sh + i) undef)) (ho : off + n ≤ c.length) : CellsR β ((c.drop off).take n) (segC cc (sh + off) n).toArray := by
  refine ⟨by simp [segC_length]; omega, fun i hi => ?_⟩
  have hi' : i < n := by simp at hi; omega
  have h1 : ((c.drop off).take n).getD i undef = c.getD (off + i) undef := by
    rw [lgetD, lgetD, List.getElem?_take_of_lt hi', List.getElem?_drop]
  have h2 : (segC cc (sh + off) n).toArray.getD i undef = cc.getD (sh + (off + i)) undef := by
    rw [agetD, List.getElem?_toArray, segC_get _ _ _ _ hi', Nat.add_assoc]
    rfl
  rw [h1, h2]
  exact hc _ (by omega)
theorem run_loadSeg {b o n : Nat} {cc : Array Value} {e : TypeId} {fr : Nat × Nat} (hb : w.heap[b]? = some (.cells cc e fr)) (ho : o + n ≤ cc.size) : (loadCells ⟨b, o, none⟩ n).run P w = .ok (segC cc o n).toArray w := by
  have := run_loadCells_list (P := P) w ⟨b, o, none⟩ (segC cc o n) (segC_cells hb ho)
  rwa [segC_length] at this
theorem sim_rdRow {ag : Bool} {n : Nat} {t : TypeId} {i : TypeInfo} {x x' v : Value} (hi : P.info? t = some i) (hg : isAggT P t = some ag) (hn : n = i.size) (hr : rdRow ag n x h = some v) (R : Rel β h w) (hx : VR β x x') :
    ∃ v', (Instr.loadAt t x').run P w = .ok v' w ∧ VR β v v' := by
  subst hn
  unfold rdRow at hr
  split at hr
  · rename_i id off
    obtain ⟨p, hp, rfl⟩ := hx.ptr_inv
    split at hr
    · rename_i c wr hrow
      split at hr
      · rename_i hle
        obtain ⟨cc, e, fr, hb, h1, h2, h3, h4, h5⟩ := R.obj hp hrow
        cases ag with
        | true =>
          simp only [partV, Option.some.injEq] at hr
          subst hr
          refine ⟨.agg (segC cc (p.sh + off) i.size).toArray, ?_, agg_of_cells (seg_R h3 hle) fun v hv => h5 v (List.mem_of_mem_drop (List.mem_of_mem_take hv))⟩
          simp [Instr.loadAt, Instr.sureAddr, loadVar, run_agg w hg, run_size w hi, run_loadSeg (P := P) (w := w) hb (show p.sh + off + i.size ≤ cc.size by omega)]
        | false =>
          simp only [partV] at hr
          have hlt := (List.getElem?_eq_some_iff.1 hr).1
          have hv : c.getD off undef = v := by rw [lgetD, hr]; rfl
          have := h3 off hlt
          rw [hv] at this
          refine ⟨_, ?_, this⟩
          have hc := cell_at (w := w) hb (show p.sh + off < cc.size by omega)
          simp [Instr.loadAt, Instr.sureAddr, loadVar, run_agg w hg, hc]
      · cases hr
    · cases hr
  · cases hr
theorem sim_load {t : TypeId} {x x' v : Value} (hr : pLoad P t x h = some v) (R : Rel β h w) (hx : VR β x x') : ∃ v', (Instr.loadAt t x').run P w = .ok v' w ∧ VR β v v' := by
  unfold pLoad at hr
  split at hr
  · rename_i i hi hg
    exact sim_rdRow hi hg rfl hr R hx
  · rename_i i hi hg
    split at hr
    · rename_i h1
      exact sim_rdRow hi hg h1.symm hr R hx
    · cases hr
  · cases hr
def SlotOK (D : Nat → Prop) (β : Bj) (h : AH) (slot : Option Nat) : Prop := (∀ id, D id → id < h.length) ∧ ∀ r, slot = some r → h[r]? = some .dead ∧ β r = none ∧ ¬ D r
theorem sim_new {D : Nat → Prop} {slot : Option Nat} {o : AObj} {K : Nat → AH → Prop} {w' : World} {O : Obj} {p : Pl} (hK : newW slot o h K) (R : Rel β h w) (hs : SlotOK D β h slot)
    (hw : w'.heap = w.heap.push O) (ht : w'.tape = w.tape) (hos : w'.os = w.os) (hout : w'.output = w.output) (hp : p.b = w.heap.size) (ho : ∀ β', BLe β β' → ObjAt β' o p w') :
    ∃ id h' β', K id h' ∧ β' id = some p ∧ Rel β' h' w' ∧ Ext D β h w β' h' w' := by
  have hother : ∀ b, b ≠ p.b → b < w.heap.size → w'.heap[b]? = w.heap[b]? := fun b _ hb => by rw [hw, Array.getElem?_push, if_neg (by omega)]
  have hfree : ∀ j q, β j = some q → live h[j]? = true → q.b ≠ p.b := fun j q hj hl => by have := R.blt hj hl; omega
  have hsz : w.heap.size ≤ w'.heap.size := by rw [hw]; simp
  have key : ∀ (id : Nat) (h' : AH), K id h' → β id = none → h'[id]? = some o → (∀ j, j ≠ id → j < h.length → h'[j]? = h[j]?) → h.length ≤ h'.length → ¬ D id → (∀ j, D j → h'[j]? = h[j]?) →
      ∃ id h' β', K id h' ∧ β' id = some p ∧ Rel β' h' w' ∧ Ext D β h w β' h' w' := by
    intro id h' hk hn hid hoth hlen hnid hsame
    refine ⟨id, h', upd β id p, hk, upd_same _ _ _, R.add hn hid hoth hlen hfree hother (ho _ (upd_le hn)), ?_⟩
    refine ⟨upd_le hn, fun j hj hd => ?_, hlen, fun j hj _ => hsame j hj, hsz, ht, hos, hout, fun b hb _ => hother b (by omega) hb, ?_⟩
    · rwa [upd_other (fun (e : j = id) => hnid (by rw [← e]; exact hj))] at hd
    · rintro b ⟨j, q, hj, rfl, hl, hro⟩
      by_cases e : j = id
      · subst e
        rw [upd_same] at hj
        obtain rfl := Option.some.inj hj
        right; omega
      · rw [upd_other e] at hj
        rw [hoth j e (R.lt hj)] at hl hro
        exact .inl ⟨j, q, hj, rfl, hl, hro⟩
  cases slot with
  | none =>
    have hnone : β h.length = none := by
      cases e : β h.length with
      | none => rfl
      | some q => have := R.lt e; omega
    exact key h.length (h ++ [o]) hK hnone (by simp) (fun j hj hl => by rw [List.getElem?_append_left hl]) (by simp) (fun hd => by have := hs.1 _ hd; omega) (fun j hj => by rw [List.getElem?_append_left (hs.1 j hj)])
  | some r =>
    obtain ⟨h1, h2, h3⟩ := hs.2 r rfl
    have hlt := (List.getElem?_eq_some_iff.1 h1).1
    exact key r (h.set r o) hK h2 (by simp [hlt]) (fun j hj _ => by simp [Ne.symm hj]) (by simp) h3 (fun j hj => by simp [show r ≠ j from fun e => h3 (by rw [e]; exact hj)])
theorem sim_newRow {D : Nat → Prop} {slot : Option Nat} {c : List Value} {cc : Array Value} {e : TypeId} {K : Nat → AH → Prop} {w' : World} (es : Nat) (hK : newW slot (.row c true) h K) (R : Rel β h w) (hs : SlotOK D β h slot)
    (hw : w'.heap = w.heap.push (.cells cc e (0, 0))) (ht : w'.tape = w.tape) (hos : w'.os = w.os) (hout : w'.output = w.output) (hl : c.length ≤ cc.size) (hc : ∀ i, i < c.length → VR β (c.getD i undef) (cc.getD i undef)) (h1 : ∀ v ∈ c, v.oneCell' = true) :
    ∃ id h' β', K id h' ∧ β' id = some ⟨w.heap.size, 0, cc.size, es⟩ ∧ Rel β' h' w' ∧ Ext D β h w β' h' w' := by
  refine sim_new hK R hs hw ht hos hout rfl fun β' hb => ⟨cc, e, (0, 0), ?_, by simpa using hl, Nat.le_refl _, fun i hi => ?_, fun _ => rfl, h1⟩
  · rw [hw]; simp
  · simp only [Nat.zero_add]
    exact (hc i hi).mono hb
def SimV (D : Nat → Prop) (β : Bj) (h : AH) (w : World) (K : Value → AH → Prop) (v' : Value) (w' : World) : Prop :=
  ∃ v h' β', K v h' ∧ VR β' v v' ∧ Rel β' h' w' ∧ Ext D β h w β' h' w'
theorem sim_alloc {D : Nat → Prop} {t : TypeId} {slot : Option Nat} {K : Value → AH → Prop} (hK : aAlloc P t slot h K) (R : Rel β h w) (hs : SlotOK D β h slot) : ∃ v' w', (Instr.alloc t true (.tuple #[])).run P w = .ok v' w' ∧ SimV D β h w K v' w' := by
  obtain ⟨c, hz, hK⟩ := optW_elim hK
  obtain ⟨z, hrun, _, hzc, hcr, h1, _⟩ := zeroL_spec (β := β) w hz
  refine ⟨.pointer (some ⟨w.heap.size, 0, none⟩), { w with heap := w.heap.push (.cells z.cells t) }, by simp [Instr.alloc, hrun, newVar, newRow], ?_⟩
  obtain ⟨id, h', β', hk, hid, R', E⟩ := sim_newRow (cc := z.cells) (e := t) (w' := { w with heap := w.heap.push (.cells z.cells t) }) 0 hK R hs rfl rfl rfl rfl (by rw [hcr.1]; exact Nat.le_refl _) hcr.2 h1
  exact ⟨_, h', β', hk, .ptr hid, R', E⟩
theorem sim_box {D : Nat → Prop} {t : TypeId} {slot : Option Nat} {v v' : Value} {K : Value → AH → Prop} (hK : aBox v slot h K) (hv : VR β v v') (R : Rel β h w) (hs : SlotOK D β h slot) : ∃ r w', (Instr.box t v').run P w = .ok r w' ∧ SimV D β h w K r w' := by
  obtain ⟨h1, hK⟩ := hK
  have hcr := hv.cells
  refine ⟨.pointer (some ⟨w.heap.size, 0, none⟩), { w with heap := w.heap.push (.cells v'.cells t) }, by simp [Instr.box, newVar, newRow], ?_⟩
  obtain ⟨id, h', β', hk, hid, R', E⟩ := sim_newRow (cc := v'.cells) (e := t) (w' := { w with heap := w.heap.push (.cells v'.cells t) }) 0 hK R hs rfl rfl rfl rfl (by rw [hcr.1]; exact Nat.le_refl _) hcr.2 (List.all_eq_true.1 h1)
  exact ⟨_, h', β', hk, .ptr hid, R', E⟩
theorem repL_length (z : List Value) : ∀ n, (repL z n).length = n * z.length
  | 0 => by simp [repL]
  | n + 1 => by simp [repL, repL_length z n, Nat.succ_mul, Nat.add_comm]
theorem repL_get (z : List Value) : ∀ n i, i < n * z.length → (repL z n)[i]? = z[i % z.length]?
  | 0, i, h => by simp at h
  | n + 1, i, h => by
    rw [repL]
    by_cases hi : i < z.length
    · rw [List.getElem?_append_left hi, Nat.mod_eq_of_lt hi]
    · rw [List.getElem?_append_right (by omega), repL_get z n (i - z.length) (by rw [Nat.succ_mul] at h; omega)]
      rw [Nat.mod_eq_sub_mod (show i ≥ z.length by omega)]
theorem mem_repL {z : List Value} {v : Value} : ∀ {n : Nat}, v ∈ repL z n → v ∈ z
  | 0, h => by simp [repL] at h
  | n + 1, h => by
    rw [repL, List.mem_append] at h
    exact h.elim id mem_repL
theorem rep_R {z : List Value} {za : Array Value} (hv : CellsR β z za) (n m : Nat) (hm : m = n * z.length) : CellsR β (repL z n) ((Array.range m).map (za[· % za.size]!)) := by
  subst hm
  refine ⟨by simp [repL_length], fun i hi => ?_⟩
  rw [repL_length] at hi
  have hzl : 0 < z.length := by
    rcases Nat.eq_zero_or_pos z.length with e | e
    · rw [e] at hi; simp at hi
    · exact e
  have hmod : i % z.length < z.length := Nat.mod_lt _ hzl
  have hsz : za.size = z.length := hv.1
  have := hv.2 (i % z.length) hmod
  rw [lgetD, repL_get z n i hi, agetD]
  rw [lgetD, agetD] at this
  have e2 : ((Array.range (n * z.length)).map (za[· % za.size]!))[i]? = za[i % z.length]? := by
    have : i % z.length < za.size := by omega
    simp [hi, hsz]
    rw [getElem!_pos za _ this, Array.getElem?_eq_getElem this]
  rw [e2]
  exact this
theorem sim_buildSlice {D : Nat → Prop} {t : TypeId} {len : Nat} {ps : List (Nat × Value)} {qs : Array (Nat × Value)} {slot : Option Nat} {K : Value → AH → Prop} (hK : aBuildSlice P t len ps slot h K) (hp : PartsR β ps qs.toList) (R : Rel β h w) (hs : SlotOK D β h slot) :
    ∃ r w', (Instr.buildSlice t len qs).run P w = .ok r w' ∧ SimV D β h w K r w' := by
  obtain ⟨c, hb, hK⟩ := optW_elim hK
  unfold pBuildSlice at hb
  split at hb
  · rename_i e ht
    split at hb
    · rename_i i z hi hz
      split at hb
      · rename_i hc
        obtain ⟨hzl, hle, hle2⟩ := hc
        obtain ⟨zv, hrun, _, hzc, hcr, h1, _⟩ := zeroL_spec (β := β) w hz
        have hrep : CellsR β (repL z len) ((Array.range (len * i.size)).map ((if len * i.size = 0 then #[] else zv.cells)[· % (if len * i.size = 0 then #[] else zv.cells).size]!)) := by
          by_cases h0 : len * i.size = 0
          · simp only [h0, if_true]
            refine ⟨by simp [repL_length, hzl, h0], fun j hj => ?_⟩
            rw [repL_length, hzl, h0] at hj
            omega
          · simp only [h0, if_false]
            exact rep_R hcr len (len * i.size) (by rw [hzl])
        obtain ⟨ca, hf, hca, hca1⟩ := sim_fill _ _ _ _ _ _ hp hb hrep (fun v hv => h1 v (mem_repL hv))
        refine ⟨.slice (some ⟨w.heap.size, 0, none⟩) len len, { w with heap := w.heap.push (.cells ca e) }, ?_, ?_⟩
        · have hng : ¬ (16777216 < len * i.size) := by omega
          simp only [Instr.buildSlice, Sem.run_bind, run_underlying ht, Result.andThen_ok, run_size w hi]
          by_cases h0 : len * i.size = 0
          · simp only [h0, if_true] at hf
            simp at hf
            simp [h0, hf, newRow]
          · simp only [h0, if_false] at hf
            simp [h0, hng, hrun, hf, newRow]
        · obtain ⟨id, h', β', hk, hid, R', E⟩ := sim_newRow (cc := ca) (e := e) (w' := { w with heap := w.heap.push (.cells ca e) }) 0 hK R hs rfl rfl rfl rfl (by rw [hca.1]; exact Nat.le_refl _) hca.2 hca1
          have hlc : len < openCap := Nat.lt_of_le_of_lt hle2 (by decide)
          exact ⟨_, h', β', hk, .slx hid (Nat.le_refl _) hlc (.inr (by simp)), R', E⟩
      · cases hb
    · cases hb
  · cases hb
theorem sim_makeMap {D : Nat → Prop} {t : TypeId} {slot : Option Nat} {K : Value → AH → Prop} (hK : aMakeMap slot h K) (R : Rel β h w) (hs : SlotOK D β h slot) : ∃ r w', (Instr.makeMap t none).run P w = .ok r w' ∧ SimV D β h w K r w' := by
  refine ⟨.map (some w.heap.size), { w with heap := w.heap.push (.map #[] 0) }, by simp [Instr.makeMap], ?_⟩
  obtain ⟨id, h', β', hk, hid, R', E⟩ := sim_new (O := .map #[] 0) (p := ⟨w.heap.size, 0, 0, 0⟩) (w' := { w with heap := w.heap.push (.map #[] 0) }) hK R hs rfl rfl rfl rfl rfl fun β' hb => ⟨#[], by simp, trivial⟩
  exact ⟨_, h', β', hk, .map hid, R', E⟩
end Go.AM
end

section
/- Go's model writes memory and appends as the abstract machine does. Conditions: none. -/
namespace Go.AM
open Go
set_option linter.unusedSimpArgs false
variable {P : Program} {β : Bj} {h : AH} {w : World}
theorem setCells_heap : ∀ (vs : List Value) (b o : Nat) (w : World) (cc : Array Value) (e : TypeId) (fr : Nat × Nat), w.heap[b]? = some (.cells cc e fr) → o + vs.length ≤ cc.size →
    ∃ cc', (w.setCells b o vs).heap[b]? = some (.cells cc' e fr) ∧ cc'.size = cc.size ∧ (∀ i, cc'.getD i undef = if o ≤ i ∧ i < o + vs.length then vs.getD (i - o) undef else cc.getD i undef) ∧
      (∀ b', b' ≠ b → (w.setCells b o vs).heap[b']? = w.heap[b']?) ∧ (w.setCells b o vs).heap.size = w.heap.size ∧ (w.setCells b o vs).tape = w.tape ∧ (w.setCells b o vs).os = w.os ∧ (w.setCells b o vs).output = w.output
  | [], b, o, w, cc, e, fr, hb, hl => ⟨cc, hb, rfl, fun i => by simp; intro _ _; omega, fun _ _ => rfl, rfl, rfl, rfl, rfl⟩
  | v :: r, b, o, w, cc, e, fr, hb, hl => by
    simp only [List.length_cons] at hl
    have h1 : (w.setCell ⟨b, o, none⟩ v).heap[b]? = some (.cells (cc.setIfInBounds o v) e fr) := by
      simp [World.setCell, Array.getElem?_modify, hb]
    obtain ⟨cc', i1, i2, i3, i4, i5, i6, i7, i8⟩ := setCells_heap r b (o + 1) (w.setCell ⟨b, o, none⟩ v) (cc.setIfInBounds o v) e fr h1 (by simp; omega)
    refine ⟨cc', i1, by rw [i2]; simp, fun i => ?_, fun b' hb' => ?_, ?_, i6, i7, i8⟩
    · rw [i3]
      simp only [List.length_cons]
      by_cases e1 : i = o
      · subst e1
        rw [if_neg (by omega), if_pos (by omega)]
        have : i < cc.size := by omega
        simp [agetD, this]
      · by_cases e2 : o + 1 ≤ i ∧ i < o + 1 + r.length
        · rw [if_pos e2, if_pos (by omega), show i - o = (i - (o + 1)) + 1 by omega]
          simp
        · rw [if_neg e2, if_neg (by omega), agetD, agetD, Array.getElem?_setIfInBounds_ne (by omega)]
    · show ((w.setCell ⟨b, o, none⟩ v).setCells b (o + 1) r).heap[b']? = _
      rw [i4 b' hb']
      simp [World.setCell, Array.getElem?_modify, Ne.symm hb']
    · show ((w.setCell ⟨b, o, none⟩ v).setCells b (o + 1) r).heap.size = _
      rw [i5]
      simp [World.setCell]
theorem splice_length (c vs : List Value) (off : Nat) (hl : off + vs.length ≤ c.length) : (spliceL c off vs).length = c.length := by
  simp [spliceL]; omega
theorem Ext.update {D : Nat → Prop} {β : Bj} {h : AH} {w w' : World} {id : Nat} {p : Pl} {o' : AObj} (hp : β id = some p) (hl : live h[id]? = true) (hro : isRo h[id]? = false)
    (hw : ∀ b, b ≠ p.b → w'.heap[b]? = w.heap[b]?) (hsz : w'.heap.size = w.heap.size) (ht : w'.tape = w.tape) (hos : w'.os = w.os) (hout : w'.output = w.output) : Ext D β h w β (h.set id o') w' where
  ble := .refl β
  dom _ _ hd := hd
  len := by simp
  afr j _ hj := by
    by_cases e : id = j
    · subst e; rw [hp] at hj; cases hj
    · rw [getElem?_set_other e]
  size := by rw [hsz]; exact Nat.le_refl _
  tape := ht
  os := hos
  out := hout
  cfr b _ hnb := hw b fun e => hnb ⟨id, p, hp, e.symm, hl, hro⟩
  wb b hb := by
    obtain ⟨j, q, hj, rfl, l1, l2⟩ := hb
    by_cases e : id = j
    · subst e
      rw [hp] at hj
      obtain rfl := Option.some.inj hj
      exact .inl ⟨id, p, hp, rfl, hl, hro⟩
    · rw [getElem?_set_other e] at l1 l2
      exact .inl ⟨j, q, hj, rfl, l1, l2⟩
theorem run_storeSeg {b o : Nat} {cc : Array Value} {e : TypeId} {fr : Nat × Nat} (vs : List Value) (hb : w.heap[b]? = some (.cells cc e fr)) (ho : o + vs.length ≤ cc.size) (hf : ∀ i, o ≤ i → i < o + vs.length → ¬ (fr.1 ≤ i ∧ i < fr.2))
    (h1 : ∀ v ∈ vs, v.oneCell' = true) : (storeCells ⟨b, o, none⟩ vs).run P w = .ok () (w.setCells b o vs) := by
  have := run_storeCells_cells (P := P) b o vs 0 w (fun j hj => by rw [Nat.add_zero, cell_at hb (by omega)]; rfl) (fun j hj => by
    simp only [World.frozen?, hb, Nat.add_zero]
    have := hf (o + j) (by omega) (by omega)
    simpa using this) h1
  simpa using this
theorem store_core {D : Nat → Prop} {id off : Nat} {p : Pl} {c : List Value} {vs : List Value} {us : Array Value} (R : Rel β h w) (hp : β id = some p) (hrow : h[id]? = some (.row c true)) (hle : off + vs.length ≤ c.length)
    (hu : CellsR β vs us) (h1 : ∀ v ∈ vs, v.oneCell' = true) (hu1 : ∀ v ∈ us, v.oneCell' = true) :
    ∃ w', (storeCells ⟨p.b, p.sh + off, none⟩ us.toList).run P w = .ok () w' ∧ Rel β (h.set id (.row (spliceL c off vs) true)) w' ∧ Ext D β h w β (h.set id (.row (spliceL c off vs) true)) w' := by
  obtain ⟨cc, e, fr, hb, hr1, hr2, hr3, hr4, hr5⟩ := R.obj hp hrow
  have hul : us.toList.length = vs.length := by simp [hu.1]
  have hfr : fr.1 = fr.2 ∨ p.room ≤ fr.1 := .inl (by rw [hr4 rfl])
  obtain ⟨cc', i1, i2, i3, i4, i5, i6, i7, i8⟩ := setCells_heap us.toList p.b (p.sh + off) w cc e fr hb (by omega)
  refine ⟨w.setCells p.b (p.sh + off) us.toList, run_storeSeg us.toList hb (by omega) (fun i h2 h3 => ?_) (fun v hv => hu1 v (by simpa using hv)), ?_, ?_⟩
  · rcases hfr with hfr | hfr
    · omega
    · omega
  · refine R.update hp (by rw [hrow]; rfl) (by rw [hrow]; rfl) (fun b hbne _ => i4 b hbne) ⟨cc', e, fr, i1, by rw [splice_length _ _ _ hle]; exact hr1, by rw [i2]; exact hr2, fun i hi => ?_, fun _ => hr4 rfl, ?_⟩
    · rw [splice_length _ _ _ hle] at hi
      rw [i3, spliceL, splice_getD _ _ _ _ hle, hul]
      by_cases hin : off ≤ i ∧ i < off + vs.length
      · have hn2 : p.sh + off ≤ p.sh + i ∧ p.sh + i < p.sh + off + vs.length := by omega
        rw [if_pos hin, if_pos hn2, toList_getD us, show p.sh + i - (p.sh + off) = i - off by omega]
        exact hu.2 (i - off) (by omega)
      · have hn2 : ¬ (p.sh + off ≤ p.sh + i ∧ p.sh + i < p.sh + off + vs.length) := by omega
        rw [if_neg hin, if_neg hn2]
        exact hr3 i hi
    · intro v hv
      simp only [spliceL, List.mem_append] at hv
      rcases hv with (hv | hv) | hv
      · exact hr5 v (List.mem_of_mem_take hv)
      · exact h1 v hv
      · exact hr5 v (List.mem_of_mem_drop hv)
  · exact Ext.update hp (by rw [hrow]; rfl) (by rw [hrow]; rfl) i4 i5 i6 i7 i8
theorem CellsR.one {l : List Value} {a : Array Value} (hc : CellsR β l a) (h1 : ∀ v ∈ l, v.oneCell' = true) : ∀ v ∈ a, v.oneCell' = true := by
  intro v hv
  obtain ⟨i, hi, rfl⟩ := Array.mem_iff_getElem.1 hv
  have hil : i < l.length := by rw [← hc.1]; exact hi
  have := hc.2 i hil
  rw [agetD, Array.getElem?_eq_getElem hi, lgetD, List.getElem?_eq_getElem hil] at this
  have h2 := this.one
  simp only [Option.getD_some] at h2
  rw [h2]
  exact h1 _ (List.getElem_mem hil)
theorem sim_stRow {D : Nat → Prop} {x x' : Value} {vs : List Value} {us : Array Value} {h' : AH} (hst : stRow x vs h = some h') (R : Rel β h w) (hx : VR β x x') (hu : CellsR β vs us) (h1 : ∀ v ∈ vs, v.oneCell' = true) :
    ∃ a w', x' = .pointer (some a) ∧ (storeCells a us.toList).run P w = .ok () w' ∧ Rel β h' w' ∧ Ext D β h w β h' w' := by
  unfold stRow at hst
  split at hst
  · rename_i id off
    obtain ⟨p, hp, rfl⟩ := hx.ptr_inv
    split at hst
    · rename_i c hrow
      split at hst
      · rename_i hle
        obtain rfl := Option.some.inj hst
        obtain ⟨w', h2, h3, h4⟩ := store_core (P := P) (D := D) R hp hrow hle hu h1 (hu.one h1)
        exact ⟨_, w', rfl, h2, h3, h4⟩
      · cases hst
    · cases hst
  · cases hst
theorem sim_store {D : Nat → Prop} {t : TypeId} {x v x' v' : Value} {h' : AH} (hst : stOf P t x v h = some h') (R : Rel β h w) (hx : VR β x x') (hv : VR β v v') : ∃ w', (Instr.storeAt t x' v').run P w = .ok () w' ∧ Rel β h' w' ∧ Ext D β h w β h' w' := by
  unfold stOf at hst
  split at hst
  · rename_i i hi
    unfold pStore at hst
    split at hst
    · rename_i hc
      have hcr := hv.cells
      obtain ⟨a, w', rfl, h2, h3, h4⟩ := sim_stRow (P := P) (D := D) hst R hx hcr (List.all_eq_true.1 hc.2)
      refine ⟨w', ?_, h3, h4⟩
      have hsz : v'.cells.size = i.size := by rw [hcr.1, hc.1]
      simp [Instr.storeAt, Instr.sureAddr, storeVar, run_size w hi, hsz, h2]
    · cases hst
  · cases hst
end Go.AM
end

section
/- Go's model appends as the abstract machine does. Conditions: none. -/
namespace Go.AM
open Go
set_option linter.unusedSimpArgs false
variable {P : Program} {β : Bj} {h : AH} {w : World}
theorem mem_drop_take {c : List Value} {a b : Nat} {v : Value} (h : v ∈ (c.drop a).take b) : v ∈ c := List.mem_of_mem_drop (List.mem_of_mem_take h)
theorem bytesL_one (s : ByteArray) : ∀ v ∈ bytesL s, v.oneCell' = true := by
  intro v hv
  obtain ⟨b, _, rfl⟩ := List.mem_map.1 hv
  rfl
theorem pure_R {l : List Value} (hp : ∀ v ∈ l, pureS v = true) : CellsR β l l.toArray := by
  refine ⟨by simp, fun i hi => ?_⟩
  have : l.toArray.getD i undef = l.getD i undef := by rw [← toList_getD]
  rw [this, lgetD, List.getElem?_eq_getElem hi]
  exact .ofPureS (hp _ (List.getElem_mem hi))
theorem sim_src {s n : Nat} {tx : TypeId} {x x' : Value} {news : List Value} (hkind : ∀ b, x = .string b → P.underlying tx = some .string)
    (hkind2 : ∀ a l c, x = .slice a l c → ∃ e', P.underlying tx = some (.slice e')) (hs : srcL s x h = some (n, news)) (R : Rel β h w) (hx : VR β x x') :
    ∃ us : List Value, Src P s tx x' n us w ∧ CellsR β news us.toArray ∧ (∀ v ∈ news, v.oneCell' = true) := by
  unfold srcL at hs
  split at hs
  · rename_i c
    simp only [Option.some.injEq, Prod.mk.injEq] at hs
    obtain ⟨rfl, rfl⟩ := hs
    obtain ⟨e', he⟩ := hkind2 _ _ _ rfl
    obtain ⟨a', cap', rfl, hb, _⟩ := hx.slice_base
    rcases hb with ⟨_, rfl, _, _⟩ | ⟨_, _, _, _, hn, _⟩
    · exact ⟨[], Src.ofNil w he cap', ⟨rfl, fun i hi => by simp at hi⟩, fun v hv => by cases hv⟩
    · cases hn
  · rename_i id off n' c
    obtain ⟨e', he⟩ := hkind2 _ _ _ rfl
    obtain ⟨p, a', cap', hp, rfl, ha, hlc, _⟩ := hx.slice_inv
    split at hs
    · rename_i h0
      simp only [Option.some.injEq, Prod.mk.injEq] at hs
      obtain ⟨rfl, rfl⟩ := hs
      subst h0
      exact ⟨[], Src.ofSlice w he a' 0 cap' [] (by simp) (fun j u hj => by simp at hj) (fun u hu => by cases hu), ⟨rfl, fun i hi => by simp at hi⟩, fun v hv => by cases hv⟩
    · rename_i h0
      split at hs
      · rename_i cl wr hrow
        split at hs
        · rename_i hle
          simp only [Option.some.injEq, Prod.mk.injEq] at hs
          obtain ⟨rfl, rfl⟩ := hs
          obtain ⟨cc, e, fr, hb, h1, h2, h3, h4, h5⟩ := R.obj hp hrow
          have ha' : a' = ⟨p.b, p.sh + off, none⟩ := ha.resolve_left (by omega)
          subst ha'
          have hcr := seg_R (β := β) h3 hle
          refine ⟨segC cc (p.sh + off) (n' * s), Src.ofSlice w he _ n' cap' _ (segC_length _ _ _) (segC_cells hb (by omega)) ?_, hcr, fun v hv => h5 v (mem_drop_take hv)⟩
          exact fun u hu => hcr.one (fun v hv => h5 v (mem_drop_take hv)) u (by simpa using hu)
        · cases hs
      · cases hs
  · rename_i b
    split at hs
    · rename_i h1
      subst h1
      simp only [Option.some.injEq, Prod.mk.injEq] at hs
      obtain ⟨rfl, rfl⟩ := hs
      cases hx
      refine ⟨byteCells b, Src.ofString w (hkind b rfl) b, ?_, bytesL_one b⟩
      show CellsR β (bytesL b) (bytesL b).toArray
      exact pure_R fun v hv => by obtain ⟨q, _, rfl⟩ := List.mem_map.1 hv; rfl
    · cases hs
  · cases hs
theorem SimV.intro {D : Nat → Prop} {K : Value → AH → Prop} {v v' : Value} {h' : AH} {β' : Bj} {w' : World} (hk : K v h') (hv : VR β' v v') (R : Rel β' h' w') (E : Ext D β h w β' h' w') : SimV D β h w K v' w' := ⟨v, h', β', hk, hv, R, E⟩
theorem sim_stAt {D : Nat → Prop} {d : Nat} {a a' : Option Addr} {cap' len : Nat} {vs us : List Value} {h' : AH} (hst : stAt a d vs h = some h') (R : Rel β h w) (hb : BaseR β cap' len a a') (hu : CellsR β vs us.toArray) (h1 : ∀ v ∈ vs, v.oneCell' = true) (hcap : vs ≠ [] → cap' ≠ 0) :
    ∃ w', (match a' with | some x => storeCells (x.add d) us | none => pure ()).run P w = .ok () w' ∧ Rel β h' w' ∧ Ext D β h w β h' w' := by
  unfold stAt at hst
  split at hst
  · obtain rfl := Option.some.inj hst
    have : us = [] := by have := hu.1; simp at this; exact this
    subst this
    refine ⟨w, ?_, R, Ext.refl _ _ _ _⟩
    cases a' <;> simp [storeCells]
  · rename_i v r
    split at hst
    · rename_i id off
      rcases hb with ⟨hn, _⟩ | ⟨id', off', p, x, hsome, hp, rfl, hx⟩
      · cases hn
      · cases hsome
        obtain rfl := hx.resolve_left (hcap (by simp))
        obtain ⟨q, w', hq, h2, h3, h4⟩ := sim_stRow (P := P) (D := D) hst R (.ptr hp) hu h1
        refine ⟨w', ?_, h3, h4⟩
        cases hq
        simp only [add_none]
        rw [show p.sh + off + d = p.sh + (off + d) by omega]
        exact h2
    · cases hst
theorem zeroCells_size (z : Array Value) (n : Nat) : (Builtin.zeroCells z n).size = n * z.size := by simp [Builtin.zeroCells]
theorem grownCap_bounds (w : World) (need old : Nat) (e : TypeId) (h : need < 9223372036854775808) : need ≤ grownCap w need old e ∧ grownCap w need old e < 9223372036854775808 := by
  unfold grownCap Question.cut
  have : (2 : Nat) ^ 63 = 9223372036854775808 := by decide
  have hm := Nat.mod_lt (w.tape w.drawn (.appendCap need old e)) (show 0 < 2 ^ 63 - need by omega)
  simp only []
  omega
theorem sim_grow {D : Nat → Prop} {e : TypeId} {s : Nat} {z : Array Value} {K : Value → AH → Prop} {old news olds us : List Value} {need cap' : Nat} (hz : z.size = s) (R : Rel β h w)
    (ho : CellsR β old olds.toArray) (hu : CellsR β news us.toArray) (ho1 : ∀ v ∈ old, v.oneCell' = true) (hu1 : ∀ v ∈ news, v.oneCell' = true) (hlen : old.length + news.length = need * s) (hneed : need < room40) {slot : Option Nat} (hsl : SlotOK D β h slot)
    (hK : newW slot (.row (old ++ news) true) h fun id h' => K (.slice (some ⟨id, 0, none⟩) need (openCap + s)) h') :
    SimV D β h w K (.slice (some ⟨w.heap.size, 0, none⟩) need (grownCap w need cap' e))
      (w.drew.alloc (.cells ((olds ++ us).toArray ++ Builtin.zeroCells z (grownCap w need cap' e - need)) e)) := by
  have hgb := grownCap_bounds w need cap' e (Nat.lt_trans hneed (by decide))
  have hol : olds.length = old.length := by have := ho.1; simpa using this
  have hul : us.length = news.length := by have := hu.1; simpa using this
  have hsize : ((olds ++ us).toArray ++ Builtin.zeroCells z (grownCap w need cap' e - need)).size = grownCap w need cap' e * s := by
    rw [Array.size_append, zeroCells_size, hz]
    simp only [List.size_toArray, List.length_append, hol, hul, hlen]
    rw [← Nat.add_mul]
    congr 1
    omega
  obtain ⟨id, h', β', hk, hid, R', E⟩ := sim_newRow (cc := (olds ++ us).toArray ++ Builtin.zeroCells z (grownCap w need cap' e - need)) (e := e)
    (w' := w.drew.alloc (.cells ((olds ++ us).toArray ++ Builtin.zeroCells z (grownCap w need cap' e - need)) e)) s hK R hsl rfl rfl rfl rfl
    (by rw [hsize, List.length_append, hlen]; exact Nat.mul_le_mul_right _ hgb.1)
    (fun i hi => by
      rw [List.length_append] at hi
      have e1 : ((olds ++ us).toArray ++ Builtin.zeroCells z (grownCap w need cap' e - need)).getD i undef = (olds ++ us).getD i undef := by
        rw [agetD, lgetD, Array.getElem?_append_left (by simp [hol, hul]; omega)]
        simp
      rw [e1, lgetD, lgetD]
      by_cases hio : i < old.length
      · rw [List.getElem?_append_left hio, List.getElem?_append_left (by omega)]
        have := ho.2 i hio
        rw [lgetD, agetD] at this
        simpa using this
      · rw [List.getElem?_append_right (by omega), List.getElem?_append_right (by omega), hol]
        have := hu.2 (i - old.length) (by omega)
        rw [lgetD, agetD] at this
        simpa using this)
    (fun v hv => (List.mem_append.1 hv).elim (ho1 v) (hu1 v))
  refine ⟨_, h', β', hk, .slo (p := ⟨w.heap.size, 0, _, s⟩) hid hgb.1 (Nat.lt_trans hgb.2 (by decide)) (by simp only [hsize]; omega) (.inr (by simp)), R', E⟩
theorem sim_first {s len cap' : Nat} {a a' : Option Addr} {old : List Value} (hs : 0 < s) (hf : firstL (len * s) a h = some old) (R : Rel β h w) (hb : BaseR β cap' len a a') (hlc : len ≤ cap') :
    ∃ olds : List Value, (∀ w1 : World, w1.heap = w.heap → (Builtin.firstCells s len (.slice a' len cap')).run P w1 = .ok olds.toArray w1) ∧ CellsR β old olds.toArray ∧ (∀ v ∈ old, v.oneCell' = true) ∧ old.length = len * s := by
  unfold firstL at hf
  split at hf
  · rename_i h0
    obtain rfl := Option.some.inj hf
    have hl0 : len = 0 := by
      rcases Nat.eq_zero_or_pos len with e | e
      · exact e
      · have := Nat.mul_pos e hs; omega
    subst hl0
    refine ⟨[], fun w1 _ => ?_, ⟨rfl, fun i hi => by simp at hi⟩, (fun v hv => by cases hv), by simp⟩
    cases a' with
    | none => exact run_firstCells_none w1 s 0 0 cap'
    | some x => exact run_firstCells_some w1 s 0 x 0 cap' [] (by simp) (fun j v hj => by simp at hj)
  · rename_i h0
    split at hf
    · rename_i id off
      split at hf
      · rename_i c wr hrow
        split at hf
        · rename_i hle
          obtain rfl := Option.some.inj hf
          rcases hb with ⟨hn, _⟩ | ⟨id', off', p, x, hsome, hp, rfl, hx⟩
          · cases hn
          · cases hsome
            have hlpos : len ≠ 0 := fun e => h0 (by rw [e]; simp)
            obtain rfl := hx.resolve_left (by omega)
            obtain ⟨cc, e, fr, hbk, h1, h2, h3, h4, h5⟩ := R.obj hp hrow
            refine ⟨segC cc (p.sh + off) (len * s), fun w1 hw1 => ?_, seg_R h3 hle, fun v hv => h5 v (mem_drop_take hv), by simp; omega⟩
            exact run_firstCells_some w1 s len _ len cap' _ (segC_length _ _ _) (segC_cells (w := w1) (by rw [hw1]; exact hbk) (by omega))
        · cases hf
      · cases hf
    · cases hf
theorem fits64 {need cap' bytes : Nat} (h : cap' < need) (hn : need < room40) (hb : bytes ≤ 64) : Builtin.nextslicecap need cap' * bytes ≤ 281474976710656 := by
  refine growslice_fits h ?_
  have h1 : need * bytes ≤ need * 64 := Nat.mul_le_mul_left _ hb
  have h2 : need < 1099511627776 := hn
  omega
theorem R_kill {D : Nat → Prop} {id : Nat} {p : Pl} {c : List Value} (R : Rel β h w) (hp : β id = some p) (hrow : h[id]? = some (.row c true)) : Rel β (h.set id .dead) w ∧ Ext D β h w β (h.set id .dead) w :=
  ⟨R.update hp (by rw [hrow]; rfl) (by rw [hrow]; rfl) (fun _ _ _ => rfl) trivial, Ext.update hp (by rw [hrow]; rfl) (by rw [hrow]; rfl) (fun _ _ => rfl) rfl rfl rfl rfl⟩
end Go.AM
end
