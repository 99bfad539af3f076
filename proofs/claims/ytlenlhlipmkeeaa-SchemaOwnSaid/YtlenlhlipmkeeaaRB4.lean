/- Parts of a proof, joined by a program. Conditions: none. -/
import Derived.Test.YtlenlhlipmkeeaaRB1
import Derived.Test.YtlenlhlipmkeeaaRA0
import Derived.Test.YtlenlhlipmkeeaaRB3
import Derived.Test.YtlenlhlipmkeeaaRB0
import Derived.Test.YtlenlhlipmkeeaaRS0
import Derived.Test.YtlenlhlipmkeeaaRB2
import Derived.Test.YtlenlhlipmkeeaaRS1
import Derived.Test.YtlenlhlipmkeeaaRA2

section
/- Schema's laws: the document's Parse. Conditions: none. -/
namespace Go.Proofs.Ytlenlhlipmkeeaa.W
open Go Go.AM SchM
set_option linter.unusedVariables false
set_option maxRecDepth 100000
theorem _root_.Go.AM.QS.lt {s b : Nat} {h : AH} {v : Value} {n : Nat} {cs : List Value} (q : QS s b h v n cs) {j : Nat} (hj : onId v j) : j < h.length := by
  rcases q with (⟨rfl, _⟩ | ⟨id, hb, rfl, g, _⟩) | ⟨i, hb, hi, rfl, _⟩
  · exact hj.elim
  · have : id = j := hj
    subst this
    exact lt_of_get g
  · have : i = j := hj
    subst this
    exact hi
end Go.Proofs.Ytlenlhlipmkeeaa.W
end

section
/- Schema's laws: the document's Parse: how a schema is read. Conditions: none. -/
namespace Go.Proofs.Ytlenlhlipmkeeaa.W
open Go Go.AM SchM
set_option linter.unusedVariables false
set_option maxRecDepth 100000
def ERr (h4 : AH) (T X O : Nat) (s : W) (h : AH) : Prop := ∃ er a w vl, RE h X s 0 er a ∧ BS h4 T X O h (At X) w vl ∧ parse s = .bad er a
theorem ERr.ex {h4 h h' : AH} {T X O : Nat} {s : W} (r : ERr h4 T X O s h) (x : Ex h h') : ERr h4 T X O s h' := by
  obtain ⟨er, a, w, vl, r, b, hp⟩ := r
  exact ⟨er, a, w, vl, r.ex x, b.ex x, hp⟩
structure LR (b : Nat) (h : AH) (v : Value) (l : List (W × Mdl)) : Prop where
  ex : ∃ cs, Sl 4 h v l.length cs ∧ (∀ j, onId v j → b ≤ j ∧ j < h.length) ∧ EL h (fun j => b ≤ j ∧ j < h.length) l cs
theorem LR.keep {b : Nat} {h h' : AH} {v : Value} {l : List (W × Mdl)} (x : LR b h v l) (hl : h.length ≤ h'.length) (hh : ∀ j, b ≤ j → j < h.length → h'[j]? = h[j]?) : LR b h' v l := by
  obtain ⟨cs, s, o, e⟩ := x.ex
  exact ⟨⟨cs, Sl.keepOn s fun j hj => hh j (o j hj).1 (o j hj).2, fun j hj => ⟨(o j hj).1, Nat.lt_of_lt_of_le (o j hj).2 hl⟩, EL.mono (fun j hj => ⟨hh j hj.1 hj.2, hj.1, Nat.lt_of_lt_of_le hj.2 hl⟩) l cs e⟩⟩
theorem LR.chg {b X : Nat} {h h' : AH} {v : Value} {l : List (W × Mdl)} (x : LR b h v l) (hX : X < b) (c : Chg (At X) h (At X) h') : LR b h' v l :=
  x.keep c.len fun j hj hl => c.get j hl fun e => by have : j = X := e; omega
theorem LR.nm {b : Nat} {h : AH} {v : Value} {l : List (W × Mdl)} (x : LR b h v l) : Nm h v (l.map (·.1)) := by
  obtain ⟨cs, s, o, r⟩ := x.ex
  refine ⟨⟨cs, by rw [List.length_map]; exact s, fun i w hw => ?_⟩⟩
  rw [List.getElem?_map] at hw
  cases hl : l[i]? with
  | none => rw [hl] at hw; cases hw
  | some e =>
    rw [hl] at hw
    cases hw
    obtain ⟨k, n, a, ll, c, h1, _⟩ := EL.get l cs r i e hl
    exact ⟨k, n, a, ll, c, h1⟩
end Go.Proofs.Ytlenlhlipmkeeaa.W
end

section
/- SchemaNames: the walk. Conditions: none. -/
namespace Go.Proofs.Ytlenlhlipmkeeaa.W
open Go Go.AM SchM
set_option linter.unusedVariables false
set_option maxRecDepth 100000
def erOf {α : Type} : R α → Int
  | .ok _ _ => 0
  | .bad e _ => e
def atOf {α : Type} : R α → Nat
  | .ok _ _ => 0
  | .bad _ a => a
theorem PR.shape {h0 h' : AH} {r : R (W × List (W × Mdl))} {v : Value} (p : PR h0 h' r v) : ∃ root a l c, v = .tuple #[.agg #[.string (bs root), .slice a l c], .int .i64 (atOf r : Nat), .int .i64 (erOf r)] ∧ ∀ x q, r = .ok x q → root = x.1 := by
  cases r with
  | bad e a => exact ⟨[], none, 0, 0, p, fun x q h => by cases h⟩
  | ok x q =>
    obtain ⟨a, c, cs, rfl, _⟩ := p
    exact ⟨x.1, a, x.2.length, c, rfl, fun y q h => by cases h; rfl⟩
end Go.Proofs.Ytlenlhlipmkeeaa.W
end

section
/- SchemaReads: texts that are read both ways. Conditions: none. -/
namespace Go.Proofs.Ytlenlhlipmkeeaa.W
open Go Go.AM SchM
set_option linter.unusedVariables false
set_option maxRecDepth 100000
def plainOf : R (W × List (W × Mdl)) → W × List (W × Mdl)
  | .ok x _ => x
  | .bad _ _ => ([], [])
theorem PR.both {h0 h' : AH} {r : R (W × List (W × Mdl))} {v : Value} (p : PR h0 h' r v) : ∃ a l c, v = .tuple #[.agg #[.string (bs (plainOf r).1), .slice a l c], .int .i64 (atOf r : Nat), .int .i64 (erOf r)] ∧ SM h' (plainOf r) (.agg #[.string (bs (plainOf r).1), .slice a l c]) := by
  cases r with
  | bad e a => exact ⟨none, 0, 0, p, SM.nil _⟩
  | ok x q =>
    obtain ⟨a, c, cs, rfl, sl, el⟩ := p
    exact ⟨a, x.2.length, c, rfl, ⟨a, c, cs, rfl, sl, EL.mono (fun j hj => ⟨rfl, hj.2⟩) _ _ el⟩⟩
theorem elems_sz {s : W} : ∀ (n p : Nat) (l l' : List (W × Mdl)) (q : Nat), p ≤ s.length → (∀ e ∈ l, sz e.2 ≤ s.length) → l.length ≤ 8 → elems s n p l = .ok l' q → (∀ e ∈ l', sz e.2 ≤ s.length) ∧ l'.length ≤ 8
  | 0, p, l, l', q, _, h1, h2, h => by
    cases h
    exact ⟨h1, h2⟩
  | n + 1, p, l, l', q, hp, h1, h2, h => by
    rw [elems] at h
    split at h
    · split at h
      · cases h
      · rename_i x q' hx
        have l1 := adv_le s p hp
        have l2 := (elem_up l1 hx).2
        have lt := elem_lt hx
        rw [List.length_map] at lt
        refine elems_sz n q' (l ++ [x]) l' q l2 (fun e he => ?_) (by simp; omega) h
        rcases List.mem_append.1 he with he | he
        · exact h1 e he
        · rw [List.mem_singleton.1 he]
          exact elem_sm l1 hx
    · split at h
      · cases h
        exact ⟨h1, h2⟩
      · cases h
theorem parse_sz {s : W} : (∀ e ∈ (plainOf (parse s)).2, sz e.2 ≤ s.length) ∧ (plainOf (parse s)).2.length ≤ 8 ∧ ((plainOf (parse s)).2 = [] ∨ s.length ≤ 2000) := by
  have nil : ∀ e a, (∀ x ∈ (plainOf (.bad e a)).2, sz x.2 ≤ s.length) ∧ (plainOf (.bad e a)).2.length ≤ 8 ∧ ((plainOf (.bad e a)).2 = [] ∨ s.length ≤ 2000) := fun e a => ⟨fun x hx => (by simp [plainOf] at hx), by simp [plainOf], .inl rfl⟩
  unfold parse
  split
  · exact nil _ _
  rename_i h2
  split
  · split
    · split
      · have hp := (skip_le s 0 (Nat.zero_le _)).2
        cases he : elems s (s.length + 1) (adv s (adv s (adv s (skip s 0)))) [] with
        | bad e a => exact nil _ _
        | ok l q =>
          have := elems_sz _ _ _ _ _ (adv_le s _ (adv_le s _ (adv_le s _ hp))) (fun e h => by cases h) (by decide) he
          unfold finish
          dsimp only
          split
          · exact ⟨this.1, this.2, .inr (by omega)⟩
          · exact nil _ _
      · exact nil _ _
    · exact nil _ _
  · exact nil _ _
end Go.Proofs.Ytlenlhlipmkeeaa.W
end

section
/- SchemaOwn: a schema that was read may be written on. Conditions: none. -/
namespace Go.Proofs.Ytlenlhlipmkeeaa.W
open Go Go.AM SchM
set_option linter.unusedVariables false
set_option maxRecDepth 100000
theorem szL_len : ∀ l : List Mdl, l.length ≤ szL l
  | [] => Nat.zero_le _
  | m :: l => by
    have h1 := szL_len l
    have h2 : 1 ≤ sz m := by
      obtain ⟨k, n, l⟩ := m
      unfold sz
      omega
    unfold szL
    rw [List.length_cons]
    omega
def lenV : Value → Nat
  | .slice _ n _ => n
  | _ => 0
theorem st_sl {s o n i : Nat} {h : AH} {v x : Value} {cs : List Value} {Q : Value → Value → AH → Prop} (hv : Sl s h v n cs) (wr : ∀ j, onId v j → Wr h j) (hi : i < n) (ho : o < s) (hx : cellsL x = [x]) (h1 : x.oneCell' = true)
    (k : ∀ p q h', h'.length = h.length → (∀ j, ¬ onId v j → h'[j]? = h[j]?) → (∀ j, Wr h j → Wr h' j) → Sl s h' v n (cs.set (i * s + o) x) → (∀ s' u n' cs', Sl s' h u n' cs' → ∃ cs'', Sl s' h' u n' cs'') → Q p q h') :
    optW (pIdxS s v (.int .i64 (i : Nat))) fun p => optW (pOff o p) fun q => optW (pStore 1 q x h) fun h' => Q p q h' := by
  obtain ⟨hl, ⟨rfl, rfl⟩ | ⟨id, off, cap, rfl, hc, h3⟩⟩ := hv
  · omega
  · rcases h3 with rfl | ⟨c, w, g, q1, q2⟩
    · omega
    · obtain ⟨c2, g2⟩ := wr id rfl
      rw [g] at g2
      cases g2
      have e1 : (i + 1) * s ≤ n * s := Nat.mul_le_mul_right s hi
      have e2 : (i + 1) * s = i * s + s := Nat.succ_mul ..
      refine w_some (v := .pointer (some ⟨id, off + i * s, none⟩)) ?_ (w_offP ?_)
      · show (if (0 : Int) ≤ (i : Int) ∧ (i : Int) < (n : Int) then some (Value.pointer (some ⟨id, off + ((i : Nat) : Int).toNat * s, none⟩)) else none) = _
        rw [if_pos ⟨by omega, by omega⟩, Int.toNat_natCast]
      refine w_stP g (by omega) hx h1 (k _ _ _ (by simp) (fun j hj => get_ne (fun e => hj e) _) (fun j hj => ?_) ⟨by rw [List.length_set]; exact hl, .inr ⟨id, off, cap, rfl, hc, .inr ⟨_, true, get_set _ (lt_of_get g) _, by rw [List.length_set]; exact q1, ?_⟩⟩⟩ ?_)
      · by_cases e : id = j
        · subst e
          exact ⟨_, get_set _ (lt_of_get g) _⟩
        · exact hj.keep (get_ne e _)
      · rw [← q2, List.drop_set, if_neg (by omega), List.take_set]
        congr 1
        omega
      · rintro s' u n' cs' ⟨hl', ⟨rfl, rfl⟩ | ⟨id', off', cap', rfl, hc', h3'⟩⟩
        · exact ⟨cs', hl', .inl ⟨rfl, rfl⟩⟩
        · rcases h3' with rfl | ⟨c', w', g', q1', q2'⟩
          · exact ⟨cs', hl', .inr ⟨id', off', cap', rfl, hc', .inl rfl⟩⟩
          · by_cases e : id = id'
            · subst e
              rw [g] at g'
              cases g'
              exact ⟨_, by rw [List.length_take, List.length_drop, List.length_set]; omega, .inr ⟨id, off', cap', rfl, hc', .inr ⟨_, true, get_set _ (lt_of_get g) _, by rw [List.length_set]; exact q1', rfl⟩⟩⟩
            · exact ⟨cs', hl', .inr ⟨id', off', cap', rfl, hc', .inr ⟨c', w', (get_ne e _).trans g', q1', q2'⟩⟩⟩
def MU (b B : Nat) (h : AH) (v u : Value) : Prop := ∃ cs, lenV u ≤ 1000000000 ∧ Sl 3 h u (lenV u) cs ∧ ∀ j, onId u j → ((b ≤ j ∧ j < B) ∧ Wr h j) ∧ ¬ onId v j
def XW (b B : Nat) (h : AH) (v : Value) (n : Nat) (H : Nat → Value) : Prop := ∃ cs, Sl 4 h v n cs ∧ (∀ j, onId v j → (b ≤ j ∧ j < B) ∧ Wr h j) ∧ ∀ i, i < n → cs[i * 4 + 3]? = some (H i) ∧ MU b B h v (H i)
theorem XW.keep {b B : Nat} {h h' : AH} {v : Value} {n : Nat} {H : Nat → Value} (x : XW b B h v n H) (e : ∀ j, b ≤ j → j < B → h'[j]? = h[j]?) : XW b B h' v n H := by
  obtain ⟨cs, sl, on, r⟩ := x
  refine ⟨cs, Sl.keepOn sl fun j hj => e j (on j hj).1.1 (on j hj).1.2, fun j hj => ⟨(on j hj).1, (on j hj).2.keep (e j (on j hj).1.1 (on j hj).1.2)⟩, fun i hi => ⟨(r i hi).1, ?_⟩⟩
  obtain ⟨cs3, l3, s3, o3⟩ := (r i hi).2
  exact ⟨cs3, l3, Sl.keepOn s3 fun j hj => e j (o3 j hj).1.1.1 (o3 j hj).1.1.2, fun j hj => ⟨⟨(o3 j hj).1.1, (o3 j hj).1.2.keep (e j (o3 j hj).1.1.1 (o3 j hj).1.1.2)⟩, (o3 j hj).2⟩⟩
theorem MU.up {b B : Nat} {h h' : AH} {v u : Value} (m : MU b B h v u) (hw : ∀ j, Wr h j → Wr h' j) (hs : ∀ s' u n' cs', Sl s' h u n' cs' → ∃ cs'', Sl s' h' u n' cs'') : MU b B h' v u := by
  obtain ⟨cs, l, s, o⟩ := m
  obtain ⟨cs', s'⟩ := hs _ _ _ _ s
  exact ⟨cs', l, s', fun j hj => ⟨⟨(o j hj).1.1, hw j (o j hj).1.2⟩, (o j hj).2⟩⟩
theorem XW.name {b B n i : Nat} {h : AH} {v x : Value} {H : Nat → Value} {Q : Value → Value → AH → Prop} (X : XW b B h v n H) (hi : i < n) (hx : cellsL x = [x]) (h1 : x.oneCell' = true)
    (k : ∀ p q h', h'.length = h.length → (∀ j, j < b ∨ B ≤ j → h'[j]? = h[j]?) → XW b B h' v n H → Q p q h') :
    optW (pIdxS 4 v (.int .i64 (i : Nat))) fun p => optW (pOff 0 p) fun q => optW (pStore 1 q x h) fun h' => Q p q h' := by
  obtain ⟨cs, sl, on, r⟩ := X
  refine st_sl sl (fun j hj => (on j hj).2) hi (by decide) hx h1 fun p q h' l' f' w' s' u' => k p q h' l' (fun j hj => f' j fun e => by have := (on j e).1; omega) ⟨_, s', fun j hj => ⟨(on j hj).1, w' j (on j hj).2⟩, fun i' hi' => ⟨?_, (r i' hi').2.up w' u'⟩⟩
  rw [List.getElem?_set_ne (by omega)]
  exact (r i' hi').1
theorem XW.rd {b B n i : Nat} {h : AH} {v : Value} {H : Nat → Value} {Q : Value → Value → Value → Value → Prop} (X : XW b B h v n H) (hi : i < n) (k : ∀ p q r, Q p q r (H i)) :
    optW (pIdxS 4 v (.int .i64 (i : Nat))) fun p => optW (pOff 1 p) fun q => optW (pOff 2 q) fun r => optW (rdRow false 1 r h) fun u => Q p q r u := by
  obtain ⟨cs, sl, on, r⟩ := X
  have hl := sl.1
  refine w_idx sl (by omega) (by omega) fun p hp => ?_
  rw [Int.toNat_natCast] at hp
  have l4 : ((cs.drop (i * 4)).take 4).length = 4 := by rw [List.length_take, List.length_drop]; omega
  refine w_off hp (by omega) fun q hq => w_off hq (by rw [List.length_drop]; omega) fun r' hr => w_rd1 hr (x := H i) ?_ (k _ _ _)
  rw [List.getElem?_drop, List.getElem?_drop, List.getElem?_take, if_pos (by decide), List.getElem?_drop]
  exact (r i hi).1
theorem XW.kind {b B n i j : Nat} {h : AH} {v x : Value} {H : Nat → Value} {Q : Value → Value → AH → Prop} (X : XW b B h v n H) (hi : i < n) (hj : j < lenV (H i)) (hx : cellsL x = [x]) (h1 : x.oneCell' = true)
    (k : ∀ p q h', h'.length = h.length → (∀ j, j < b ∨ B ≤ j → h'[j]? = h[j]?) → XW b B h' v n H → Q p q h') :
    optW (pIdxS 3 (H i) (.int .i64 (j : Nat))) fun p => optW (pOff 0 p) fun q => optW (pStore 1 q x h) fun h' => Q p q h' := by
  obtain ⟨cs, sl, on, r⟩ := X
  obtain ⟨cs3, l3, s3, o3⟩ := (r i hi).2
  refine st_sl s3 (fun j hj => (o3 j hj).1.2) hj (by decide) hx h1 fun p q h' l' f' w' s' u' => k p q h' l' (fun j hj => f' j fun e => by have := (o3 j e).1.1; omega) ⟨cs, Sl.keepOn sl fun j hj => f' j fun e => (o3 j e).2 hj, fun j hj => ⟨(on j hj).1, w' j (on j hj).2⟩, fun i' hi' => ⟨(r i' hi').1, (r i' hi').2.up w' u'⟩⟩
theorem PRW.xw {h0 h' : AH} {s : W} {v : Value} (hl : s.length ≤ 1000000) (hle : h0.length ≤ h'.length) (p : PRW h0 h' (parse s) v) : ∃ root a n c H, v = .tuple #[.agg #[.string (bs root), .slice a n c], .int .i64 (atOf (parse s) : Nat), .int .i64 (erOf (parse s))] ∧ n ≤ 8 ∧ XW h0.length h'.length h' (.slice a n c) n H := by
  obtain ⟨z1, z2, _⟩ := parse_sz (s := s)
  cases hr : parse s with
  | bad e a =>
    rw [hr] at p
    exact ⟨[], none, 0, 0, fun _ => .slice none 0 0, p, by decide, [], ⟨rfl, .inl ⟨rfl, rfl⟩⟩, fun j hj => hj.elim, fun i hi => by omega⟩
  | ok x q =>
    rw [hr] at p z1 z2
    obtain ⟨a, c, cs, rfl, sl, on, el⟩ := p
    have hcs := sl.1
    refine ⟨x.1, a, x.2.length, c, fun i => cs.getD (i * 4 + 3) (.slice none 0 0), rfl, z2, cs, sl, on, fun i hi => ?_⟩
    obtain ⟨e, he⟩ := getElem?_of_lt (l := x.2) (i := i) hi
    have hz := z1 e (List.mem_of_getElem? he)
    obtain ⟨k, nm, a', ll, c', h1, h2⟩ := EL.get _ _ el i e he
    have h3 : cs[i * 4 + 3]? = some (.slice a' ll c') := by
      have : ((cs.drop (i * 4)).take 4)[3]? = some (.slice a' ll c') := by rw [h1]; rfl
      rw [List.getElem?_take, if_pos (by decide), List.getElem?_drop] at this
      exact this
    have h4 : cs.getD (i * 4 + 3) (.slice none 0 0) = .slice a' ll c' := by rw [List.getD_eq_getElem?_getD, h3]; rfl
    dsimp only
    rw [h4]
    refine ⟨h3, ?_⟩
    obtain ⟨w, k0, n0, l0⟩ := e
    unfold MH at h2
    obtain ⟨a2, c2, cs3, e2, s2, o2, _⟩ := h2
    simp only [Value.agg.injEq, Array.mk.injEq, List.cons.injEq, Value.slice.injEq, and_true] at e2
    obtain ⟨_, _, ea, el', ec⟩ := e2
    subst ea el' ec
    have z3 := szL_len l0
    have z4 : 1 + szL l0 ≤ s.length := hz
    exact ⟨cs3, by show l0.length ≤ _; omega, s2, o2⟩
end Go.Proofs.Ytlenlhlipmkeeaa.W
end

section
/- Schema's laws: which words a schema has: where a model's word may end. Conditions: none. -/
namespace Go.Proofs.Ytlenlhlipmkeeaa.W
open Go Go.AM SchM
set_option linter.unusedVariables false
set_option maxRecDepth 100000
theorem Rw_mk {c : Hc} {k : Int} {n : W} {l : List Mdl} {a x : Nat} : Rw c (.mk k n l) a x ↔ (k = 1 ∧ a = x) ∨ (k = 2 ∧ RT (Any (St c)) a x) ∨ (k = 3 ∧ St c (scOf c.x).T a x) ∨ (k = 4 ∧ ∃ i : Nat, (scOf c.x).fd n = i ∧ St c i a x) ∨ (k = 5 ∧ MSeq (scOf c.x).fd (scOf c.x).T (St c) l a x) ∨ (k = 6 ∧ MOr (scOf c.x).fd (scOf c.x).T (St c) l a x) ∨
      (k = 7 ∧ RT (MHd (scOf c.x).fd (scOf c.x).T (St c) l) a x) ∨ (k = 8 ∧ ∃ m, MHd (scOf c.x).fd (scOf c.x).T (St c) l a m ∧ RT (MHd (scOf c.x).fd (scOf c.x).T (St c) l) m x) ∨ (k = 9 ∧ (a = x ∨ MHd (scOf c.x).fd (scOf c.x).T (St c) l a x)) := by
  show MR _ _ _ (.mk k n l) a x ↔ _
  rw [MR]
theorem MHd_one {c : Hc} {m : Mdl} : MHd (scOf c.x).fd (scOf c.x).T (St c) [m] = Rw c m := by
  funext a x
  show MHd _ _ _ [m] a x = MR _ _ _ m a x
  rw [MHd]
set_option maxHeartbeats 4000000 in
theorem model67 {c : Hc} (ok : HcOK c) (nd : (c.x.2.map (·.1)).Nodup) (ho : ∀ e ∈ c.x.2, okM e.2 = true ∧ sz e.2 ≤ 100000000000) : ∀ (N a : Nat), c.w.length - a = N → a ≤ c.w.length → ∀ (s : Nat) (md : Mdl), sz md = s → s ≤ 100000000000 → okM md = true → MC c md a := by
  intro N
  induction N using Nat.strongRecOn with
  | ind N ihN =>
  intro a haN ha s
  induction s using Nat.strongRecOn with
  | ind s ihS =>
  intro md hs hs6 hok u h p o K m pm k
  have hn := ok.n
  have hT := ok.T
  have hM := ok.M
  have hl := m.x.len
  have low : ∀ md' k, a ≤ k → k ≤ c.w.length → okM md' = true → sz md' ≤ 100000000000 → (a < k ∨ sz md' < sz md) → MC c md' k := by
    intro md' k h1 h2 h3 h6 h4
    by_cases e : k = a
    · subst e
      exact ihS (sz md') (by omega) md' rfl h6 h3
    · exact ihN (c.w.length - k) (by omega) k rfl h2 (sz md') md' rfl h6 h3
  have hEC : ∀ k, a ≤ k → k ≤ c.w.length → ∀ i, i < c.x.2.length → EC c i k := by
    intro k h1 h2 i hi
    obtain ⟨e, he⟩ := getElem?_of_lt hi
    exact element48 ok he h2 fun hlt => low e.2 (k + 1) (by omega) (by omega) (ho e (List.mem_of_getElem? he)).1 (ho e (List.mem_of_getElem? he)).2 (.inl (by omega))
  obtain ⟨wa, wc, hws⟩ := ok.ws.shape
  obtain ⟨kk, n, l⟩ := md
  obtain ⟨okl, cases_⟩ := okM_cases hok
  have hszl : ∀ i m', l[i]? = some m' → sz m' < sz (.mk kk n l) := fun i m' hi => by
    have := sz_get l i m' hi
    show _ < 1 + szL l
    omega
  have hln : l.length ≤ 100000000000 := by
    have h1 := szL_len l
    have h2 : sz (.mk kk n l) = 1 + szL l := rfl
    omega
  obtain ⟨cc, sa, scp, gp, hpM, hp3, c0, c1, c2, hsub⟩ := pm.sub
  refine c67 ?_
  unfold s67
  refine n_boxv rfl fun h1 x1 l1 g1 => ?_
  have g1 : h1[h.length]? = some (.row [.pointer (some ⟨c.r, 0, none⟩)] true) := g1
  have m1 := m.ext ok x1
  have gr := m1.rdr ok
  refine w_rdP g1 (v := .pointer (some ⟨c.r, 0, none⟩)) rfl (w_nilc (w_offP (w_rdP gr (v := .map (some c.M)) rfl ?_)))
  refine w_some (v := .agg #[.pointer (some ⟨p, o, none⟩), .int .i64 (a : Nat)]) rfl ?_
  refine look91 m1 pm (fun v i hu b => ?_) (fun z => ?_)
  · refine w_some (v := v) rfl ?_
    refine w_some (v := .bool true) rfl ?_
    refine c_t ?_
    exact k u h1 v i m1 ((Exx.refl _ _).ex x1) (fun i hi => .inl hi) hu b
  refine w_some (v := z) rfl ?_
  refine w_some (v := .bool false) rfl ?_
  refine c_f ?_
  refine w_rdP g1 (v := .pointer (some ⟨c.r, 0, none⟩)) rfl ?_
  have gr' := gr
  rw [hws] at gr'
  refine row66 gr' (by omega) fun v30 h2 x2 l2 b2 => ?_
  refine b2.st (j := a) ha fun h3 x3 l3 bb => ?_
  have m2 := m1.ext ok x2
  have nu1 : ¬ u h1.length := fun hu => by have := (m1.ub _ hu).2; omega
  have m3 : MI c u h3 := m2.set ok (by omega) nu1 x3
  have X3 : Exx c.M h1 h3 := ⟨by omega, fun y hy hyM => (x3.get y (by omega) (by omega)).trans (x2.get y hy)⟩
  have b0 : BR h3 h1.length c.w.length v30 (fun x => x = a) := bb.congr fun x => by simp
  clear bb
  have pM : h.length ≠ c.M := by omega
  refine joinE_intro (fun e h4 => e 1 = .pointer (some ⟨p, o, none⟩) ∧ e 2 = .int .i64 (a : Nat) ∧ e 3 = .pointer (some ⟨h.length, 0, none⟩) ∧ ∃ u1 v i, e 9 = v ∧ MI c u1 h4 ∧ Exx c.M h1 h4 ∧ (∀ j, u1 j → u j ∨ h1.length ≤ j) ∧ h1.length ≤ i ∧ BR h4 i c.w.length v (Rw c (.mk kk n l) a)) ?_ ?_
  · rintro e h4 ⟨e1, e2, e3, u1, v, i, e9, m4, x4, s4, hi, b4⟩
    rw [e1, e2, e3, e9]
    refine w_rdP (x4.some g1 pM) (v := .pointer (some ⟨c.r, 0, none⟩)) rfl (w_nilc (w_offP (w_rdP (m4.rdr ok) (v := .map (some c.M)) rfl ?_)))
    refine w_some (v := .agg #[.pointer (some ⟨p, o, none⟩), .int .i64 (a : Nat)]) rfl ?_
    refine upd91 ok m4 pm ha (by omega) b4 fun h5 x5 l5 m5 b5 => k _ h5 v i m5 ?_ (fun j hj => ?_) (.inr rfl) b5
    · exact ((Exx.refl _ _).ex x1).trans (x4.trans x5)
    · rcases hj with hj | rfl
      · exact (s4 j hj).imp (fun h => h) fun h => by omega
      · exact .inr (by omega)
  intro J hJ
  have hj : ∀ (E : Env) (h4 : AH) (u1 : Nat → Prop) (v : Value) (i : Nat), E 1 = .pointer (some ⟨p, o, none⟩) → E 2 = .int .i64 (a : Nat) → E 3 = .pointer (some ⟨h.length, 0, none⟩) → E 9 = v → MI c u1 h4 → Exx c.M h1 h4 → (∀ j, u1 j → u j ∨ h1.length ≤ j) → h1.length ≤ i → BR h4 i c.w.length v (Rw c (.mk kk n l) a) → J E h4 :=
    fun E h4 u1 v i f1 f2 f3 f9 mm xx ss hi b => hJ _ _ ⟨f1, f2, f3, u1, v, i, f9, mm, xx, ss, hi, b⟩
  clear hJ
  have gp3 := m3.x.some gp hpM
  have g13 := X3.some g1 pM
  refine w_nilc (w_offP (w_rdP gp3 (v := .int .i64 kk) c0 (w_eql ?_)))
  refine c_dec (fun q => ?_) (fun q2 => ?_)
  · refine w_rdP g13 (v := .pointer (some ⟨c.r, 0, none⟩)) rfl (w_rdP g13 (v := .pointer (some ⟨c.r, 0, none⟩)) rfl ?_)
    refine often79 ok m3 b0 (lo := a) (fun j hj => by omega) (way80 ok hEC) (fun a' j _ hj => Any_le _ _ hj) fun u4 h4 v4 i4 m4 x4 s4 hi4 nu4 b4 => ?_
    refine hj _ h4 u4 v4 i4 rfl rfl rfl rfl m4 (X3.trans x4) (fun j hj => (s4 j hj).imp (fun h => h) fun h => by omega) (by omega) (b4.congr fun x => ?_)
    rw [Rw_mk]
    constructor
    · rintro ⟨_, rfl, hr⟩
      exact .inr (.inl ⟨q, hr⟩)
    · intro hr
      refine ⟨a, rfl, ?_⟩
      rcases hr with ⟨h, _⟩ | ⟨_, h⟩ | ⟨h, _⟩ | ⟨h, _⟩ | ⟨h, _⟩ | ⟨h, _⟩ | ⟨h, _⟩ | ⟨h, _⟩ | ⟨h, _⟩
      case inr.inl => exact h
      all_goals omega
  refine w_eql (c_dec (fun q => ?_) (fun q3 => ?_))
  · refine w_rdP g13 (v := .pointer (some ⟨c.r, 0, none⟩)) rfl ?_
    refine words81 ok m3 ha fun v4 i4 h4 x4 l40 l41 b4 => ?_
    refine hj _ h4 u v4 i4 rfl rfl rfl rfl (m3.ext ok x4) (X3.ex x4) (fun j hj => .inl hj) (by omega) (b4.congr fun x => ?_)
    rw [Rw_mk]
    constructor
    · rintro ⟨h1, rfl⟩
      exact .inr (.inr (.inl ⟨q, (Stw_iff _ _ _ _ _).2 (.inl ⟨rfl, h1, rfl⟩)⟩))
    · intro hr
      rcases hr with ⟨h, _⟩ | ⟨h, _⟩ | ⟨_, h⟩ | ⟨h, _⟩ | ⟨h, _⟩ | ⟨h, _⟩ | ⟨h, _⟩ | ⟨h, _⟩ | ⟨h, _⟩
      case inr.inr.inl =>
        rcases (Stw_iff _ _ _ _ _).1 h with ⟨_, h1, h2⟩ | ⟨h1, _⟩
        · exact ⟨h1, h2⟩
        · exact absurd h1 (Nat.lt_irrefl _)
      all_goals omega
  refine w_eql (c_dec (fun q => ?_) (fun q4 => ?_))
  · refine w_rdP g13 (v := .pointer (some ⟨c.r, 0, none⟩)) rfl ?_
    have gr3 := m3.rdr ok
    have gr3' := gr3
    rw [hws] at gr3'
    refine row66 gr3' (by omega) fun v5 h5 x5 l5 b5 => ?_
    have m5 := m3.ext ok x5
    refine w_rdP (x5.some g13) (v := .pointer (some ⟨c.r, 0, none⟩)) rfl (w_nilc (w_offP (w_offP (w_rdP (m5.rdr ok) (v := c.L) rfl ?_))))
    have X5 : Exx c.M h1 h5 := X3.ex x5
    obtain ⟨La, Lc, Lcs, hL, _⟩ := ok.ls
    rw [hL]
    refine w_lenSl ?_
    refine loopE_intro (fun mm e h6 => ∃ (j : Nat) (u6 : Nat → Prop) (v6 : Value) (i6 : Nat), j ≤ c.x.2.length ∧ mm = c.x.2.length - j ∧ e 1 = .pointer (some ⟨p, o, none⟩) ∧ e 2 = .int .i64 (a : Nat) ∧ e 3 = .pointer (some ⟨h.length, 0, none⟩) ∧ e 9 = v6 ∧ e 59 = c.L ∧ e 60 = .int .i64 ((c.x.2.length : Nat) : Int) ∧ e 61 = .int .i64 (j : Nat) ∧
      MI c u6 h6 ∧ Exx c.M h1 h6 ∧ (∀ j, u6 j → u j ∨ h1.length ≤ j) ∧ h1.length ≤ i6 ∧ BR h6 i6 c.w.length v6 (fun x => ∃ j' e', j' < j ∧ c.x.2[j']? = some e' ∧ e'.1 = n ∧ St c j' a x)) c.x.2.length
      ⟨0, u, v5, h3.length, Nat.zero_le _, rfl, rfl, rfl, rfl, rfl, hL.symm, rfl, rfl, m5, X5, fun j hj => .inl hj, by omega, b5.congr fun x => ⟨fun h => h.elim, fun ⟨j', e', h, _⟩ => by omega⟩⟩ ?_
    rintro I mm e h6 ⟨j, u6, v6, i6, hj6, hmm, f1, f2, f3, f9, f59, f60, f61, m6, x6, s6, hi6, b6⟩ ih
    rw [f1, f2, f3, f59, f60, f61]
    refine w_lss (c_dec (fun r => ?_) (fun r => ?_))
    · obtain ⟨el, hel⟩ := getElem?_of_lt (l := c.x.2) (i := j) (by omega)
      obtain ⟨id, off, cap, cc', k', n', a', l', cp', hL', gid, idM, hle', ht4, pm'⟩ := elAt ok hel
      have gid6 := m6.x.some gid idM
      rw [hL']
      refine w_some (v := .pointer (some ⟨id, off + j * 4, none⟩)) ?_ ?_
      · show (if 0 ≤ ((j : Nat) : Int) ∧ ((j : Nat) : Int) < ((c.x.2.length : Nat) : Int) then some (Value.pointer (some ⟨id, off + ((j : Nat) : Int).toNat * 4, none⟩)) else none) = _
        rw [if_pos (by omega)]
        simp
      refine w_rdPA gid6 hle' ?_
      rw [ht4]
      refine n_var rfl rfl rfl fun h7 x7 l7 g7 => ?_
      have g7 : h7[h6.length]? = some (.row [.string (bs el.1), .int .i64 k', .string (bs n'), .slice a' l' cp'] true) := g7
      have m7 := m6.ext ok x7
      refine w_offP (w_rdP g7 (v := .string (bs el.1)) rfl (w_nilc (w_offP (w_rdP (m7.x.some gp hpM) (v := .string (bs n)) c1 (w_seql ?_)))))
      refine c_dec (fun r2 => ?_) (fun r2 => ?_)
      · refine w_rdP ((x6.ex x7).some g1 pM) (v := .pointer (some ⟨c.r, 0, none⟩)) rfl ?_
        refine hEC a (Nat.le_refl _) ha j (by omega) u6 h7 _ m7 fun u8 h8 v8 i8 m8 x8 s8 hi8 nu8 b8 => w_add (by omega) (by omega) ?_
        refine ih (c.x.2.length - (j + 1)) _ _ (by omega) ⟨j + 1, u8, v8, i8, by omega, rfl, f1, f2, f3, rfl, f59, f60, rfl, m8, (x6.ex x7).trans x8, fun y hy => (s8 y hy).elim (s6 y) fun h => .inr (by have := (x6.ex x7).len; omega), by have := (x6.ex x7).len; omega, b8.congr fun x => ?_⟩
        constructor
        · intro h
          exact ⟨j, el, Nat.lt_succ_self _, hel, r2, h⟩
        · rintro ⟨j', e', h1, h2, h3, h4⟩
          have e1 : (c.x.2.map (·.1))[j']? = (c.x.2.map (·.1))[j]? := by
            rw [List.getElem?_map, List.getElem?_map, h2, hel]
            simp [h3, r2]
          have := (List.getElem?_inj (by rw [List.length_map]; exact get_lt h2) nd).1 e1
          subst this
          exact h4
      · refine w_add (by omega) (by omega) ?_
        refine ih (c.x.2.length - (j + 1)) _ _ (by omega) ⟨j + 1, u6, v6, i6, by omega, rfl, f1, f2, f3, f9, f59, f60, rfl, m7, x6.ex x7, s6, hi6, (b6.keep (x7.get _ b6.lt)).congr fun x => ?_⟩
        constructor
        · rintro ⟨j', e', h1, h2⟩
          exact ⟨j', e', by omega, h2⟩
        · rintro ⟨j', e', h1, h2, h3, h4⟩
          by_cases ej : j' = j
          · subst ej
            rw [hel] at h2
            cases h2
            exact absurd h3 r2
          · exact ⟨j', e', by omega, h2, h3, h4⟩
    · refine hj _ h6 u6 v6 i6 f1 f2 f3 f9 m6 x6 s6 hi6 (b6.congr fun x => ?_)
      rw [Rw_mk]
      constructor
      · rintro ⟨j', e', h1, h2, h3, h4⟩
        exact .inr (.inr (.inr (.inl ⟨q, j', (fd_iff nd n j').2 ⟨e', h2, h3⟩, h4⟩)))
      · intro hr
        rcases hr with ⟨h, _⟩ | ⟨h, _⟩ | ⟨h, _⟩ | ⟨_, i', h, h4⟩ | ⟨h, _⟩ | ⟨h, _⟩ | ⟨h, _⟩ | ⟨h, _⟩ | ⟨h, _⟩
        case inr.inr.inr.inl =>
          obtain ⟨e', h2, h3⟩ := (fd_iff nd n i').1 h
          exact ⟨i', e', by have := get_lt h2; omega, h2, h3, h4⟩
        all_goals omega
  refine w_eql (c_dec (fun q => ?_) (fun q5 => ?_))
  · refine w_nilc (w_offP (w_rdP gp3 (v := .slice sa l.length scp) c2 (w_lenSl ?_)))
    refine loopE_intro (fun mm e h6 => ∃ (j : Nat) (u6 : Nat → Prop) (v6 : Value) (i6 : Nat), j ≤ l.length ∧ mm = l.length - j ∧ e 1 = .pointer (some ⟨p, o, none⟩) ∧ e 2 = .int .i64 (a : Nat) ∧ e 3 = .pointer (some ⟨h.length, 0, none⟩) ∧ e 9 = v6 ∧ e 10 = .func (.func 77) #[] #[.pointer (some ⟨h.length, 0, none⟩)] ∧ e 84 = .int .i64 ((l.length : Nat) : Int) ∧ e 85 = .int .i64 (j : Nat) ∧
      MI c u6 h6 ∧ Exx c.M h1 h6 ∧ (∀ j, u6 j → u j ∨ h1.length ≤ j) ∧ h1.length ≤ i6 ∧ BR h6 i6 c.w.length v6 (MSeq (scOf c.x).fd (scOf c.x).T (St c) (l.take j) a)) l.length
      ⟨0, u, v30, h1.length, Nat.zero_le _, rfl, rfl, rfl, rfl, rfl, rfl, rfl, rfl, m3, X3, fun j hj => .inl hj, Nat.le_refl _, b0.congr fun x => by rw [List.take_zero, MSeq]; exact ⟨fun h => h.symm, fun h => h.symm⟩⟩ ?_
    rintro I mm e h6 ⟨j, u6, v6, i6, hj6, hmm, f1, f2, f3, f9, f10, f84, f85, m6, x6, s6, hi6, b6⟩ ih
    rw [f1, f3, f9, f10, f84, f85]
    refine w_lss (c_dec (fun r => ?_) (fun r => ?_))
    · obtain ⟨mj, hmj⟩ := getElem?_of_lt (l := l) (i := j) (by omega)
      obtain ⟨id, off, cap, hsl, pmj⟩ := hsub j mj hmj
      have g16 := x6.some g1 pM
      refine w_rdP g16 (v := .pointer (some ⟨c.r, 0, none⟩)) rfl (w_nilc (w_offP (w_rdP (m6.x.some gp hpM) (v := .slice sa l.length scp) c2 ?_)))
      rw [hsl]
      refine w_some (v := .pointer (some ⟨id, off + j * 3, none⟩)) ?_ ?_
      · show (if 0 ≤ ((j : Nat) : Int) ∧ ((j : Nat) : Int) < ((l.length : Nat) : Int) then some (Value.pointer (some ⟨id, off + ((j : Nat) : Int).toNat * 3, none⟩)) else none) = _
        rw [if_pos (by omega)]
        simp
      refine call77 fun h7 x7 l7 g7 => ⟨idrow g16 (x7.some g16), ?_⟩
      have m7 := m6.ext ok x7
      have hl6 := x6.len
      have hmm2 : ∀ k, a ≤ k → k ≤ c.w.length → MC c mj k := fun k h1 h2 => low mj k h1 h2 (okML_get l okl mj (List.mem_of_getElem? hmj)) (by have := hszl j mj hmj; omega) (.inr (hszl j mj hmj))
      refine on82 ok m7 (b6.keep (x7.get _ b6.lt)) (lo := a) (fun y hy => MSeq_le hy) (way78 (x7.some g16) g7 pM (by omega) pmj hmm2) fun u8 h8 v8 i8 m8 x8 s8 hi8 nu8 b8 => w_add (by omega) (by omega) ?_
      refine ih (l.length - (j + 1)) _ _ (by omega) ⟨j + 1, u8, v8, i8, by omega, rfl, f1, f2, f3, rfl, f10, f84, rfl, m8, (x6.ex x7).trans x8, fun y hy => (s8 y hy).elim (s6 y) fun h => .inr (by omega), by omega, b8.congr fun x => ?_⟩
      rw [take_succ_get hmj]
      exact (MSeq_snoc _ _ _ _).symm
    · refine hj _ h6 u6 v6 i6 f1 f2 f3 f9 m6 x6 s6 hi6 (b6.congr fun x => ?_)
      rw [Rw_mk, List.take_of_length_le (by omega)]
      constructor
      · exact fun h => .inr (.inr (.inr (.inr (.inl ⟨q, h⟩))))
      · intro hr
        rcases hr with ⟨h, _⟩ | ⟨h, _⟩ | ⟨h, _⟩ | ⟨h, _⟩ | ⟨_, h⟩ | ⟨h, _⟩ | ⟨h, _⟩ | ⟨h, _⟩ | ⟨h, _⟩
        case inr.inr.inr.inr.inl => exact h
        all_goals omega
  refine w_eql (c_dec (fun q => ?_) (fun q6 => ?_))
  · refine w_rdP g13 (v := .pointer (some ⟨c.r, 0, none⟩)) rfl ?_
    have gr3 := m3.rdr ok
    rw [hws] at gr3
    refine row66 gr3 (by omega) fun v5 h5 x5 l5 b5 => ?_
    have m5 := m3.ext ok x5
    have X5 : Exx c.M h1 h5 := X3.ex x5
    refine w_nilc (w_offP (w_rdP (m5.x.some gp hpM) (v := .slice sa l.length scp) c2 (w_lenSl ?_)))
    refine loopE_intro (fun mm e h6 => ∃ (j : Nat) (u6 : Nat → Prop), j ≤ l.length ∧ mm = l.length - j ∧ e 1 = .pointer (some ⟨p, o, none⟩) ∧ e 2 = .int .i64 (a : Nat) ∧ e 3 = .pointer (some ⟨h.length, 0, none⟩) ∧ e 9 = v5 ∧ e 108 = .int .i64 ((l.length : Nat) : Int) ∧ e 109 = .int .i64 (j : Nat) ∧
      MI c u6 h6 ∧ Exx c.M h1 h6 ∧ h3.length < h6.length ∧ (∀ j, u6 j → u j ∨ h1.length ≤ j) ∧ ¬ u6 h3.length ∧ BR h6 h3.length c.w.length v5 (MOr (scOf c.x).fd (scOf c.x).T (St c) (l.take j) a)) l.length
      ⟨0, u, Nat.zero_le _, rfl, rfl, rfl, rfl, rfl, rfl, rfl, m5, X5, by omega, fun j hj => .inl hj, fun hu => by have := (m3.ub _ hu).2; omega, b5.congr fun x => by rw [List.take_zero, MOr]⟩ ?_
    rintro I mm e h6 ⟨j, u6, hj6, hmm, f1, f2, f3, f9, f108, f109, m6, x6, l6, s6, nu6, b6⟩ ih
    rw [f1, f2, f3, f9, f108, f109]
    refine w_lss (c_dec (fun r => ?_) (fun r => ?_))
    · obtain ⟨mj, hmj⟩ := getElem?_of_lt (l := l) (i := j) (by omega)
      obtain ⟨id, off, cap, hsl, pmj⟩ := hsub j mj hmj
      have g16 := x6.some g1 pM
      refine w_rdP g16 (v := .pointer (some ⟨c.r, 0, none⟩)) rfl (w_nilc (w_offP (w_rdP (m6.x.some gp hpM) (v := .slice sa l.length scp) c2 ?_)))
      rw [hsl]
      refine w_some (v := .pointer (some ⟨id, off + j * 3, none⟩)) ?_ ?_
      · show (if 0 ≤ ((j : Nat) : Int) ∧ ((j : Nat) : Int) < ((l.length : Nat) : Int) then some (Value.pointer (some ⟨id, off + ((j : Nat) : Int).toNat * 3, none⟩)) else none) = _
        rw [if_pos (by omega)]
        simp
      refine low mj a (Nat.le_refl _) ha (okML_get l okl mj (List.mem_of_getElem? hmj)) (by have := hszl j mj hmj; omega) (.inr (hszl j mj hmj)) u6 h6 _ _ _ m6 pmj fun u7 h7 v7 i7 m7 x7 s7 hu7 b7 => ?_
      have nu7 : ¬ u7 h3.length := fun hu => (s7 _ hu).elim nu6 fun h => by omega
      refine join83 (b6.keep (x7.get _ b6.lt (by omega))) b7 (fun e => nu7 (by rw [e]; exact hu7)) (by omega) fun h8 x8 l8 b8 => w_add (by omega) (by omega) ?_
      have X8 := x6.trans x7
      refine ih (l.length - (j + 1)) _ _ (by omega) ⟨j + 1, u7, by omega, rfl, f1, f2, f3, f9, f108, rfl, m7.set ok (by omega) nu7 x8, ⟨Nat.le_trans X8.len x8.len, fun y hy hyM => ?_⟩, by have := x7.len; omega, fun y hy => (s7 y hy).elim (s6 y) fun h => .inr (by have := x6.len; omega), nu7, b8.congr fun x => ?_⟩
      · rw [x8.get y (Nat.lt_of_lt_of_le hy X8.len) (by omega)]
        exact X8.get y hy hyM
      · rw [take_succ_get hmj]
        exact (MOr_snoc _ _ _ _).symm
    · refine hj _ h6 u6 v5 h3.length f1 f2 f3 f9 m6 x6 s6 (by omega) (b6.congr fun x => ?_)
      rw [Rw_mk, List.take_of_length_le (by omega)]
      constructor
      · exact fun h => .inr (.inr (.inr (.inr (.inr (.inl ⟨q, h⟩)))))
      · intro hr
        rcases hr with ⟨h, _⟩ | ⟨h, _⟩ | ⟨h, _⟩ | ⟨h, _⟩ | ⟨h, _⟩ | ⟨_, h⟩ | ⟨h, _⟩ | ⟨h, _⟩ | ⟨h, _⟩
        case inr.inr.inr.inr.inr.inl => exact h
        all_goals omega
  refine joinE_intro (fun e h4 => e 1 = .pointer (some ⟨p, o, none⟩) ∧ e 2 = .int .i64 (a : Nat) ∧ e 3 = .pointer (some ⟨h.length, 0, none⟩) ∧ e 9 = v30 ∧ e 10 = .func (.func 77) #[] #[.pointer (some ⟨h.length, 0, none⟩)] ∧ e 124 = .bool (decide (kk = 7 ∨ kk = 8 ∨ kk = 9)) ∧ h3 = h4) ?_ ?_
  case refine_2 =>
    intro J1 hJ1
    refine w_eql (c_dec (fun q7 => hJ1 _ _ ⟨rfl, rfl, rfl, rfl, rfl, congrArg Value.bool (decide_eq_decide.2 ⟨fun _ => by omega, fun _ => by omega⟩), rfl⟩) (fun q7 => ?_))
    refine w_eql (c_dec (fun q8 => hJ1 _ _ ⟨rfl, rfl, rfl, rfl, rfl, congrArg Value.bool (decide_eq_decide.2 ⟨fun _ => by omega, fun _ => by omega⟩), rfl⟩) (fun q8 => ?_))
    exact w_eql (hJ1 _ _ ⟨rfl, rfl, rfl, rfl, rfl, congrArg Value.bool (decide_eq_decide.2 ⟨fun _ => by omega, fun _ => by omega⟩), rfl⟩)
  rintro e h4 ⟨f1, f2, f3, f9, f10, f124, rfl⟩
  rw [f124]
  refine c_dec (fun q => ?_) (fun q => ?_)
  rotate_left
  · refine hj _ h3 u v30 h1.length f1 f2 f3 f9 m3 X3 (fun j hj => .inl hj) (Nat.le_refl _) (b0.congr fun x => ?_)
    rw [Rw_mk]
    constructor
    · rintro rfl
      exact .inl ⟨by omega, rfl⟩
    · intro hr
      rcases hr with ⟨_, h⟩ | ⟨h, _⟩ | ⟨h, _⟩ | ⟨h, _⟩ | ⟨h, _⟩ | ⟨h, _⟩ | ⟨h, _⟩ | ⟨h, _⟩ | ⟨h, _⟩
      case inl => exact h.symm
      all_goals omega
  obtain ⟨m0, rfl⟩ : ∃ m0, l = [m0] := by
    rcases cases_ with ⟨h, _⟩ | ⟨h, _⟩ | ⟨h, _⟩ | ⟨_, h, _⟩
    case inr.inr.inr => exact h
    all_goals omega
  have hmj : [m0][0]? = some m0 := rfl
  obtain ⟨id, off, cap, hsl, pmj⟩ := hsub 0 m0 hmj
  have okm0 := okML_get [m0] okl m0 (List.mem_of_getElem? hmj)
  have szm0 := hszl 0 m0 hmj
  have hMC : ∀ k, a ≤ k → k ≤ c.w.length → MC c m0 k := fun k h1 h2 => low m0 k h1 h2 okm0 (by omega) (.inr szm0)
  have rw_ : ∀ x, Rw c (.mk kk n [m0]) a x ↔ (kk = 7 ∧ RT (Rw c m0) a x) ∨ (kk = 8 ∧ ∃ y, Rw c m0 a y ∧ RT (Rw c m0) y x) ∨ (kk = 9 ∧ (a = x ∨ Rw c m0 a x)) := by
    intro x
    rw [Rw_mk, MHd_one]
    constructor
    · intro hr
      rcases hr with ⟨h, _⟩ | ⟨h, _⟩ | ⟨h, _⟩ | ⟨h, _⟩ | ⟨h, _⟩ | ⟨h, _⟩ | h | h | h
      case inr.inr.inr.inr.inr.inr.inl => exact .inl h
      case inr.inr.inr.inr.inr.inr.inr.inl => exact .inr (.inl h)
      case inr.inr.inr.inr.inr.inr.inr.inr => exact .inr (.inr h)
      all_goals omega
    · rintro (h | h | h)
      · exact .inr (.inr (.inr (.inr (.inr (.inr (.inl h))))))
      · exact .inr (.inr (.inr (.inr (.inr (.inr (.inr (.inl h)))))))
      · exact .inr (.inr (.inr (.inr (.inr (.inr (.inr (.inr h)))))))
  rw [f1, f2, f3, f9, f10]
  have t1 : ¬ ¬ (((([m0] : List Mdl).length : Nat) : Int) = 1) := fun h => h rfl
  refine w_nilc (w_offP (w_rdP gp3 (v := .slice sa ([m0] : List Mdl).length scp) c2 (w_lenSl (w_neq (c_ff t1 ?_)))))
  refine w_rdP g13 (v := .pointer (some ⟨c.r, 0, none⟩)) rfl (w_nilc (w_offP (w_rdP gp3 (v := .slice sa ([m0] : List Mdl).length scp) c2 ?_)))
  rw [hsl]
  have ix : pIdxS 3 (.slice (some ⟨id, off, none⟩) ([m0] : List Mdl).length cap) (.int .i64 0) = some (.pointer (some ⟨id, off + 0 * 3, none⟩)) := rfl
  refine w_some ix ?_
  refine hMC a (Nat.le_refl _) ha u h3 _ _ _ m3 pmj fun u5 h5 v5 i5 m5 x5 s5 hu5 b5 => ?_
  refine clone84 b5 (by omega) fun v6 i6 h6 x6 l60 l61 b6 => ?_
  have m6 := m5.ext ok x6
  have X6 : Exx c.M h1 h6 := (X3.trans x5).ex x6
  have l15 := (X3.trans x5).len
  have s6 : ∀ j, u5 j → u j ∨ h1.length ≤ j := fun j hj => (s5 j hj).imp (fun h => h) fun h => by omega
  have nu6 : ¬ u5 i6 := fun hu => by have := (m5.ub _ hu).2; omega
  have b06 : BR h6 h1.length c.w.length v30 (fun x => x = a) := (b0.keep (x5.get _ b0.lt (by omega))).keep (x6.get _ (by have := b0.lt; have := x5.len; omega))
  have nu61 : ¬ u5 h1.length := fun hu => (s5 _ hu).elim nu1 fun h => by omega
  refine w_nilc (w_offP (w_rdP (m6.x.some gp hpM) (v := .int .i64 kk) c0 (w_neq ?_)))
  refine c_dec (fun r9 => ?_) (fun r9 => ?_)
  · have g16 := X6.some g1 pM
    refine w_rdP g16 (v := .pointer (some ⟨c.r, 0, none⟩)) rfl (w_nilc (w_offP (w_rdP (m6.x.some gp hpM) (v := .slice sa ([m0] : List Mdl).length scp) c2 ?_)))
    rw [hsl]
    refine w_some ix ?_
    refine call77 fun h7 x7 l7 g7 => ⟨idrow g16 (x7.some g16), ?_⟩
    have m7 := m6.ext ok x7
    refine often79 ok m7 (b6.keep (x7.get _ l61)) (lo := a) (fun y hy => MR_le hy) (way78 (x7.some g16) g7 pM (by have := X6.len; omega) pmj hMC) (fun a' y _ hy => MR_le hy) fun u8 h8 v8 i8 m8 x8 s8 hi8 nu8 b8 => ?_
    have X8 : Exx c.M h1 h8 := (X6.ex x7).trans x8
    have s8' : ∀ j, u8 j → u j ∨ h1.length ≤ j := fun j hj => (s8 j hj).elim (s6 j) fun h => .inr (by have := X6.len; omega)
    refine w_nilc (w_offP (w_rdP (m8.x.some gp hpM) (v := .int .i64 kk) c0 (w_neq ?_)))
    refine c_dec (fun r8 => ?_) (fun r8 => ?_)
    · have b08 : BR h8 h1.length c.w.length v30 (fun x => x = a) := b06.keep ((x8.get _ (by have := b06.lt; omega) (by omega)).trans (x7.get _ b06.lt))
      refine join83 b8 b08 (by have := X6.len; have := b06.lt; omega) (by omega) fun h9 x9 l9 b9 => ?_
      refine hj _ h9 u8 v8 i8 f1 f2 f3 rfl (m8.set ok (by omega) nu8 x9) ⟨Nat.le_trans X8.len x9.len, fun y hy hyM => ?_⟩ s8' (by have := X6.len; omega) (b9.congr fun x => ?_)
      · rw [x9.get y (Nat.lt_of_lt_of_le hy X8.len) (by have := X6.len; omega)]
        exact X8.get y hy hyM
      · rw [rw_]
        constructor
        · rintro (⟨y, h1, h2⟩ | rfl)
          · exact .inl ⟨by omega, .cons h1 h2⟩
          · exact .inl ⟨by omega, .nil _⟩
        · rintro (⟨_, h⟩ | ⟨h, _⟩ | ⟨h, _⟩)
          · cases h with
            | nil => exact .inr rfl
            | cons h1 h2 => exact .inl ⟨_, h1, h2⟩
          · exact absurd h r8
          · exact absurd h r9
    · have e8 : kk = 8 := Classical.not_not.1 r8
      refine hj _ h8 u8 v8 i8 f1 f2 f3 rfl m8 X8 s8' (by have := X6.len; omega) (b8.congr fun x => ?_)
      rw [rw_]
      constructor
      · exact fun h => .inr (.inl ⟨e8, h⟩)
      · rintro (⟨h, _⟩ | ⟨_, h⟩ | ⟨h, _⟩)
        · omega
        · exact h
        · omega
  · have e9 : kk = 9 := Classical.not_not.1 r9
    have t8 : ¬ (kk = 8) := by omega
    refine w_nilc (w_offP (w_rdP (m6.x.some gp hpM) (v := .int .i64 kk) c0 (w_neq (c_tt t8 ?_))))
    refine join83 b6 b06 (by have := b0.lt; have := x5.len; have := x3.len; omega) (by omega) fun h9 x9 l9 b9 => ?_
    refine hj _ h9 u5 v6 i6 f1 f2 f3 rfl (m6.set ok (by omega) nu6 x9) ⟨Nat.le_trans X6.len x9.len, fun y hy hyM => ?_⟩ s6 (by omega) (b9.congr fun x => ?_)
    · rw [x9.get y (Nat.lt_of_lt_of_le hy X6.len) (by omega)]
      exact X6.get y hy hyM
    · rw [rw_]
      constructor
      · rintro (h | rfl)
        · exact .inr (.inr ⟨e9, .inr h⟩)
        · exact .inr (.inr ⟨e9, .inl rfl⟩)
      · rintro (⟨h, _⟩ | ⟨h, _⟩ | ⟨_, rfl | h⟩)
        · omega
        · omega
        · exact .inr rfl
        · exact .inl h
end Go.Proofs.Ytlenlhlipmkeeaa.W
end

section
/- Schema's laws: the program's Has: whether a schema has a word. Conditions: none. -/
namespace Go.Proofs.Ytlenlhlipmkeeaa.W
open Go Go.AM SchM
set_option linter.unusedVariables false
set_option maxRecDepth 100000
structure Hok (x : W × List (W × Mdl)) : Prop where
  nd : (x.2.map (·.1)).Nodup
  ok : ∀ e ∈ x.2, okM e.2 = true ∧ sz e.2 ≤ 100000000000
  T : x.2.length ≤ 100000000000
abbrev Hs (x : W × List (W × Mdl)) (w : List Int) : Prop := HasW (scOf x) x.1 w
set_option maxHeartbeats 2000000 in
theorem has22 {h : AH} {b : Nat} {x : W × List (W × Mdl)} {v wv : Value} {w : List Int} {K : Value → AH → Prop} (hx : Hok x) (s : SH h b x v) (hw : SlT 1 eI h wv w) (hn : w.length ≤ 100000000000)
    (k : ∀ (t : Bool) h', Ex h h' → (t = true ↔ Hs x w) → K (.bool t) h') : callW Try.prog 22 [v, wv] h K := by
  obtain ⟨root, l⟩ := x
  obtain ⟨a, cp, cs, rfl, sl, on, el⟩ := s
  obtain ⟨wa, wc, rfl⟩ := hw.shape
  have hT := hx.T
  dsimp only at sl on el hT
  refine c22 ?_
  unfold s22
  refine n_boxv rfl fun h1 x1 l1 g1 => ?_
  have g1 : h1[h.length]? = some (.row [.string (bs root), .slice a l.length cp] true) := g1
  refine w_rdPA g1 (Nat.le_refl 2) ?_
  refine n_newv fun h2 x2 l2 g2 => ?_
  refine w_some (v := .agg #[.string (bs root), .slice a l.length cp, .slice wa w.length wc, .map (some h1.length)]) rfl ?_
  refine n_boxv rfl fun h3 x3 l3 g3 => ?_
  have g3 : h3[h2.length]? = some (rdr (.string (bs root)) (.slice a l.length cp) (.slice wa w.length wc) h1.length) := g3
  have X3 : Ex h h3 := x1.trans (x2.trans x3)
  let c : Hc := ⟨h3, h2.length, h1.length, .slice a l.length cp, .slice wa w.length wc, w, (root, l)⟩
  have hG : ∀ j, (b ≤ j ∧ j < h.length) ∧ Wr h j → c.G j := fun j hj => ⟨by show j ≠ h1.length; omega, X3.lt hj.1.2, hj.2.keep (X3.get j hj.1.2)⟩
  have ok : HcOK c := {
    rd := g3
    ls := ⟨a, cp, cs, rfl, sl.ex X3, fun j hj => hG j (on j hj), EL.mono (fun j hj => ⟨X3.get j hj.1.2, hG j hj⟩) _ _ el⟩
    ws := hw.ex X3
    n := hn
    T := hT
    mp := ⟨[], 0, x3.some g2⟩ }
  have m3 : MI c (fun _ => False) h3 := ⟨.refl _ _, ⟨[], 0, x3.some g2, fun e he => by cases he⟩, fun i hi => hi.elim⟩
  have g13 := (x2.trans x3).some g1
  refine w_offP (w_rdP g13 (v := .slice a l.length cp) rfl (w_lenSl ?_))
  refine loopE_intro (fun mm e h4 => ∃ j : Nat, j ≤ l.length ∧ mm = l.length - j ∧ e 1 = .slice wa w.length wc ∧ e 2 = .pointer (some ⟨h.length, 0, none⟩) ∧ e 5 = .pointer (some ⟨h2.length, 0, none⟩) ∧ e 14 = .slice a l.length cp ∧ e 15 = .int .i64 ((l.length : Nat) : Int) ∧ e 16 = .int .i64 (j : Nat) ∧ Ex h3 h4 ∧ ∀ j' e', j' < j → l[j']? = some e' → e'.1 ≠ root) l.length
    ⟨0, Nat.zero_le _, rfl, rfl, rfl, rfl, rfl, rfl, rfl, Ex.refl _, fun j' e' h => by omega⟩ ?_
  rintro I mm e h4 ⟨j, hj, hmm, e1, e2, e5, e14, e15, e16, x4, hno⟩ ih
  rw [e1, e2, e5, e14, e15, e16]
  refine w_lss (c_dec (fun r => ?_) (fun r => ?_))
  · obtain ⟨ee, hel⟩ := getElem?_of_lt (l := l) (i := j) (by omega)
    obtain ⟨id, off, cap, cc, k', n', a', l', cp', hL', gid, idM, hle', ht4, pm'⟩ := elAt (c := c) ok hel
    have hL' : Value.slice a l.length cp = .slice (some ⟨id, off, none⟩) l.length cap := hL'
    rw [hL']
    refine w_some (v := .pointer (some ⟨id, off + j * 4, none⟩)) ?_ ?_
    · show (if 0 ≤ ((j : Nat) : Int) ∧ ((j : Nat) : Int) < ((l.length : Nat) : Int) then some (Value.pointer (some ⟨id, off + ((j : Nat) : Int).toNat * 4, none⟩)) else none) = _
      rw [if_pos (by omega)]
      simp
    refine w_rdPA (x4.some gid) hle' ?_
    rw [ht4]
    refine n_var rfl rfl rfl fun h5 x5 l5 g5 => ?_
    have g5 : h5[h4.length]? = some (.row [.string (bs ee.1), .int .i64 k', .string (bs n'), .slice a' l' cp'] true) := g5
    refine w_offP (w_rdP g5 (v := .string (bs ee.1)) rfl (w_offP (w_rdP ((x4.trans x5).some g13) (v := .string (bs root)) rfl (w_seql ?_))))
    refine c_dec (fun r2 => ?_) (fun r2 => ?_)
    · have m5 := m3.ext ok (x4.trans x5)
      have hmc : 0 < w.length → MC c ee.2 (0 + 1) := fun hlt => model67 ok hx.nd hx.ok _ 1 rfl hlt _ ee.2 rfl (hx.ok ee (List.mem_of_getElem? hel)).2 (hx.ok ee (List.mem_of_getElem? hel)).1
      refine element48 (c := c) ok hel (a := 0) (Nat.zero_le _) hmc _ h5 _ m5 fun u6 h6 v6 i6 m6 x6 s6 hi6 nu6 b6 => ?_
      refine w_lenSl ?_
      refine b6.rd (j := w.length) (Nat.le_refl _) fun t ht => ?_
      refine k t h6 ⟨Nat.le_trans (X3.trans (x4.trans x5)).len x6.len, fun y hy => ?_⟩ (ht.trans ?_)
      · rw [x6.get y (Nat.lt_of_lt_of_le hy (X3.trans (x4.trans x5)).len) (by show y ≠ h1.length; omega)]
        exact (X3.trans (x4.trans x5)).get y hy
      · constructor
        · intro hst
          exact ⟨j, (fd_iff hx.nd root j).2 ⟨ee, hel, r2⟩, by show j < l.length; omega, hst⟩
        · rintro ⟨k1, hf, _, hst⟩
          have := (fd_iff hx.nd root j).2 ⟨ee, hel, r2⟩
          have : (k1 : Int) = (j : Int) := hf.symm.trans this
          have : k1 = j := by omega
          subst this
          exact hst
    · refine w_add (by omega) (by omega) (ih (l.length - (j + 1)) _ _ (by omega) ⟨j + 1, by omega, rfl, e1, e2, e5, e14, e15, rfl, x4.trans x5, fun j' e' h1 h2 => ?_⟩)
      by_cases ej : j' = j
      · subst ej
        rw [hel] at h2
        cases h2
        exact r2
      · exact hno j' e' (by omega) h2
  · refine k false h4 (X3.trans x4) ⟨fun h => absurd h Bool.false_ne_true, ?_⟩
    rintro ⟨k1, hf, _, _⟩
    obtain ⟨e', h1, h2⟩ := (fd_iff hx.nd root k1).1 hf
    have : k1 < l.length := get_lt h1
    exact absurd h2 (hno k1 e' (by omega) h1)
end Go.Proofs.Ytlenlhlipmkeeaa.W
end

section
/- Schema's laws: the document's tree: whether a part of a word is an element's. Conditions: none. -/
namespace Go.Proofs.Ytlenlhlipmkeeaa.W
open Go Go.AM SchM
set_option linter.unusedVariables false
set_option maxRecDepth 100000
theorem MT.rd0 {h : AH} {lo n : Nat} {v : Value} {P : Nat → Nat → Prop} (t : MT h lo n v P) {K : Value → Value → Prop} (k : ∀ p rv ij, BR h ij n rv (P 0) → K p rv) : optW (pIdxS 1 v (.int .i64 0)) fun p => optW (rdRow false 1 p h) fun x => K p x := t.rd (j := 0) (Nat.zero_le _) k
theorem partners_get {T : Nat} {w : List Int} {i : Nat} (hi : i < w.length) : (partners T w)[i]? = some ((mrun T w w.length).1 i) := by
  unfold partners
  rw [List.getElem?_map, List.getElem?_range hi]
  rfl
set_option maxHeartbeats 4000000 in
theorem tree49 {x : W × List (W × Mdl)} {w : List Int} (hx : Hok x) (hn : w.length ≤ 100000000000) (hin : ∀ c ∈ w, 0 ≤ c ∧ c ≤ 2 * (x.2.length : Int)) : ∀ (N fr to : Nat), to - fr ≤ N → fr < to → to ≤ w.length → ∀ (h : AH) (sv wv mv : Value) (K : Value → AH → Prop), SM h x sv → SlT 1 eI h wv w → SlT 1 eI h mv (partners x.2.length w) →
    (∀ (t : Bool) h', Ex h h' → (t = true ↔ ∃ k, k < x.2.length ∧ Stw (scOf x) w k fr to) → K (.bool t) h') → callW Try.prog 49 [sv, wv, mv, .int .i64 (fr : Nat), .int .i64 (to : Nat)] h K
  | 0, fr, to, hN, hft, _, _, _, _, _, _, _, _, _, _ => by omega
  | N + 1, fr, to, hN, hft, hto, h, sv, wv, mv, K, hs, hw, hm, k => by
    have hT := hx.T
    obtain ⟨La, Lc, Lcs, rfl, Lsl, Lel⟩ := id hs
    refine c49 ?_
    unfold s49
    refine n_boxv rfl fun h1 x1 l1 g1 => ?_
    have g1 : h1[h.length]? = some (.row [.string (bs x.1), .slice La x.2.length Lc] true) := g1
    have hw1 := hw.ex x1
    have hm1 := hm.ex x1
    obtain ⟨c, hc⟩ := getElem?_of_lt (l := w) (i := fr) (by omega)
    obtain ⟨hc0, hc1⟩ := hin c (List.mem_of_getElem? hc)
    have hpm : (partners x.2.length w)[fr]? = some ((mrun x.2.length w w.length).1 fr) := partners_get (by omega)
    obtain ⟨c2, hc2⟩ := getElem?_of_lt (l := w) (i := to - 1) (by omega)
    have eto : ((to : Nat) : Int) - 1 = ((to - 1 : Nat) : Int) := by omega
    have no : (¬ ∃ k, k < x.2.length ∧ Stw (scOf x) w k fr to) → K (.bool false) h1 := fun hno => k false h1 x1 ⟨fun h => absurd h Bool.false_ne_true, fun h => absurd h hno⟩
    refine w_idxN (enc := eI) eI_len hw1 hc fun pp hpp => w_rd1 hpp (x := .int .i64 c) rfl (w_quo (by decide) hc0 (by omega) ?_)
    refine w_idxN (enc := eI) eI_len hw1 hc fun pp hpp => w_rd1 hpp (x := .int .i64 c) rfl (w_rem (by decide) hc0 (w_neq ?_))
    by_cases q1 : ¬ c % 2 = 0
    · refine gd_ft q1 (gd_ft q1 (gd_ft q1 (gd_ft q1 (gd_ft q1 (pk_tt q1 ?_)))))
      refine gdc_ft (gdc_ft (gdc_ft (gdc_ft (gdc_ft (gdc_ft (gdc_ft (pk_t ?_)))))))
      refine gdc_ft (gdc_ft (gdc_ft (gdc_ft (gdc_ft (gdc_ft (gdc_ft (gdc_ft (gdc_ft (gdc_ft (gdc_ft (pk_t (c_t ?_))))))))))))
      refine no ?_
      rintro ⟨k', _, hst⟩
      have := (Stw_even hst).1
      rw [hc] at this
      have := Option.some.inj this
      omega
    refine gd_ff q1 (gd_ff q1 (w_offP (gd_ff q1 (hist_nil ?_))))
    refine w_rdP g1 (v := .slice La x.2.length Lc) rfl ?_
    refine gd_ff q1 (w_lenSl (gd_ff q1 (w_geq (pk_ff q1 ?_))))
    have q1' : c % 2 = 0 := Classical.not_not.1 q1
    by_cases q2 : ((x.2.length : Nat) : Int) ≤ c / 2
    · refine gd_ft q2 (gd_ft q2 (gd_ft q2 (gd_ft q2 (gd_ft q2 (gd_ft q2 (gd_ft q2 (pk_tt q2 ?_)))))))
      refine gdc_ft (gdc_ft (gdc_ft (gdc_ft (gdc_ft (gdc_ft (gdc_ft (gdc_ft (gdc_ft (gdc_ft (gdc_ft (pk_t (c_t ?_))))))))))))
      refine no ?_
      rintro ⟨k', hk, hst⟩
      have := (Stw_even hst).1
      rw [hc] at this
      have := Option.some.inj this
      omega
    refine gd_ff q2 (gd_ff q2 (gd_ff q2 ?_))
    refine w_idxN (enc := eI) eI_len hm1 hpm fun pp hpp => ?_
    refine gd_ff q2 (hist_nil ?_)
    refine w_rd1 hpp (x := .int .i64 ((mrun x.2.length w w.length).1 fr)) rfl ?_
    refine gd_ff q2 (gd_ff q2 (w_sub (by omega) (by omega) (gd_ff q2 (w_neq (pk_ff q2 ?_)))))
    obtain ⟨kN, hkN⟩ : ∃ kN : Nat, c / 2 = (kN : Int) := ⟨(c / 2).toNat, by omega⟩
    have hkT : kN < x.2.length := by omega
    have hck : c = 2 * (kN : Int) := by omega
    rw [eto]
    by_cases q3 : ¬ (mrun x.2.length w w.length).1 fr = ((to - 1 : Nat) : Int)
    · refine gd_ft q3 (gd_ft q3 (gd_ft q3 (gd_ft q3 (gd_ft q3 (gd_ft q3 (gd_ft q3 (gd_ft q3 (gd_ft q3 (gd_ft q3 (gd_ft q3 (pk_tt q3 (c_t ?_))))))))))))
      refine no ?_
      rintro ⟨k', hk, hst⟩
      have e5 : (mrun x.2.length w w.length).1 fr = ((to : Nat) : Int) - 1 := Stw_partner hst hk hto
      exact q3 (by omega)
    have q3' := Classical.not_not.1 q3
    refine gd_ff q3 (gd_ff q3 (gd_ff q3 (w_sub (by omega) (by omega) (gd_ff q3 ?_))))
    rw [eto]
    refine w_idxN (enc := eI) eI_len hw1 hc2 fun pp hpp => ?_
    refine gd_ff q3 (hist_nil ?_)
    refine w_rd1 hpp (x := .int .i64 c2) rfl ?_
    refine gd_ff q3 (gd_ff q3 (gd_ff q3 ?_))
    refine w_idxN (enc := eI) eI_len hw1 hc fun pp hpp => ?_
    refine gd_ff q3 (hist_nil ?_)
    refine w_rd1 hpp (x := .int .i64 c) rfl ?_
    refine gd_ff q3 (w_add (by omega) (by omega) (gd_ff q3 (w_neq (pk_ff q3 ?_))))
    refine c_dec (fun q4 => ?_) (fun q4 => ?_)
    · refine no ?_
      rintro ⟨k', hk, hst⟩
      have e1 := (Stw_even hst).1
      rw [hc] at e1
      have e1 := Option.some.inj e1
      rcases (Stw_iff _ _ _ _ _).1 hst with ⟨h1, _⟩ | ⟨_, _, j', _, h2, h3⟩
      · have : k' = x.2.length := h1
        omega
      · have : j' = to - 1 := by omega
        subst this
        rw [hc2] at h2
        have := Option.some.inj h2
        omega
    have q4' : c2 = c + 1 := Classical.not_not.1 q4
    have hstep : ∀ k', (k' < x.2.length ∧ Stw (scOf x) w k' fr to) ↔ (k' = kN ∧ MR (scOf x).fd (scOf x).T (Stw (scOf x) w) ((scOf x).ms kN) (fr + 1) (to - 1)) := by
      intro k'
      constructor
      · rintro ⟨hk, hst⟩
        have e1 := (Stw_even hst).1
        rw [hc] at e1
        have e1 := Option.some.inj e1
        have ek : k' = kN := by omega
        subst ek
        rcases (Stw_iff _ _ _ _ _).1 hst with ⟨h1, _⟩ | ⟨_, _, j', h1, h2, h3⟩
        · have : k' = x.2.length := h1
          omega
        · have : j' = to - 1 := by omega
          subst this
          exact ⟨rfl, h1⟩
      · rintro ⟨rfl, h1⟩
        refine ⟨hkT, (Stw_iff _ _ _ _ _).2 (.inr ⟨hkT, by rw [hc, hck], to - 1, h1, by rw [hc2, q4', hck], by omega⟩)⟩
    have hend : ∀ c' j, ¬ Stw (scOf x) w c' (to - 1) j := by
      intro c' j hst
      have e1 := (Stw_even hst).1
      rw [hc2] at e1
      have e1 := Option.some.inj e1
      omega
    have nogo : (¬ MR (scOf x).fd (scOf x).T (Stw (scOf x) w) ((scOf x).ms kN) (fr + 1) (to - 1)) → ¬ ∃ k, k < x.2.length ∧ Stw (scOf x) w k fr to := by
      rintro h1 ⟨k', h2⟩
      exact h1 ((hstep k').1 h2).2
    have hr40 : (1000000000000 : Nat) < room40 := by decide
    refine w_add (by omega) (by omega) ?_
    refine loopE_intro (fun mm e h2 => ∃ (i : Nat) (row : List Nat) (v12 : Value), fr + 1 ≤ i ∧ i ≤ to - 1 ∧ mm = to - 1 - i ∧ e 1 = wv ∧ e 2 = mv ∧ e 4 = .int .i64 (to : Nat) ∧ e 5 = .pointer (some ⟨h.length, 0, none⟩) ∧ e 11 = .int .i64 (c / 2) ∧ e 12 = v12 ∧ e 13 = .int .i64 (i : Nat) ∧ Ex h1 h2 ∧
        Pth (Stw (scOf x) w) (fr + 1) i row ∧ row.length ≤ i ∧ OwnG 1 (fun j => h1.length ≤ j) h2 v12 row.length (flat eI (row.map fun c : Nat => (c : Int)))) (to - 1 - (fr + 1))
      ⟨fr + 1, [], _, Nat.le_refl _, by
        rcases Nat.lt_or_ge fr (to - 1) with h | h
        · omega
        · have e1 : fr = to - 1 := by omega
          rw [← e1, hc] at hc2
          have := Option.some.inj hc2
          omega, rfl, rfl, rfl, rfl, rfl, rfl, rfl, congrArg (Value.int .i64) (by omega), Ex.refl _, .nil _, by simp, OwnG.nil _ _ _⟩ ?_
    rintro I mm e h2 ⟨i, row, v12, hi1, hi2, hmm, f1, f2, f4, f5, f11, f12, f13, x2, pth, hrl, o⟩ ih
    rw [f1, f2, f4, f5, f11, f12, f13]
    have X2 := x1.trans x2
    have g2 := x2.some g1
    have hw2 := hw.ex X2
    have hm2 := hm.ex X2
    have no2 : ∀ h3, Ex h2 h3 → (¬ ∃ k, k < x.2.length ∧ Stw (scOf x) w k fr to) → K (.bool false) h3 := fun h3 x3 hno => k false h3 (X2.trans x3) ⟨fun h => absurd h Bool.false_ne_true, fun h => absurd h hno⟩
    refine w_sub (by omega) (by omega) ?_
    rw [eto]
    refine w_lss (c_dec (fun r => ?_) (fun r => ?_))
    · obtain ⟨ci, hci⟩ := getElem?_of_lt (l := w) (i := i) (by omega)
      obtain ⟨hci0, hci1⟩ := hin ci (List.mem_of_getElem? hci)
      have hpi : (partners x.2.length w)[i]? = some ((mrun x.2.length w w.length).1 i) := partners_get (by omega)
      have hbd := mrun_in x.2.length w w.length i (by omega) (Nat.le_refl _)
      refine w_idxN (enc := eI) eI_len hw2 hci fun pp hpp => w_rd1 hpp (x := .int .i64 ci) rfl ?_
      refine w_offP (w_rdP g2 (v := .slice La x.2.length Lc) rfl (w_lenSl (w_mul (by omega) (by omega) (w_eql ?_))))
      have more : ∀ {h3 : AH} (cN i' : Nat) {K3 : Value → AH → Prop}, Ex h2 h3 → Stw (scOf x) w cN i i' →
          (∀ v' h5, Ex h1 h5 → OwnG 1 (fun j => h1.length ≤ j) h5 v' (row ++ [cN]).length (flat eI ((row ++ [cN]).map fun c : Nat => (c : Int))) → K3 v' h5) →
          optW (bldSl 1 [(.int .i64 0)] 1 [(0, .int .i64 ((cN : Nat) : Int))]) fun c_1 => newW none (.row c_1 true) h3 fun i_1 h_4 => appSl 1 v12 (.slice (some ⟨i_1, 0, none⟩) 1 1) h_4 fun v34 h_5 => K3 v34 h_5 := by
        intro h3 cN i' K3 x3 hst k3
        have o3 := o.mono (F' := fun j => h1.length ≤ j) (h' := h3) (fun _ _ h => h) fun j hj _ => x3.get j (o.on hj).2
        refine w_some (bldSl_one (v := .int .i64 ((cN : Nat) : Int)) rfl (by decide) rfl rfl) ?_
        refine n_newv fun h4 x4 l4 g4 => ?_
        refine appSl_of (app_g (by decide) (o3.mono (F' := fun j => h1.length ≤ j) (h' := h4) (fun _ _ h => h) fun j hj _ => x4.get j (o3.on hj).2) (srcL_new (n := 1) (s := 1) g4 (by decide) rfl) rfl (by omega) fun v' h5 a1 a2 a3 a4 => ?_)
        have hx2 := x2.len
        have hx3 := x3.len
        refine k3 v' h5 ⟨by omega, fun j hj => ?_⟩ ?_
        · rw [a3 j (by omega) (fun hon => by have := (o.on hon).1; omega), x4.get j (by omega), x3.get j (by omega)]
          exact x2.get j hj
        · rw [List.map_append, flat_append, List.length_append]
          exact a1.mono (fun j hj hF => hF.elim (fun h => h) fun h => by show h1.length ≤ j; omega) fun _ _ _ => rfl
      refine c_dec (fun r2 => ?_) (fun r2 => ?_)
      · refine w_offP (w_rdP g2 (v := .slice La x.2.length Lc) rfl (w_lenSl ?_))
        have hst : Stw (scOf x) w x.2.length i (i + 1) := (Stw_iff _ _ _ _ _).2 (.inl ⟨rfl, by rw [hci, r2]; rfl, rfl⟩)
        refine more x.2.length (i + 1) (Ex.refl _) hst fun v' h5 x5 o5 => w_add (by omega) (by omega) ?_
        exact ih (to - 1 - (i + 1)) _ _ (by omega) ⟨i + 1, row ++ [x.2.length], v', by omega, by omega, rfl, f1, f2, f4, f5, f11, rfl, congrArg (Value.int .i64) (by omega), x5, pth.snoc hst, by rw [List.length_append]; show row.length + 1 ≤ i + 1; omega, o5⟩
      · -- a child
        have stk : (∀ c' j, Stw (scOf x) w c' i j → ¬ j ≤ to - 1) → ¬ ∃ k, k < x.2.length ∧ Stw (scOf x) w k fr to := fun hno => nogo fun hmr => SchM.stuck pth (by omega) hno (MR_any _ hmr)
        have child : ∀ c' j, Stw (scOf x) w c' i j → c' < x.2.length ∧ (mrun x.2.length w w.length).1 i = (j : Int) - 1 := by
          intro c' j hst
          have hcl : c' < x.2.length := by
            rcases (Stw_iff _ _ _ _ _).1 hst with ⟨h1, h2, _⟩ | ⟨h1, _⟩
            · rw [hci] at h2
              exact absurd (Option.some.inj h2) r2
            · exact h1
          exact ⟨hcl, Stw_partner hst hcl (Stw_lt hst).2⟩
        refine w_idxN (enc := eI) eI_len hm2 hpi fun pp hpp => w_rd1 hpp (x := .int .i64 ((mrun x.2.length w w.length).1 i)) rfl (w_add (by omega) (by omega) (w_leq ?_))
        generalize hmi : (mrun x.2.length w w.length).1 i = mi at *
        by_cases q5 : mi + 1 ≤ ((i : Nat) : Int)
        · refine g_ft q5 (g_ft q5 (g_ft q5 (g_ft q5 (pk_tt q5 ?_))))
          refine gc_ft (gc_ft (gc_ft (gc_ft (gc_ft (gc_ft (gc_ft (pk_t (c_t ?_))))))))
          refine no2 _ (Ex.refl _) (stk fun c' j hst _ => ?_)
          have := (child c' j hst).2
          have := Stw_lt hst
          omega
        refine g_ff q5 (g_ff q5 (g_ff q5 (w_sub (by omega) (by omega) (g_ff q5 (w_gtr (pk_ff q5 ?_))))))
        rw [eto]
        by_cases q6 : ((to - 1 : Nat) : Int) < mi + 1
        · refine g_ft q6 (g_ft q6 (g_ft q6 (g_ft q6 (g_ft q6 (g_ft q6 (g_ft q6 (pk_tt q6 (c_t ?_))))))))
          refine no2 _ (Ex.refl _) (stk fun c' j hst hj => ?_)
          have := (child c' j hst).2
          omega
        obtain ⟨e', he'⟩ : ∃ e' : Nat, mi + 1 = (e' : Int) := ⟨(mi + 1).toNat, by omega⟩
        rw [he'] at q6
        rw [he']
        refine g_ff q6 ?_
        refine w_rdPA g2 (Nat.le_refl 2) ?_
        refine g_ff q6 (g_ff q6 (g_ff q6 (g_ff q6 (g_ff q6 ?_))))
        refine tree49 hx hn hin N i e' (by omega) (by omega) (by omega) h2 _ wv mv _ (hs.ex X2) hw2 hm2 fun t h3 x3 ht => ?_
        cases t with
        | false =>
          refine g_ff q6 ?_
          refine w_notb (pk_ff q6 (c_t ?_))
          refine no2 h3 x3 (stk fun c' j hst hj => ?_)
          obtain ⟨h4, h5⟩ := child c' j hst
          have : j = e' := by omega
          subst this
          exact absurd (ht.2 ⟨c', h4, hst⟩) Bool.false_ne_true
        | true =>
          refine g_ff q6 ?_
          refine w_notb (pk_ff q6 (c_f ?_))
          obtain ⟨c', hc', hst⟩ := ht.1 rfl
          have eci := (Stw_even hst).1
          rw [hci] at eci
          have eci := Option.some.inj eci
          refine w_idxN (enc := eI) eI_len (hw2.ex x3) hci fun pp hpp => w_rd1 hpp (x := .int .i64 ci) rfl (w_quo (by decide) hci0 (by omega) ?_)
          have e7 : ci / 2 = ((c' : Nat) : Int) := by omega
          rw [e7]
          refine more c' e' x3 hst fun v' h5 x5 o5 => ?_
          exact ih (to - 1 - e') _ _ (by omega) ⟨e', row ++ [c'], v', by omega, by omega, rfl, f1, f2, f4, f5, f11, rfl, rfl, x5, pth.snoc hst, by rw [List.length_append]; show row.length + 1 ≤ e'; have := Stw_lt hst; omega, o5⟩
    · have ei : i = to - 1 := by omega
      subst ei
      obtain ⟨el, hel⟩ := getElem?_of_lt (l := x.2) (i := kN) hkT
      obtain ⟨k1, n1, a1, ll, cp1, ecs, mh⟩ := EL.get _ _ Lel kN el hel
      refine w_rdPA g2 (Nat.le_refl 2) (w_offP (w_rdP g2 (v := .slice La x.2.length Lc) rfl ?_))
      rw [hkN]
      refine w_idx (Lsl.ex X2) (by omega) (by omega) fun p hp => ?_
      rw [Int.toNat_natCast, ecs] at hp
      refine w_off hp (by show 1 ≤ 4; decide) fun p' hp' => w_rdA hp' rfl ?_
      have hrow : SlT 1 eI h2 v12 (row.map fun c : Nat => (c : Int)) := by
        unfold SlT
        rw [List.length_map]
        exact o.sl
      obtain ⟨hok, hsz⟩ := hx.ok el (List.mem_of_getElem? hel)
      refine fits68 hT (by omega) (sz el.2) el.2 (Nat.le_refl _) hsz hok h2 _ _ v12 _ (hs.ex X2) (MH.mono (fun j hj => ⟨X2.get j hj, X2.lt hj⟩) _ _ mh) hrow fun v3 h3 x3 t3 => ?_
      refine t3.rd0 fun p3 rv ij b3 => ?_
      refine w_len o.sl ?_
      refine b3.rd (j := row.length) (Nat.le_refl _) fun t ht => ?_
      refine k t h3 (X2.trans x3) (ht.trans ?_)
      have ems : (scOf x).ms kN = el.2 := by show (x.2[kN]?.map (·.2)).getD _ = _; rw [hel]; rfl
      rw [ems] at hstep
      have hf := fits_iff pth hend el.2
      constructor
      · intro h
        exact ⟨kN, (hstep kN).2 ⟨rfl, hf.1 h⟩⟩
      · rintro ⟨k', hk'⟩
        exact hf.2 ((hstep k').1 hk').2
end Go.Proofs.Ytlenlhlipmkeeaa.W
end

section
/- Schema's laws: the document's Has. Conditions: none. -/
namespace Go.Proofs.Ytlenlhlipmkeeaa.W
open Go Go.AM SchM
set_option linter.unusedVariables false
set_option maxRecDepth 100000
theorem fd_bnd (x : W × List (W × Mdl)) (n : W) : -1 ≤ (scOf x).fd n ∧ (scOf x).fd n < x.2.length := by
  show -1 ≤ (x.2.findIdx? (fun e => decide (e.1 = n))).elim (-1) (fun i => (i : Int)) ∧ (x.2.findIdx? (fun e => decide (e.1 = n))).elim (-1) (fun i => (i : Int)) < _
  cases hf : x.2.findIdx? (fun e => decide (e.1 = n)) with
  | none => exact ⟨Int.le_refl _, by show (-1 : Int) < _; omega⟩
  | some i =>
    rw [List.findIdx?_eq_some_iff_getElem] at hf
    obtain ⟨hi, _⟩ := hf
    exact ⟨by show (-1 : Int) ≤ (i : Int); omega, by show (i : Int) < _; omega⟩
set_option maxHeartbeats 4000000 in
theorem has23 {h : AH} {x : W × List (W × Mdl)} {sv wv : Value} {w : List Int} {K : Value → AH → Prop} (hx : Hok x) (hs : SM h x sv) (hw : SlT 1 eI h wv w) (hn : w.length ≤ 100000000000)
    (k : ∀ (t : Bool) h', Ex h h' → (t = true ↔ Hs x w) → K (.bool t) h') : callW Try.prog 23 [sv, wv] h K := by
  have hT := hx.T
  obtain ⟨La, Lc, Lcs, rfl, Lsl, Lel⟩ := id hs
  refine c23 ?_
  unfold s23
  refine n_boxv rfl fun h1 x1 l1 g1 => ?_
  have g1 : h1[h.length]? = some (.row [.string (bs x.1), .slice La x.2.length Lc] true) := g1
  refine w_rdPA g1 (Nat.le_refl 2) ?_
  refine syms20 (hs.ex x1) hT fun v8 h2 x2 o2 => ?_
  have l20 : SlT 2 eSy h2 v8 (symsOf x) := o2.sl
  have sl := symsOf_len x
  have no : ∀ h3, Ex h2 h3 → ¬ Hs x w → K (.bool false) h3 := fun h3 x3 hno => k false h3 ((x1.trans x2).trans x3) ⟨fun h => absurd h Bool.false_ne_true, fun h => absurd h hno⟩
  refine loopE_intro (fun mm e h3 => ∃ j : Nat, j ≤ w.length ∧ mm = w.length - j ∧ e 1 = wv ∧ e 2 = .pointer (some ⟨h.length, 0, none⟩) ∧ e 5 = v8 ∧ e 6 = .int .i64 (j : Nat) ∧ h3 = h2 ∧ ∀ i c, i < j → w[i]? = some c → 0 ≤ c ∧ c ≤ 2 * (x.2.length : Int)) w.length
    ⟨0, Nat.zero_le _, rfl, rfl, rfl, rfl, rfl, rfl, fun i c h => by omega⟩ ?_
  rintro I mm e h3 ⟨j, hj, hmm, e1, e2, e5, e6, rfl, hin⟩ ih
  rw [e1, e2, e5, e6]
  have X2 := x1.trans x2
  have hw2 := hw.ex X2
  have g2 := x2.some g1
  refine w_len hw2 (w_lss (c_dec (fun q => ?_) (fun q => ?_)))
  · obtain ⟨c, hc⟩ := getElem?_of_lt (l := w) (i := j) (by omega)
    refine w_idxN (enc := eI) eI_len hw2 hc fun pp hpp => w_rd1 hpp (x := .int .i64 c) rfl (w_lss ?_)
    by_cases q1 : c < 0
    · refine g_ft q1 (g_ft q1 (g_ft q1 (g_ft q1 (g_ft q1 (g_ft q1 (g_ft q1 (pk_tt q1 (c_t ?_))))))))
      exact no _ (Ex.refl _) fun hh => by have := (hh.rng c (List.mem_of_getElem? hc)).1; omega
    refine g_ff q1 (g_ff q1 (g_ff q1 ?_))
    refine w_idxN (enc := eI) eI_len hw2 hc fun pp hpp => ?_
    refine g_ff q1 ?_
    refine w_rd1 hpp (x := .int .i64 c) rfl ?_
    refine g_ff q1 (g_ff q1 (w_len l20 (g_ff q1 (w_geq (pk_ff q1 ?_)))))
    rw [sl]
    refine c_dec (fun q2 => ?_) (fun q2 => ?_)
    · exact no _ (Ex.refl _) fun hh => by have := (hh.rng c (List.mem_of_getElem? hc)).2; have e9 : (scOf x).T = x.2.length := rfl; rw [e9] at this; omega
    · refine w_add (by omega) (by omega) (ih (w.length - (j + 1)) _ _ (by omega) ⟨j + 1, by omega, rfl, e1, e2, e5, rfl, rfl, fun i c' h1 h2 => ?_⟩)
      by_cases ei : i = j
      · subst ei
        rw [hc] at h2
        cases h2
        omega
      · exact hin i c' (by omega) h2
  · have ej : j = w.length := by omega
    subst ej
    have hin' : ∀ c ∈ w, 0 ≤ c ∧ c ≤ 2 * (x.2.length : Int) := fun c hc => by
      obtain ⟨i, hi⟩ := List.mem_iff_getElem?.1 hc
      exact hin i c (get_lt hi) hi
    refine w_len hw2 (w_eql ?_)
    by_cases q1 : ((w.length : Nat) : Int) = 0
    · refine gd_ft q1 (gd_ft q1 (gd_ft q1 (gd_ft q1 (gd_ft q1 (gd_ft q1 (gd_ft q1 (gd_ft q1 (gd_ft q1 (pk_tt q1 (c_t ?_))))))))))
      exact no _ (Ex.refl _) fun hh => by have := hh.len.1; omega
    obtain ⟨c0, hc0⟩ := getElem?_of_lt (l := w) (i := 0) (by omega)
    have bnd := fd_bnd x x.1
    refine gd_ff q1 (gd_ff q1 ?_)
    refine w_idxN (enc := eI) (i := 0) eI_len hw2 hc0 fun pp hpp => ?_
    refine gd_ff q1 (hist_nil ?_)
    refine w_rd1 hpp (x := .int .i64 c0) rfl ?_
    refine gd_ff q1 (hist_nil ?_)
    refine w_rdPA g2 (Nat.le_refl 2) ?_
    refine gd_ff q1 (w_offP (gd_ff q1 (hist_nil ?_)))
    refine w_rdP g2 (v := .string (bs x.1)) rfl ?_
    refine gd_ff q1 ?_
    refine find44x (hs.ex X2) hT fun h4 x4 => ?_
    have lt2 := lt_of_get g2
    refine read_all ?_ ?_
    · refine gd_ff q1 (w_mul (by omega) (by omega) (gd_ff q1 (w_neq (pk_ff q1 ?_))))
      refine c_dec (fun q2 => ?_) (fun q2 => ?_)
      · refine no _ x4 fun hh => ?_
        obtain ⟨k', h1, h2, h3⟩ := hh.len.2
        rw [hc0] at h3
        have := Option.some.inj h3
        rw [h1] at q2
        exact q2 this
      · have q2' : c0 = 2 * (scOf x).fd x.1 := Classical.not_not.1 q2
        have X4 := X2.trans x4
        refine w_rdPA (x4.some g2) (Nat.le_refl 2) ?_
        have l24 : SlT 2 eSy h4 v8 (symsOf x) := l20.ex x4
        refine match50 l24 (hw.ex X4) hn hT hin' fun v5 h5 x5 p5 => ?_
        refine ⟨idp x5 (x4.lt lt2), ?_⟩
        have X5 := X4.trans x5
        refine w_len (hw.ex X5) ?_
        refine tree49 hx hn hin' w.length 0 w.length (by omega) (by omega) (Nat.le_refl _) h5 _ wv v5 _ (hs.ex X5) (hw.ex X5) p5 fun t h6 x6 ht => ?_
        refine k t h6 (X5.trans x6) (ht.trans ?_)
        constructor
        · rintro ⟨k', h1, h2⟩
          have h3 := (Stw_even h2).1
          rw [hc0] at h3
          have h3 := Option.some.inj h3
          exact ⟨k', by omega, h1, h2⟩
        · rintro ⟨k', h1, h2, h3⟩
          exact ⟨k', h2, h3⟩
    · have ok8 : ∀ (n i off : Nat), i < h3.length → ∀ z ∈ ceOf n (.pointer (some ⟨i, off, none⟩)), vw z h3 = vw z h4 := fun n i off hi z hz => by
        rw [ce_id hz]
        exact vw_eq (x4.get i hi).symm
      have okp := PtrTo.ids (n := 1) hpp (Ex.refl _) x4
      intro t ht z hz
      simp only [List.mem_cons, List.not_mem_nil, or_false] at ht
      rcases ht with rfl | rfl | rfl
      · exact ok8 _ _ _ lt2 z hz
      · exact ok8 _ _ _ lt2 z hz
      · exact okp z hz
end Go.Proofs.Ytlenlhlipmkeeaa.W
end

section
/- Schema's laws: words of numbers; a word that is whole. Conditions: none. -/
namespace Go.Proofs.Ytlenlhlipmkeeaa.W
open Go Go.AM SchM
set_option linter.unusedVariables false
set_option maxRecDepth 100000
theorem within51 (a n : Int) (h : AH) (K : Value → AH → Prop) (h1 : 0 < n) (h2 : n ≤ 1152921504606846976)
   (k : K (.int .i64 (a % n)) h) : callW Try.prog 51 [.int .i64 a, .int .i64 n] h K := by
  obtain ⟨_, q1, q2, q3, q4⟩ := tmod_emod a n h1
  refine c51 ?_
  unfold s51
  refine w_tmod (by omega) ?_
  generalize hm : a.tmod n = m at *
  (repeat' (with_reducible first | refine w_lss ?_ | refine w_leq ?_ | refine w_gtr ?_ | refine w_geq ?_ | refine w_eql ?_ | refine w_neq ?_ | refine w_lenSl ?_ | refine w_lenStr ?_ | refine w_not ?_ | refine w_add (by omega) (by omega) ?_ | refine w_sub (by omega) (by omega) ?_ | refine w_rem (by omega) (by omega) ?_ | refine w_quo (by omega) (by omega) (by omega) ?_ | refine w_seql ?_ | refine w_sneq ?_ | refine c_t ?_ | refine c_f ?_ | refine c_tt (by first | assumption | omega) ?_ | refine c_ff (by first | assumption | omega) ?_ | refine c_dec (fun hc => ?_) (fun hc => ?_) | refine c_b (fun hc => ?_) (fun hc => ?_) | refine gc_tt ?_ | refine gc_ft ?_ | refine gc_tf ?_ | refine gc_ff ?_ | refine g_tt (by first | assumption | omega) ?_ | refine g_tf (by first | assumption | omega) ?_ | refine g_ft (by first | assumption | omega) ?_ | refine g_ff (by first | assumption | omega) ?_ | refine g_dec (fun hc => ?_) (fun hc => ?_) | refine g_decf (fun hc => ?_) (fun hc => ?_) | refine pk_t ?_ | refine pk_f ?_ | refine pk_tt (by first | assumption | omega) ?_ | refine pk_ff (by first | assumption | omega) ?_))
  · rw [q1 (by assumption)]; exact k
  · rw [q2 (by assumption)]; exact k
def wordOf (Lg : Nat) (ns : List Int) (most : Nat) : List Int := (ns.take most).map fun n => n % (Lg : Int)
theorem wordOf_len (Lg : Nat) (ns : List Int) (most : Nat) : (wordOf Lg ns most).length ≤ most := by
  unfold wordOf
  rw [List.length_map, List.length_take]
  omega
set_option maxHeartbeats 1000000 in
theorem word24 {h : AH} {vl vn : Value} {Lg : Nat} {csl : List Value} {ns : List Int} {most : Nat} {K : Value → AH → Prop} (hl : Sl 2 h vl Lg csl) (hL : 0 < Lg ∧ Lg ≤ 1000000000000) (hn : Ints h vn ns) (hm : most ≤ 1000)
    (k : ∀ v h', Ex h h' → OwnG 1 (fun j => h.length ≤ j) h' v (wordOf Lg ns most).length (flat eI (wordOf Lg ns most)) → K v h') : callW Try.prog 24 [vl, vn, .int .i64 (most : Nat)] h K := by
  have hr40 : (1000000000000 : Nat) < room40 := by decide
  refine c24 ?_
  unfold s24
  refine loopE_intro (fun mm e h2 => ∃ (j : Nat) (v7 : Value), j ≤ most ∧ j ≤ ns.length ∧ mm = most - j ∧ e 0 = vl ∧ e 1 = vn ∧ e 2 = .int .i64 (most : Nat) ∧ e 7 = v7 ∧ e 8 = .int .i64 (j : Nat) ∧ Ex h h2 ∧ OwnG 1 (fun j => h.length ≤ j) h2 v7 (wordOf Lg ns j).length (flat eI (wordOf Lg ns j))) most
    ⟨0, _, Nat.zero_le _, Nat.zero_le _, rfl, rfl, rfl, rfl, rfl, rfl, Ex.refl _, OwnG.nil _ _ _⟩ ?_
  rintro I mm e h2 ⟨j, v7, hj1, hj2, hmm, e0, e1, e2, e7, e8, x2, o⟩ ih
  rw [e0, e1, e2, e7, e8]
  have fin : ¬ (j < ns.length ∧ j < most) → K v7 h2 := by
    intro hno
    have e9 : ns.take j = ns.take most := by
      by_cases hq : j < most
      · rw [List.take_of_length_le (by omega), List.take_of_length_le (by omega)]
      · rw [show j = most by omega]
    have e10 : wordOf Lg ns j = wordOf Lg ns most := by unfold wordOf; rw [e9]
    rw [e10] at o
    exact k v7 h2 x2 o
  refine w_len (hn.ex x2) (w_lss ?_)
  by_cases q1 : ((j : Nat) : Int) < ((ns.length : Nat) : Int)
  · refine g_tt q1 (g_tt q1 (g_tt q1 (w_lss (pk_tt q1 (c_dec (fun q2 => ?_) (fun q2 => fin (fun h => by omega)))))))
    obtain ⟨z, hz⟩ := getElem?_of_lt (l := ns) (i := j) (by omega)
    refine w_idxN (enc := eI) eI_len (hn.ex x2) hz fun pp hpp => w_rd1 hpp (x := .int .i64 z) rfl (w_len (hl.ex x2) ?_)
    refine within51 _ _ _ _ (by omega) (by omega) ?_
    refine w_some (bldSl_one (v := .int .i64 (z % (Lg : Int))) rfl (by decide) rfl rfl) ?_
    refine n_newv fun h3 x3 l3 g3 => ?_
    have hlen := wordOf_len Lg ns j
    refine appSl_of (app_g (by decide) (o.mono (F' := fun j => h.length ≤ j) (h' := h3) (fun _ _ h => h) fun j hj _ => x3.get j (o.on hj).2) (srcL_new (n := 1) (s := 1) g3 (by decide) rfl) rfl (by omega) fun v' h4 a1 a2 a3 a4 => w_add (by omega) (by omega) ?_)
    have hx2 := x2.len
    refine ih (most - (j + 1)) _ _ (by omega) ⟨j + 1, v', by omega, by omega, rfl, e0, e1, e2, rfl, rfl, ⟨by omega, fun y hy => ?_⟩, ?_⟩
    · rw [a3 y (by omega) (fun hon => by have := (o.on hon).1; omega), x3.get y (by omega)]
      exact x2.get y hy
    · have e9 : wordOf Lg ns (j + 1) = wordOf Lg ns j ++ [z % (Lg : Int)] := by
        unfold wordOf
        rw [take_succ_get hz, List.map_append]
        rfl
      rw [e9, flat_append, List.length_append]
      exact a1.mono (fun y hy hF => hF.elim (fun h => h) fun hh => by show h.length ≤ y; omega) fun _ _ _ => rfl
  · exact g_tf q1 (g_tf q1 (g_tf q1 (pk_ff q1 (c_f (fin (fun h => by omega))))))
end Go.Proofs.Ytlenlhlipmkeeaa.W
end

section
/- Schema's laws: words that grow of numbers: an element's. Conditions: none. -/
namespace Go.Proofs.Ytlenlhlipmkeeaa.W
open Go Go.AM SchM
set_option linter.unusedVariables false
set_option maxRecDepth 100000
structure Grw (hb h0 : AH) (X : Nat) (ns : List Int) (v0 v1 : Value) (h : AH) (a : Nat) (v : Value) (w : List Int) : Prop where
  c : Chg (At X) h0 (At X) h
  mh : MkH hb h X [] ns v0 v1 a
  o : OwnG 1 (fun j => h0.length ≤ j) h v w.length (flat eI w)
  X : X < h0.length
section
variable {hb h0 h h' : AH} {X : Nat} {ns : List Int} {v0 v1 v : Value} {a : Nat} {w : List Int}
theorem MkH.step (m : MkH hb h X [] ns v0 v1 a) (hl : h.length ≤ h'.length) (hs : ∀ j, j < h0.length → h'[j]? = h[j]?) (hX : X < h0.length) : MkH hb h' X [] ns v0 v1 a :=
  ⟨(hs X hX).trans m.row, m.n0, m.n1, ⟨Nat.le_trans m.x.len hl, fun j hj => (hs j (by have := m.X; omega)).trans (m.x.get j hj)⟩, m.X⟩
theorem Grw.start (m : MkH hb h X [] ns v0 v1 a) : Grw hb h X ns v0 v1 h a (.slice none 0 0) [] := ⟨Chg.refl _ _, m, OwnG.nil _ _ _, m.lt⟩
theorem Grw.ext (g : Grw hb h0 X ns v0 v1 h a v w) (x : Ex h h') : Grw hb h0 X ns v0 v1 h' a v w :=
  ⟨g.c.trans (Chg.ex x), g.mh.ex x, g.o.mono (fun _ _ h => h) fun j hj _ => x.get j (g.o.on hj).2, g.X⟩
theorem Grw.chg {a' : Nat} (g : Grw hb h0 X ns v0 v1 h a v w) (c : Chg (At X) h (At X) h') (m : MkH hb h' X [] ns v0 v1 a') : Grw hb h0 X ns v0 v1 h' a' v w :=
  ⟨g.c.trans c, m, g.o.mono (fun _ _ h => h) fun j hj hF => c.get j (g.o.on hj).2 (fun e => by have e : j = X := e; have := g.X; omega), g.X⟩
theorem Grw.low {hs : AH} (g : Grw hb h0 X ns v0 v1 h a v w) (x : Ex hs h0) (hX : X < hs.length) : Grw hb hs X ns v0 v1 h a v w :=
  ⟨(Chg.ex x).trans g.c, g.mh, g.o.mono (fun j _ hj => Nat.le_trans x.len hj) fun _ _ _ => rfl, hX⟩
theorem Grw.app {x : Value} {u : List Int} {K : Value → AH → Prop} (g : Grw hb h0 X ns v0 v1 h a v w) (hx : Sl 1 h x u.length (flat eI u)) (hn : w.length + u.length ≤ 1000000000000)
    (k : ∀ v' h', Grw hb h0 X ns v0 v1 h' a v' (w ++ u) → K v' h') : appSl 1 v x h K := by
  have hr40 : (1000000000000 : Nat) < room40 := by decide
  refine appSl_sl hx (app_g (by decide) g.o (srcL_sl (by decide) hx) (by rw [flat_length eI_len]) (by omega) fun v' h' a1 a2 a3 a4 => ?_)
  have lo : h0.length ≤ h.length := g.c.len
  have same : ∀ j, j < h0.length → h'[j]? = h[j]? := fun j hj => a3 j (by omega) fun hon => by have := (g.o.on hon).1; omega
  refine k v' h' ⟨⟨Nat.le_trans lo a2, fun j hj hjX => (same j hj).trans (g.c.get j hj hjX), fun j hj => .inl hj⟩, g.mh.step a2 same g.X, ?_, g.X⟩
  rw [flat_append, List.length_append]
  exact a1.mono (fun j hj hF => hF.elim (fun h => h) fun e => by show h0.length ≤ j; omega) fun _ _ _ => rfl
theorem Grw.one {z : Int} {K : Value → AH → Prop} (g : Grw hb h0 X ns v0 v1 h a v w) (hn : w.length + 1 ≤ 1000000000000) (k : ∀ v' h', Grw hb h0 X ns v0 v1 h' a v' (w ++ [z]) → K v' h') :
    optW (bldSl 1 [(.int .i64 0)] 1 [(0, .int .i64 z)]) fun c => newW none (.row c true) h fun i h2 => appSl 1 v (.slice (some ⟨i, 0, none⟩) 1 1) h2 fun v' h' => K v' h' := by
  refine w_some (bldSl_one (v := .int .i64 z) rfl (by decide) rfl rfl) ?_
  refine n_newv fun h2 x2 l2 g2 => ?_
  have hs : Sl 1 h2 (.slice (some ⟨h.length, 0, none⟩) 1 1) [z].length (flat eI [z]) := ⟨rfl, .inr ⟨h.length, 0, 1, rfl, .inl ⟨by decide, Nat.le_refl _⟩, .inr ⟨_, true, g2, Nat.le_refl _, rfl⟩⟩⟩
  exact (g.ext x2).app hs hn k
structure Rs (hb h0 : AH) (X : Nat) (ns : List Int) (v0 v1 : Value) (h : AH) (a : Nat) (v : Value) (w : List Int) : Prop where
  c : Chg (At X) h0 (At X) h
  mh : MkH hb h X [] ns v0 v1 a
  sl : Sl 1 h v w.length (flat eI w)
  on : ∀ j, onId v j → h0.length ≤ j
theorem Grw.rs (g : Grw hb h0 X ns v0 v1 h a v w) : Rs hb h0 X ns v0 v1 h a v w := ⟨g.c, g.mh, g.o.sl, fun j hj => (g.o.on hj).1⟩
theorem Rs.low {hs : AH} (g : Rs hb h0 X ns v0 v1 h a v w) (x : Ex hs h0) : Rs hb hs X ns v0 v1 h a v w := ⟨(Chg.ex x).trans g.c, g.mh, g.sl, fun j hj => Nat.le_trans x.len (g.on j hj)⟩
end
structure GCtx where
  hb : AH
  X : Nat
  ns : List Int
  v0 : Value
  v1 : Value
  x : W × List (W × Mdl)
  sv : Value
structure GOK (g : GCtx) : Prop where
  hx : Hok g.x
  s : SM g.hb g.x g.sv
  B : ∀ C, ∀ e ∈ g.x.2, cst C e.2 ≤ (C + 4) * 64
abbrev GCtx.Rs (g : GCtx) (h0 h : AH) (a : Nat) (v : Value) (w : List Int) : Prop := Go.Proofs.Ytlenlhlipmkeeaa.W.Rs g.hb h0 g.X g.ns g.v0 g.v1 h a v w
end Go.Proofs.Ytlenlhlipmkeeaa.W
end

section
/- Schema's laws: words that grow of numbers: a model's. Conditions: none. -/
namespace SchM
theorem WM.seq0 {s : Sc} {n : W} : WR (fun w => MSeq s.fd s.T (Stw s w) []) [] := WR.nil fun w i => by rw [MSeq]
theorem WM.rep0 {s : Sc} {m : Mdl} : WR (fun w => RT (MR s.fd s.T (Stw s w) m)) [] := WR.nil fun w i => .nil i
theorem WM.repS {s : Sc} {m : Mdl} {v u : List Int} (h1 : WR (fun w => RT (MR s.fd s.T (Stw s w) m)) v) (h2 : WM s m u) : WR (fun w => RT (MR s.fd s.T (Stw s w) m)) (v ++ u) :=
  h1.app (fun w i k j a b => a.snoc b) h2
end SchM
namespace Go.Proofs.Ytlenlhlipmkeeaa.W
open Go Go.AM SchM
set_option linter.unusedVariables false
set_option maxRecDepth 100000
theorem MRk {s : Sc} {w : List Int} {k : Int} {n : W} {l : List Mdl} {i j : Nat} (h : (k = 1 ∧ i = j) ∨ (k = 2 ∧ RT (Any (Stw s w)) i j) ∨ (k = 3 ∧ Stw s w s.T i j) ∨ (k = 4 ∧ ∃ c : Nat, s.fd n = c ∧ Stw s w c i j) ∨ (k = 5 ∧ MSeq s.fd s.T (Stw s w) l i j) ∨ (k = 6 ∧ MOr s.fd s.T (Stw s w) l i j) ∨
      (k = 7 ∧ RT (MHd s.fd s.T (Stw s w) l) i j) ∨ (k = 8 ∧ ∃ m, MHd s.fd s.T (Stw s w) l i m ∧ RT (MHd s.fd s.T (Stw s w) l) m j) ∨ (k = 9 ∧ (i = j ∨ MHd s.fd s.T (Stw s w) l i j))) : MR s.fd s.T (Stw s w) (.mk k n l) i j := by
  rw [MR]; exact h
theorem MHd1 {s : Sc} {w : List Int} {m : Mdl} : MHd s.fd s.T (Stw s w) [m] = MR s.fd s.T (Stw s w) m := by
  funext a b
  rw [MHd]
inductive Rep (s : Sc) (m : Mdl) : Nat → List Int → Prop where
  | z : Rep s m 0 []
  | s {i : Nat} {v u : List Int} : Rep s m i v → WM s m u → Rep s m (i + 1) (v ++ u)
theorem Rep.rt {s : Sc} {m : Mdl} {i : Nat} {v : List Int} (h : Rep s m i v) : WR (fun w => RT (MR s.fd s.T (Stw s w) m)) v := by
  induction h with
  | z => exact WM.rep0
  | s _ h2 ih => exact WM.repS ih h2
theorem Rep.star {s : Sc} {m : Mdl} {n : W} {i : Nat} {v : List Int} (h : Rep s m i v) : WM s (.mk 7 n [m]) v := h.rt.imp fun w a b hr => MRk (.inr (.inr (.inr (.inr (.inr (.inr (.inl ⟨rfl, by rw [MHd1]; exact hr⟩)))))))
end Go.Proofs.Ytlenlhlipmkeeaa.W
end

section
/- Schema's laws: a word of numbers that a schema has. Conditions: none. -/
namespace Go.Proofs.Ytlenlhlipmkeeaa.W
open Go Go.AM SchM
set_option linter.unusedVariables false
set_option maxRecDepth 100000
end Go.Proofs.Ytlenlhlipmkeeaa.W
end

section
/- Schema's laws: a word that a schema has is whole. Conditions: none. -/
namespace Go.Proofs.Ytlenlhlipmkeeaa.W
open Go Go.AM SchM
set_option linter.unusedVariables false
set_option maxRecDepth 100000
def HOK (hB : AH) (H : HT) : Prop := ∀ t ∈ H, Ex hB t.2.1 ∧ Ex hB t.2.2
def SOK (hB : AH) (S : ST) : Prop := ∀ t ∈ S, ∀ z ∈ t.2, z.id < hB.length
theorem HOK.nil (hB : AH) : HOK hB [] := fun t ht => by cases ht
theorem SOK.nil (hB : AH) : SOK hB [] := fun t ht => by cases ht
theorem HOK.cons {hB a b : AH} {k : Nat} {H : HT} (h : HOK hB H) (ha : Ex hB a) (hb : Ex hB b) : HOK hB ((k, a, b) :: H) := fun t ht => by
  rcases List.mem_cons.1 ht with rfl | ht
  · exact ⟨ha, hb⟩
  · exact h t ht
theorem SOK.cons {hB : AH} {k : Nat} {xs : List Go.AM.Loc} {S : ST} (h : SOK hB S) (hx : ∀ z ∈ xs, z.id < hB.length) : SOK hB ((k, xs) :: S) := fun t ht => by
  rcases List.mem_cons.1 ht with rfl | ht
  · exact hx
  · exact h t ht
theorem hist_ex {hB : AH} {b : Array Nat} {j : Nat} {xs : List Go.AM.Loc} {K : Prop} {H : HT} (h : HOK hB H) (hx : ∀ z ∈ xs, z.id < hB.length) (k : K) : histC b j xs H K :=
  hist_all k fun t ht z hz => (vw_eq ((h t ht).1.get _ (hx z hz))).trans (vw_eq ((h t ht).2.get _ (hx z hz))).symm
theorem read_ex {hB a a' : AH} {b : Array Nat} {j : Nat} {K : Prop} {S : ST} (h : SOK hB S) (ha : Ex hB a) (hb : Ex hB a') (k : K) : readC b j a a' S K :=
  read_all k fun t ht z hz => (vw_eq (ha.get _ (h t ht z hz))).trans (vw_eq (hb.get _ (h t ht z hz))).symm
theorem ce_lt {hB : AH} {n i off : Nat} (hi : i < hB.length) : ∀ z ∈ ceOf n (.pointer (some ⟨i, off, none⟩)), z.id < hB.length := fun z hz => by
  rw [ce_id hz]
  exact hi
theorem make_hok (size : Int) (ns : List Int) : Hok (make size ns 3) ∧ (∀ C, ∀ e ∈ (make size ns 3).2, cst C e.2 ≤ (C + 4) * 64) := by
  have mk := make_ok size ns 3
  refine ⟨⟨mk.nd, fun e he => ?_, by have := mk.l.1; omega⟩, fun C e he => make_cost C size ns 3 e he⟩
  obtain ⟨nm, g⟩ := mk.g e he
  exact ⟨g.ok, Nat.le_trans g.s (by decide)⟩
end Go.Proofs.Ytlenlhlipmkeeaa.W
end

section
/- Schema's laws: whether a schema has a word is told as the document says. Conditions: none. -/
namespace Go.Proofs.Ytlenlhlipmkeeaa.W
open Go Go.AM SchM
set_option linter.unusedVariables false
set_option maxRecDepth 100000
theorem w_beq {a b : Bool} {K : Value → Prop} (e : a = b) (k : K (.bool true)) : optW (pBin Try.prog .eql 4 (.bool a) (.bool b)) K := by
  subst e
  refine w_some (v := .bool true) ?_ k
  cases a <;> kernel_rfl
def Ap (b : Nat) (h : AH) (v : Value) (u : List Int) : Prop := (u = [] ∧ ∃ i, v = .slice (some ⟨i, 0, none⟩) 0 0 ∧ b ≤ i ∧ h[i]? = some (.row [] true)) ∨ OwnG 1 (fun j => b ≤ j) h v u.length (flat eI u)
theorem Ap.sl {b : Nat} {h : AH} {v : Value} {u : List Int} (a : Ap b h v u) : SlT 1 eI h v u := by
  rcases a with ⟨rfl, i, rfl, hi, g⟩ | o
  · exact ⟨rfl, .inr ⟨i, 0, 0, rfl, .inl ⟨by decide, Nat.le_refl _⟩, .inl rfl⟩⟩
  · exact o.sl
theorem Ap.ex {b : Nat} {h h' : AH} {v : Value} {u : List Int} (a : Ap b h v u) (x : Ex h h') : Ap b h' v u := by
  rcases a with ⟨e, i, e2, hi, g⟩ | o
  · exact .inl ⟨e, i, e2, hi, x.some g⟩
  · exact .inr (o.mono (fun _ _ h => h) fun j hj _ => x.get j (o.on hj).2)
end Go.Proofs.Ytlenlhlipmkeeaa.W
end

section
/- Schema's laws: the program's texts of models. Conditions: none. -/
namespace Go.Proofs.Ytlenlhlipmkeeaa.W
open Go Go.AM SchM
set_option linter.unusedVariables false
set_option maxRecDepth 100000
theorem joinW_eq (b : W) : ∀ l : List W, joinW b l = b.intercalate l
  | [] => rfl
  | [x] => by simp [joinW, List.intercalate]
  | x :: y :: l => by
    have ih := joinW_eq b (y :: l)
    rw [joinW, ih]
    simp [List.intercalate, List.intersperse]
theorem strVs_flat : ∀ l : List W, strVs (flat eS l) = some (l.map bs)
  | [] => rfl
  | x :: l => by
    show (match strV (.string (bs x)), strVs (flat eS l) with
      | some s, some ss => some (s :: ss)
      | _, _ => none) = _
    rw [strVs_flat l]
    rfl
theorem join88W {h : AH} {v : Value} {l : List W} {b : W} {K : Value → AH → Prop} (hs : Strs h v l) (n1 : l.length ≤ 1000000) (n2 : (joinW b l).length ≤ 1000000) (k : K (.string (bs (joinW b l))) h) : callW Try.prog 88 [v, .string (bs b)] h K := by
  have em : (l.map bs).map (·.data.toList) = l := by
    rw [List.map_map]
    exact List.map_id'' (fun x => rfl) l
  have ej : Lib.join ((l.map bs).map (·.data.toList)) (bs b).data.toList = joinW b l := by
    rw [em, joinW_eq]
    rfl
  refine callW_step (.inl (.inl ⟨join88, v, bs b, l.map bs, rfl, ?_, by rw [List.length_map]; exact n1, by rw [ej]; exact n2, ?_⟩))
  · rcases hs.2 with ⟨rfl, h0⟩ | ⟨id, off, cap, rfl, _, h3⟩
    · have : l = [] := List.eq_nil_of_length_eq_zero h0
      subst this
      rfl
    · rcases h3 with h3 | ⟨c, w, h3, h4, h5⟩
      · have : l = [] := List.eq_nil_of_length_eq_zero h3
        subst this
        rfl
      · cases l with
        | nil => rfl
        | cons x l =>
          rw [Nat.mul_one] at h4 h5
          show (match h[id]? with
            | some (.row c _) => cond (Nat.ble (off + (l.length + 1)) c.length) (strVs ((c.drop off).take (l.length + 1))) none
            | _ => none) = _
          rw [h3]
          show cond (Nat.ble (off + (l.length + 1)) c.length) (strVs ((c.drop off).take (l.length + 1))) none = _
          have hb : Nat.ble (off + (l.length + 1)) c.length = true := Nat.ble_eq_true_of_le h4
          have h5' : (c.drop off).take (l.length + 1) = flat eS (x :: l) := h5
          rw [hb, h5', strVs_flat]
          rfl
  · have : joinS (l.map bs) (bs b) = bs (joinW b l) := by
      unfold joinS
      rw [ej]
      rfl
    rw [this]
    exact k
theorem contains93 {h : AH} {v : Value} {ks : List Int} {q : Int} {K : Value → AH → Prop} (hv : Ints h v ks) (hn : ks.length ≤ 1000) (k : K (.bool (decide (q ∈ ks))) h) : callW Try.prog 93 [v, .int .i64 q] h K := by
  refine c93 ?_
  unfold s93
  refine c99 ?_
  unfold s99
  refine w_len hv ?_
  refine loopE_intro (fun m e h' => ∃ j : Nat, j ≤ ks.length ∧ m = ks.length - j ∧ e 0 = v ∧ e 1 = .int .i64 q ∧ e 7 = .int .i64 (ks.length : Nat) ∧ e 8 = .int .i64 (j : Nat) ∧ h' = h ∧ q ∉ ks.take j) ks.length
    ⟨0, Nat.zero_le _, rfl, rfl, rfl, rfl, rfl, rfl, by simp⟩ ?_
  rintro I m e h' ⟨j, hj, hm, f0, f1, f7, f8, rfl, hni⟩ ih
  rw [f0, f1, f7, f8]
  refine w_lss (c_dec (fun q1 => ?_) (fun q1 => ?_))
  · obtain ⟨z, hz⟩ := getElem?_of_lt (l := ks) (i := j) (by omega)
    refine w_idxN (enc := eI) eI_len hv hz fun p hp => w_rd1 hp rfl (w_eql (c_dec (fun q2 => ?_) (fun q2 => ?_)))
    · refine w_geq ?_
      have hm : q ∈ ks := by rw [q2]; exact List.mem_of_getElem? hz
      rw [decide_eq_true hm] at k
      rw [decide_eq_true (by omega : (0 : Int) ≤ (j : Nat))]
      exact k
    · refine w_add (by omega) (by omega) (ih (ks.length - (j + 1)) _ _ (by omega) ⟨j + 1, by omega, rfl, f0, f1, f7, rfl, rfl, fun hm => ?_⟩)
      rw [List.take_add_one, hz] at hm
      rcases List.mem_append.1 hm with hm | hm
      · exact hni hm
      · exact q2 (by simpa using hm)
  · have et : ks.take j = ks := List.take_of_length_le (by omega)
    rw [et] at hni
    refine w_geq ?_
    rw [decide_eq_false hni] at k
    rw [decide_eq_false (by omega : ¬ (0 : Int) ≤ -1)]
    exact k
def Txt52 (m : Mdl) : Prop := ∀ (h : AH) (v : Value) (K : Value → AH → Prop), MH h (fun j => j < h.length) m v → (∀ h', Ex h h' → K (.string (bs (txt m))) h') → callW Try.prog 52 [v] h K
theorem part87 {h : AH} {m : Mdl} {inn : Int} {v vk : Value} {ks : List Int} {K : Value → AH → Prop} (hm : MH h (fun j => j < h.length) m v) (hl : (txt m).length ≤ 1000000) (hT : Txt52 m) (hk : Ints h vk ks) (hn : ks.length ≤ 1000) (hp : decide (kd m ∈ ks) = par (kd m) inn)
    (k : ∀ h', Ex h h' → K (.string (bs (hw inn m))) h') : callW Try.prog 87 [v, vk] h K := by
  refine c87 ?_
  unfold s87
  obtain ⟨kk, n, l⟩ := m
  have hm0 := hm
  unfold MH at hm
  obtain ⟨a, c, cs, rfl, sl, _, ml⟩ := hm
  refine n_boxv rfl fun h1 x1 l1 g1 => ?_
  have g1' : h1[h.length]? = some (.row [.int .i64 kk, .string (bs n), .slice a l.length c] true) := g1
  refine w_rdPA g1' (Nat.le_refl 3) (hT _ _ _ (MH.mono (fun j hj => ⟨x1.get j hj, x1.lt hj⟩) _ _ hm0) fun h2 x2 => ?_)
  refine w_offP (w_rdP (x2.some g1') (v := .int .i64 kk) rfl (contains93 (hk.ex (x1.trans x2)) hn ?_))
  rw [show decide (kk ∈ ks) = par kk inn from hp]
  have := k h2 (x1.trans x2)
  unfold hw at this
  refine c_b (fun q => ?_) (fun q => ?_)
  · refine w_cat (by simp; omega) (w_cat (by simp; omega) ?_)
    rw [if_pos (show par (kd (.mk kk n l)) inn = true from q)] at this
    exact this
  · rw [if_neg (by show ¬ par kk inn = true; rw [q]; decide)] at this
    exact this
theorem parts69 {h : AH} {kk inn : Int} {n b : W} {l : List Mdl} {v vk : Value} {ks : List Int} {K : Value → AH → Prop} (hm : MH h (fun j => j < h.length) (.mk kk n l) v) (hT : ∀ m ∈ l, Txt52 m) (hk : Ints h vk ks) (hn : ks.length ≤ 1000) (hp : ∀ m ∈ l, decide (kd m ∈ ks) = par (kd m) inn) (hll : l.length ≤ 1000000) (hlen : ∀ m ∈ l, (txt m).length ≤ 1000000) (hj : (joinW b (l.map (hw inn))).length ≤ 1000000)
    (k : ∀ h', Ex h h' → K (.string (bs (joinW b (l.map (hw inn))))) h') : callW Try.prog 69 [v, .string (bs b), vk] h K := by
  refine c69 ?_
  unfold s69
  unfold MH at hm
  obtain ⟨a, c, cs, rfl, sl, _, ml⟩ := hm
  refine n_boxv rfl fun h1 x1 l1 g1 => ?_
  have g1' : h1[h.length]? = some (.row [.int .i64 kk, .string (bs n), .slice a l.length c] true) := g1
  refine w_offP (w_rdP g1' (v := .slice a l.length c) rfl (w_lenSl ?_))
  refine loopE_intro (fun m e h' => ∃ (i : Nat) (v' : Value), i ≤ l.length ∧ m = l.length - i ∧ e 1 = .string (bs b) ∧ e 2 = vk ∧ e 7 = v' ∧ e 11 = .slice a l.length c ∧ e 12 = .int .i64 (l.length : Nat) ∧ e 13 = .int .i64 (i : Nat) ∧ Ex h1 h' ∧ OwnG 1 (fun j => h1.length ≤ j) h' v' i (flat eS ((l.map (hw inn)).take i))) l.length
    ⟨0, _, Nat.zero_le _, rfl, rfl, rfl, rfl, rfl, rfl, rfl, Ex.refl _, OwnG.nil _ _ _⟩ ?_
  rintro I m e h2 ⟨i, v', hi, hmm, f1, f2, f7, f11, f12, f13, x2, o⟩ ih
  rw [f1, f2, f7, f11, f12, f13]
  refine w_lss (c_dec (fun q => ?_) (fun q => ?_))
  · obtain ⟨m', hm'⟩ := getElem?_of_lt (l := l) (i := i) (by omega)
    obtain ⟨x, y, z, hc, mh⟩ := ML.get l cs ml i m' hm'
    have hmem := List.mem_of_getElem? hm'
    obtain ⟨k', n', a', ll, cc, ev⟩ := mh.shape
    have hx : (l.map (hw inn))[i]? = some (hw inn m') := by rw [List.getElem?_map, hm']; rfl
    have et : (l.map (hw inn)).take (i + 1) = (l.map (hw inn)).take i ++ [hw inn m'] := by rw [List.take_add_one, hx]; rfl
    refine w_idx (sl.ex (x1.trans x2)) (by omega) (by omega) fun p hp' => ?_
    have hp2 : PtrTo h2 p [x, y, z] := by rw [← hc]; rw [Int.toNat_natCast] at hp'; exact hp'
    refine w_rdA hp2 rfl ?_
    rw [ev] at mh
    injection ev with ev
    have ev' : [x, y, z] = [.int .i64 k', .string (bs n'), .slice a' ll cc] := congrArg Array.toList ev
    rw [ev']
    refine n_rowv fun h3 x3 l3 g3 => w_stPA (v := .agg #[.int .i64 k', .string (bs n'), .slice a' ll cc]) g3 rfl (Nat.le_refl 3) rfl ?_
    have g4 : (h3.set h2.length (.row (spliceL [(.int .i64 0), (.string (bs [])), (.slice none 0 0)] 0 (cellsL (.agg #[.int .i64 k', .string (bs n'), .slice a' ll cc]))) true))[h2.length]? = some (.row [.int .i64 k', .string (bs n'), .slice a' ll cc] true) := get_set _ (lt_of_get g3) _
    have x4 : Ex h2 (h3.set h2.length (.row (spliceL [(.int .i64 0), (.string (bs [])), (.slice none 0 0)] 0 (cellsL (.agg #[.int .i64 k', .string (bs n'), .slice a' ll cc]))) true)) := x3.set (Nat.le_refl _) _
    generalize h3.set h2.length _ = h4 at *
    have x04 := x1.trans (x2.trans x4)
    refine w_rdPA g4 (Nat.le_refl 3) (part87 (inn := inn) (MH.mono (fun j hj => ⟨x04.get j hj, x04.lt hj⟩) m' _ mh) (hlen m' hmem) (hT m' hmem) (hk.ex x04) hn (hp m' hmem) fun h5 x5 => ?_)
    refine w_some (bldSl_one (v := .string (bs (hw inn m'))) rfl (by decide) rfl rfl) ?_
    refine n_newv fun h6 x6 l6 g6 => ?_
    have x26 := x4.trans (x5.trans x6)
    have o6 := o.mono (F' := fun j => h1.length ≤ j) (h' := h6) (fun _ _ h => h) fun j hj _ => x26.get j (o.on hj).2
    refine appSl_of ?_
    refine app_g (by decide) o6 (srcL_new (n := 1) (s := 1) g6 (by decide) rfl) rfl (by have := bigR3; omega) fun v'' h7 a1 a2 a3 a4 => ?_
    have x16 := x2.trans x26
    refine w_add (by omega) (by omega) (ih (l.length - (i + 1)) _ _ (by omega) ⟨i + 1, v'', by omega, rfl, f1, f2, rfl, f11, f12, rfl, ⟨by have := x16.len; omega, fun j hj => ?_⟩, ?_⟩)
    · exact (a3 j (x16.lt hj) fun hon => by have := (o6.on hon).1; omega).trans (x16.get j hj)
    · rw [et, flat_append]
      refine a1.mono (fun j _ hF => ?_) fun _ _ _ => rfl
      rcases hF with hF | rfl
      · exact hF
      · have := x16.len; omega
  · have ei : i = l.length := by omega
    have et : (l.map (hw inn)).take i = l.map (hw inn) := List.take_of_length_le (by rw [List.length_map]; omega)
    rw [et] at o
    have os : Strs h2 v' (l.map (hw inn)) := by
      have := o.sl
      show Sl 1 h2 v' (l.map (hw inn)).length _
      rw [List.length_map, ← ei]
      exact this
    exact join88W os (by rw [List.length_map]; exact hll) hj (k h2 (x1.trans x2))
end Go.Proofs.Ytlenlhlipmkeeaa.W
end

section
/- Schema's laws: the program's text of a schema. Conditions: none. -/
namespace Go.Proofs.Ytlenlhlipmkeeaa.W
open Go Go.AM SchM
set_option linter.unusedVariables false
set_option maxRecDepth 100000
theorem joinW_mem (b : W) : ∀ (l : List W) (x : W), x ∈ l → x.length ≤ (joinW b l).length
  | [], x, h => by simp at h
  | [y], x, h => by rw [List.mem_singleton.1 h]; exact Nat.le_refl _
  | y :: z :: l, x, h => by
    rcases List.mem_cons.1 h with rfl | h
    · simp only [joinW, List.length_append]; omega
    · have := joinW_mem b (z :: l) x h
      simp only [joinW, List.length_append] at this ⊢
      omega
theorem kd_cases : ∀ {m : Mdl}, okM m = true → kd m = 1 ∨ kd m = 2 ∨ kd m = 3 ∨ kd m = 4 ∨ kd m = 5 ∨ kd m = 6 ∨ kd m = 7 ∨ kd m = 8 ∨ kd m = 9
  | .mk k n l, h => by
    have := (okM_cases h).2
    have e : kd (.mk k n l) = k := rfl
    rw [e]
    omega
theorem par5 {k : Int} (h : k = 1 ∨ k = 2 ∨ k = 3 ∨ k = 4 ∨ k = 5 ∨ k = 6 ∨ k = 7 ∨ k = 8 ∨ k = 9) : decide (k ∈ ([5, 6] : List Int)) = par k 5 := by
  rcases h with rfl | rfl | rfl | rfl | rfl | rfl | rfl | rfl | rfl <;> simp [par]
theorem par6 {k : Int} (h : k = 1 ∨ k = 2 ∨ k = 3 ∨ k = 4 ∨ k = 5 ∨ k = 6 ∨ k = 7 ∨ k = 8 ∨ k = 9) : decide (k ∈ ([6] : List Int)) = par k 6 := by
  rcases h with rfl | rfl | rfl | rfl | rfl | rfl | rfl | rfl | rfl <;> simp [par]
theorem par7 {k : Int} (h : k = 1 ∨ k = 2 ∨ k = 3 ∨ k = 4 ∨ k = 5 ∨ k = 6 ∨ k = 7 ∨ k = 8 ∨ k = 9) : decide (k ∈ ([5, 6, 7, 8, 9] : List Int)) = par k 7 := by
  rcases h with rfl | rfl | rfl | rfl | rfl | rfl | rfl | rfl | rfl <;> simp [par]
theorem bldK5 : bldSl 1 [(.int .i64 0)] 5 [(0, (.int .i64 5)), (1, (.int .i64 6)), (2, (.int .i64 7)), (3, (.int .i64 8)), (4, (.int .i64 9))] = some (flat eI [5, 6, 7, 8, 9]) := by kernel_rfl
theorem bldK2 : bldSl 1 [(.int .i64 0)] 2 [(0, (.int .i64 5)), (1, (.int .i64 6))] = some (flat eI [5, 6]) := by kernel_rfl
theorem bldK1 : bldSl 1 [(.int .i64 0)] 1 [(0, (.int .i64 6))] = some (flat eI [6]) := by kernel_rfl
theorem intsAt {h : AH} {l : List Int} {n i : Nat} (hg : h[i]? = some (.row (flat eI l) true)) (hn : n = l.length) (hl : l.length < 100) : Ints h (.slice (some ⟨i, 0, none⟩) n n) l := by
  subst hn
  refine ⟨flat_length eI_len l, .inr ⟨i, 0, _, rfl, .inl ⟨?_, Nat.le_refl _⟩, .inr ⟨_, true, hg, ?_, ?_⟩⟩⟩
  · have : (100 : Nat) < openCap := by decide
    omega
  · rw [flat_length eI_len]; omega
  · rw [List.drop_zero, ← flat_length eI_len l, List.take_length]
set_option maxHeartbeats 1000000 in
theorem text52 : ∀ (N : Nat) (m : Mdl), sz m ≤ N → N ≤ 1000000 → okM m = true → (txt m).length ≤ 1000000 → Txt52 m
  | 0, .mk k n l, hN, _, _, _ => by simp [sz] at hN
  | N + 1, .mk k n l, hN, hN2, hok, hlen => by
    intro h v K mh kk
    have hN' : szL l ≤ N := by simp only [sz] at hN; omega
    have hll := szL_len l
    obtain ⟨hl, hc⟩ := okM_cases hok
    have mh0 := mh
    unfold MH at mh
    obtain ⟨a, c, cs, rfl, sl, _, ml⟩ := mh
    refine c52 ?_
    unfold s52
    refine n_boxv rfl fun h1 x1 l1 g1 => ?_
    rw [bldK5, optW_so]
    refine n_newv fun h2 x2 l2 g2 => ?_
    have g1' : h2[h.length]? = some (.row [.int .i64 k, .string (bs n), .slice a l.length c] true) := x2.some g1
    have x12 := x1.trans x2
    have k5 : Ints h2 (.slice (some ⟨h1.length, 0, none⟩) 5 5) [5, 6, 7, 8, 9] := intsAt g2 rfl (by decide)
    have up : ∀ h', Ex h h' → MH h' (fun j => j < h'.length) (.mk k n l) (.agg #[.int .i64 k, .string (bs n), .slice a l.length c]) := fun h' x => MH.mono (fun j hj => ⟨x.get j hj, x.lt hj⟩) _ _ mh0
    have done : ∀ w : W, txt (.mk k n l) = w → K (.string (bs w)) h2 := fun w e => by
      have := kk h2 x12
      rw [e] at this
      exact this
    have kid : ∀ (inn : Int) (b : W), (joinW b (l.map (hw inn))).length ≤ 1000000 → (∀ m ∈ l, (txt m).length ≤ 1000000) ∧ ∀ m ∈ l, Txt52 m := fun inn b hj => by
      have h1 : ∀ m ∈ l, (txt m).length ≤ 1000000 := fun m hm => by
        have e1 := joinW_mem b _ _ (List.mem_map_of_mem (f := hw inn) hm)
        have e2 := hw_ge inn m
        omega
      refine ⟨h1, fun m hm => ?_⟩
      obtain ⟨i, hi⟩ := List.getElem?_of_mem hm
      have := sz_get l i m hi
      exact text52 N m (by omega) (by omega) (okML_get l hl m hm) (h1 m hm)
    have row : ∀ (inn : Int) (ks : List Int) (vk : Value) (h' : AH), (inn = 5 ∨ inn = 6) → k = inn → (∀ m ∈ l, decide (kd m ∈ ks) = par (kd m) inn) → Ints h' vk ks → ks.length ≤ 1000 → Ex h h' → callW Try.prog 69 [.agg #[.int .i64 k, .string (bs n), .slice a l.length c], .string (bs (byW inn)), vk] h' K := by
      intro inn ks vk h' hin hk hp hv hks x
      have hn : n = [] := by
        rcases hc with ⟨h1, _, h2⟩ | ⟨h1, _⟩ | ⟨_, _, h2⟩ | ⟨_, _, h2⟩
        · exact h2
        · omega
        · exact h2
        · exact h2
      subst hn
      subst hk
      have et : txt (.mk k [] l) = joinW (byW k) (l.map (hw k)) := txt_row hin
      rw [et] at hlen
      obtain ⟨q1, q2⟩ := kid k (byW k) hlen
      refine parts69 (inn := k) (up h' x) q2 hv hks hp (by omega) q1 hlen fun h3 x3 => ?_
      have := kk h3 (x.trans x3)
      rw [et] at this
      exact this
    have star : ∀ (b : UInt8), (k = 7 ∨ k = 8 ∨ k = 9) → txt (.mk k n l) = (txtL 7 l).headD [] ++ [b] → callW Try.prog 69 [.agg #[.int .i64 k, .string (bs n), .slice a l.length c], .string (bs []), .slice (some ⟨h1.length, 0, none⟩) 5 5] h2 fun v29 h_7 => optW (pBin Try.prog .add 9 v29 (.string (bs [b]))) fun v30 => K v30 h_7 := by
      intro b hk et
      obtain ⟨x, rfl⟩ : ∃ x, l = [x] := by
        rcases hc with ⟨h1, _⟩ | ⟨h1, _⟩ | ⟨h1, _⟩ | ⟨_, h2, _⟩
        · omega
        · omega
        · omega
        · exact h2
      have et' : txt (.mk k n [x]) = hw 7 x ++ [b] := et
      rw [et', List.length_append] at hlen
      have ej : joinW [] ([x].map (hw 7)) = hw 7 x := rfl
      have hj : (joinW [] ([x].map (hw 7))).length ≤ 1000000 := by rw [ej]; omega
      obtain ⟨q1, q2⟩ := kid 7 [] hj
      refine parts69 (inn := 7) (up h2 x12) q2 k5 (by decide) (fun m hm => par7 (kd_cases (okML_get _ hl m hm))) (by simp) q1 hj fun h3 x3 => ?_
      rw [ej]
      refine w_cat (by simp; omega) ?_
      have := kk h3 (x12.trans x3)
      rw [et'] at this
      exact this
    refine w_offP (w_rdP g1' (v := .int .i64 k) rfl ?_)
    refine w_eql (c_dec (fun q2 => done _ (by subst q2; rw [txt]; rfl)) (fun q2 => ?_))
    refine w_eql (c_dec (fun q3 => done _ (by subst q3; rw [txt]; rfl)) (fun q3 => ?_))
    refine w_eql (c_dec (fun q4 => w_offP (w_rdP g1' (v := .string (bs n)) rfl (done _ (by subst q4; rw [txt]; rfl)))) (fun q4 => ?_))
    refine w_eql (c_dec (fun q5 => ?_) (fun q5 => ?_))
    · refine w_rdPA g1' (Nat.le_refl 3) ?_
      rw [bldK2, optW_so]
      exact n_newv fun h3 x3 l3 g3 => row 5 [5, 6] _ h3 (.inl rfl) q5 (fun m hm => par5 (kd_cases (okML_get _ hl m hm))) (intsAt g3 rfl (by decide)) (by decide) (x12.trans x3)
    refine w_eql (c_dec (fun q6 => ?_) (fun q6 => ?_))
    · refine w_rdPA g1' (Nat.le_refl 3) ?_
      rw [bldK1, optW_so]
      exact n_newv fun h3 x3 l3 g3 => row 6 [6] _ h3 (.inr rfl) q6 (fun m hm => par6 (kd_cases (okML_get _ hl m hm))) (intsAt g3 rfl (by decide)) (by decide) (x12.trans x3)
    refine w_eql (c_dec (fun q7 => w_rdPA g1' (Nat.le_refl 3) (star 42 (.inl q7) (by subst q7; rw [txt]; rfl))) (fun q7 => ?_))
    refine w_eql (c_dec (fun q8 => w_rdPA g1' (Nat.le_refl 3) (star 43 (.inr (.inl q8)) (by subst q8; rw [txt]; rfl))) (fun q8 => ?_))
    refine w_eql (c_dec (fun q9 => w_rdPA g1' (Nat.le_refl 3) (star 63 (.inr (.inr q9)) (by subst q9; rw [txt]; rfl))) (fun q9 => ?_))
    have q1 : k = 1 := by omega
    exact done _ (by subst q1; rw [txt]; rfl)
end Go.Proofs.Ytlenlhlipmkeeaa.W
end

section
/- Schema's laws: the program's text of a schema. Conditions: none. -/
namespace Go.Proofs.Ytlenlhlipmkeeaa.W
open Go Go.AM SchM
set_option linter.unusedVariables false
set_option maxRecDepth 100000
theorem text26 {h : AH} {x : W × List (W × Mdl)} {v : Value} {K : Value → AH → Prop} (s : SM h x v) (hok : ∀ e ∈ x.2, okM e.2 = true ∧ sz e.2 ≤ 1000000) (hlen : (text x).length ≤ 1000000) (hl : x.2.length ≤ 1000)
    (k : ∀ h', Ex h h' → K (.string (bs (text x))) h') : callW Try.prog 26 [v] h K := by
  obtain ⟨root, l⟩ := x
  obtain ⟨a, c, cs, rfl, sl, el⟩ := s
  dsimp only at sl el hok hl
  refine c26 ?_
  unfold s26
  refine n_boxv rfl fun h1 x1 l1 g1 => ?_
  have g1' : h1[h.length]? = some (.row [.string (bs root), .slice a l.length c] true) := g1
  have tl : (text (root, l)).length = 6 + root.length + ((l.map elT).flatten).length := by
    simp only [text, List.length_append, List.length_cons, List.length_nil]
    omega
  refine w_offP (w_rdP g1' (v := .string (bs root)) rfl (w_cat (by simp; omega) (w_cat (by simp; omega) ?_)))
  refine w_offP (w_rdP g1' (v := .slice a l.length c) rfl (w_lenSl ?_))
  refine loopE_intro (fun mm e h' => ∃ i : Nat, i ≤ l.length ∧ mm = l.length - i ∧ e 3 = .string (bs ([114, 111, 111, 116, 32] ++ root ++ [59] ++ ((l.map elT).take i).flatten)) ∧ e 11 = .slice a l.length c ∧ e 12 = .int .i64 (l.length : Nat) ∧ e 13 = .int .i64 (i : Nat) ∧ Ex h1 h') l.length
    ⟨0, Nat.zero_le _, rfl, congrArg (fun w => Value.string (bs w)) (by simp), rfl, rfl, rfl, Ex.refl _⟩ ?_
  rintro I mm e h2 ⟨i, hi, hmm, f3, f11, f12, f13, x2⟩ ih
  rw [f3, f11, f12, f13]
  have len0 := flat_le (l.map elT) i
  have len1 := flat_le (l.map elT) (i + 1)
  refine w_lss (c_dec (fun q => ?_) (fun q => ?_))
  · obtain ⟨⟨w, m⟩, hm⟩ := getElem?_of_lt (l := l) (i := i) (by omega)
    obtain ⟨k', n', a', ll, cc, hc, mh⟩ := EL.get l cs el i _ hm
    have hmem := hok _ (List.mem_of_getElem? hm)
    have hx : (l.map elT)[i]? = some (elT (w, m)) := by rw [List.getElem?_map, hm]; rfl
    have et1 : (l.map elT).take (i + 1) = (l.map elT).take i ++ [elT (w, m)] := by rw [List.take_add_one, hx]; rfl
    rw [et1, List.flatten_append, List.length_append] at len1
    have el1 : [elT (w, m)].flatten.length = 9 + w.length + 3 + (txt m).length + 1 := by simp [elT]; omega
    rw [el1] at len1
    have ln : ([114, 111, 111, 116, 32] ++ root ++ [59] ++ ((l.map elT).take i).flatten : W).length = 6 + root.length + (((l.map elT).take i).flatten).length := by
      simp only [List.length_append, List.length_cons, List.length_nil]
      omega
    generalize hS : ([114, 111, 111, 116, 32] ++ root ++ [59] ++ ((l.map elT).take i).flatten : W) = S at ln ⊢
    refine w_idx (sl.ex (x1.trans x2)) (by omega) (by omega) fun p hp => ?_
    have hp' : PtrTo h2 p [.string (bs w), .int .i64 k', .string (bs n'), .slice a' ll cc] := by rw [Int.toNat_natCast, hc] at hp; exact hp
    refine w_rdA hp' rfl ?_
    refine n_rowv fun h3 x3 l3 g3 => w_stPA (v := .agg #[.string (bs w), .int .i64 k', .string (bs n'), .slice a' ll cc]) g3 rfl (Nat.le_refl 4) rfl ?_
    have g4 : (h3.set h2.length (.row (spliceL [(.string (bs [])), (.int .i64 0), (.string (bs [])), (.slice none 0 0)] 0 (cellsL (.agg #[.string (bs w), .int .i64 k', .string (bs n'), .slice a' ll cc]))) true))[h2.length]? = some (.row [.string (bs w), .int .i64 k', .string (bs n'), .slice a' ll cc] true) := get_set _ (lt_of_get g3) _
    have x4 : Ex h2 (h3.set h2.length (.row (spliceL [(.string (bs [])), (.int .i64 0), (.string (bs [])), (.slice none 0 0)] 0 (cellsL (.agg #[.string (bs w), .int .i64 k', .string (bs n'), .slice a' ll cc]))) true)) := x3.set (Nat.le_refl _) _
    generalize h3.set h2.length _ = h4 at *
    have x04 := x1.trans (x2.trans x4)
    refine w_offP (w_rdP g4 (v := .string (bs w)) rfl ?_)
    refine w_cat (by simp only [List.length_append, List.length_cons, List.length_nil]; omega) (w_cat (by simp only [List.length_append, List.length_cons, List.length_nil]; omega) ?_)
    refine w_offP (w_rdPA (n := 3) g4 (by show 0 + 1 + 3 ≤ 4; decide) ?_)
    refine text52 1000000 m hmem.2 (Nat.le_refl _) hmem.1 (by omega) h4 _ _ (MH.mono (fun j hj => ⟨x04.get j hj, x04.lt hj⟩) m _ mh) fun h5 x5 => ?_
    refine ⟨ptr_id (x5.get _ (lt_of_get g4)), ?_⟩
    refine w_cat (by simp only [List.length_append, List.length_cons, List.length_nil]; omega) (w_cat (by simp only [List.length_append, List.length_cons, List.length_nil]; omega) (w_cat (by simp only [List.length_append, List.length_cons, List.length_nil]; omega) (w_add (by omega) (by omega) ?_)))
    refine ih (l.length - (i + 1)) _ _ (by omega) ⟨i + 1, by omega, rfl, ?_, f11, f12, rfl, x2.trans (x4.trans x5)⟩
    refine congrArg (fun w => Value.string (bs w)) ?_
    rw [et1, List.flatten_append, ← hS]
    simp [elT]
  · have ei : (l.map elT).take i = l.map elT := List.take_of_length_le (by rw [List.length_map]; omega)
    rw [ei]
    exact k h2 (x1.trans x2)
end Go.Proofs.Ytlenlhlipmkeeaa.W
end

section
/- Schema's laws: a schema is not changed; one that was read may be. Conditions: none. -/
namespace Go.Proofs.Ytlenlhlipmkeeaa.W
open Go Go.AM SchM
set_option linter.unusedVariables false
set_option maxRecDepth 100000
theorem symsL_mem {l : List (W × Mdl)} {s : W × Int} (h : s ∈ symsL l) : s.1 ∈ l.map (·.1) ∧ (s.2 = 1 ∨ s.2 = 2) := by
  obtain ⟨e, he, hs⟩ := List.mem_flatMap.1 h
  have hm := List.mem_map_of_mem (f := (·.1)) he
  rcases List.mem_cons.1 hs with rfl | hs
  · exact ⟨hm, .inl rfl⟩
  · rw [List.mem_singleton.1 hs]
    exact ⟨hm, .inr rfl⟩
theorem symsL_nd : ∀ l : List (W × Mdl), (l.map (·.1)).Nodup → (symsL l).Nodup
  | [], _ => List.nodup_nil
  | e :: l, h => by
    rw [List.map_cons, List.nodup_cons] at h
    have ih := symsL_nd l h.2
    show (((e.1, (1 : Int)) :: (e.1, 2) :: symsL l) : List (W × Int)).Nodup
    rw [List.nodup_cons, List.nodup_cons]
    refine ⟨fun hm => ?_, fun hm => h.1 (symsL_mem hm).1, ih⟩
    rcases List.mem_cons.1 hm with hm | hm
    · cases hm
    · exact h.1 (symsL_mem hm).1
theorem symsOf_nd {x : W × List (W × Mdl)} (h : (x.2.map (·.1)).Nodup) : (symsOf x).Nodup := by
  unfold symsOf
  rw [List.nodup_append]
  refine ⟨symsL_nd _ h, by simp, fun a ha b hb => ?_⟩
  rw [List.mem_singleton.1 hb]
  rintro rfl
  rcases (symsL_mem ha).2 with e | e <;> cases e
theorem symsOf_nm {x : W × List (W × Mdl)} (h : okX x) : ∀ s ∈ symsOf x, ((∀ c ∈ s.1, low c = true) ∧ s.1 ≠ [] ∧ s.1.length ≤ 8) ∧ 1 ≤ s.2 ∧ s.2 ≤ 3 := by
  intro s hs
  unfold symsOf at hs
  rcases List.mem_append.1 hs with hs | hs
  · obtain ⟨h1, h2⟩ := symsL_mem hs
    obtain ⟨e, he, e1⟩ := List.mem_map.1 h1
    obtain ⟨⟨h3, h4⟩, _⟩ := h.2 e he
    have h5 := of_decide_eq_true h3
    rw [← e1]
    refine ⟨⟨h4, h5.1, h5.2.1⟩, ?_, ?_⟩
    · rcases h2 with e | e <;> rw [e] <;> decide
    · rcases h2 with e | e <;> rw [e] <;> decide
  · rw [List.mem_singleton.1 hs]
    decide
set_option maxHeartbeats 8000000 in
theorem schemaOwn_walk (h : AH) (size : Int) (_ : -9223372036854775808 ≤ size ∧ size ≤ 9223372036854775807) (v1 : Value) (ns : List Int) (i1 : Ints h v1 ns) (_ : ∀ n ∈ ns, -9223372036854775808 ≤ n ∧ n ≤ 9223372036854775807) (v2 : Value) (ws : List Int) (i2 : Ints h v2 ws) (_ : ∀ n ∈ ws, -9223372036854775808 ≤ n ∧ n ≤ 9223372036854775807) (hm : h.length = 2) :
    callW Try.prog 11 [.int .i64 size, v1, v2] h fun v _ => v = .bool true := by
  refine c11 ?_
  unfold s11
  refine known12 (.inr (.inr hm)) fun h1 x1 => w_notb (c_f ?_)
  obtain ⟨hx, hB⟩ := make_hok size ns
  have mk := make_ok size ns 3
  refine make14 (d := 3) (i1.ex x1) (by decide) fun sv h2 x2 sh => ?_
  refine make14 (d := 3) (i1.ex (x1.trans x2)) (by decide) fun ov h3 x3 oh => ?_
  generalize make size ns 3 = x at *
  have hl := mk.len
  have p3 : (4 : Nat) ^ 3 = 64 := by decide
  have p4 : (4 : Nat) ^ (3 + 1) = 256 := by decide
  have gz : ∀ e ∈ x.2, okM e.2 = true ∧ sz e.2 ≤ 1000000 := fun e he => by
    obtain ⟨nm, g⟩ := mk.g e he
    have := g.s
    rw [p4] at this
    exact ⟨g.ok, by omega⟩
  have l5 := mk.l
  obtain ⟨La, Lc, Lcs, hsv, Lsl, Lon, Lel⟩ := id sh
  subst hsv
  obtain ⟨Oa, Oc, Ocs, hov, Osl, Oon, Oel⟩ := id oh
  subst hov
  refine n_rowv fun h4 x4 l4 g4 => ?_
  refine n_rowv fun h5 x5 l5' g5 => ?_
  refine w_stPA (x5.some g4) rfl (Nat.le_refl 2) rfl ?_
  have gs : (h5.set h3.length (.row (spliceL [.string (bs []), .slice none 0 0] 0 (cellsL (.agg #[.string (bs x.1), .slice La x.2.length Lc]))) true))[h3.length]? = some (.row [.string (bs x.1), .slice La x.2.length Lc] true) := get_set _ (by omega) _
  have go := (get_ne (h := h5) (i := h3.length) (j := h4.length) (by omega) (.row (spliceL [.string (bs []), .slice none 0 0] 0 (cellsL (.agg #[.string (bs x.1), .slice La x.2.length Lc]))) true)).trans g5
  have X6 : Ex h3 (h5.set h3.length (.row (spliceL [.string (bs []), .slice none 0 0] 0 (cellsL (.agg #[.string (bs x.1), .slice La x.2.length Lc]))) true)) := (x4.trans x5).set (Nat.le_refl _) _
  have l6 : (h5.set h3.length (.row (spliceL [.string (bs []), .slice none 0 0] 0 (cellsL (.agg #[.string (bs x.1), .slice La x.2.length Lc]))) true)).length = h5.length := List.length_set
  generalize h5.set h3.length _ = h6 at *
  refine w_stPA go rfl (Nat.le_refl 2) rfl ?_
  have go2 : (h6.set h4.length (.row (spliceL [.string (bs []), .slice none 0 0] 0 (cellsL (.agg #[.string (bs x.1), .slice Oa x.2.length Oc]))) true))[h4.length]? = some (.row [.string (bs x.1), .slice Oa x.2.length Oc] true) := get_set _ (by omega) _
  have gs2 := (get_ne (h := h6) (i := h4.length) (j := h3.length) (by omega) (.row (spliceL [.string (bs []), .slice none 0 0] 0 (cellsL (.agg #[.string (bs x.1), .slice Oa x.2.length Oc]))) true)).trans gs
  have X7 : Ex h3 (h6.set h4.length (.row (spliceL [.string (bs []), .slice none 0 0] 0 (cellsL (.agg #[.string (bs x.1), .slice Oa x.2.length Oc]))) true)) := X6.set (by omega) _
  generalize h6.set h4.length _ = h7 at *
  refine w_rdPA gs2 (Nat.le_refl 2) ?_
  refine text26 ((sh.ex x3).sm.ex X7) gz (by omega) (by omega) fun h8 x8 => ?_
  generalize ht : text x = t at *
  have gs8 := x8.some gs2
  have go8 := x8.some go2
  have sh8 := (sh.ex x3).ex (X7.trans x8)
  have oh8 := oh.ex (X7.trans x8)
  have ia8 := i2.ex (((x1.trans x2).trans x3).trans (X7.trans x8))
  have hcase : (t.length ≤ 2000 ∧ parse t = .ok x 0) ∨ ¬ erOf (parse t) = 0 := by
    by_cases hl2 : t.length ≤ 2000
    · have hz : nz t := by rw [← ht]; exact mk.z
      have hlx : lx [] t = tkX x := by rw [← ht, lx_text mk.ok]
      have htk := toks_of hz
      rw [hlx] at htk
      have ge := mk.ge
      rw [ht] at ge
      refine .inl ⟨hl2, rd_parse mk.ok hl2 (fun e he => ?_) mk.nd (by omega) (by omega) mk.kn htk⟩
      obtain ⟨nm, g⟩ := mk.g e he
      have := g.dp
      omega
    · refine .inr ?_
      unfold parse
      rw [if_pos (by omega)]
      decide
  refine parse17w (by omega) fun h9 v33 x9 r9 => ?_
  obtain ⟨root, a, n, c, H, ev, n8, xw⟩ := r9.xw (by omega) x9.len
  rw [ev]
  refine w_some rfl (w_some rfl (w_some rfl ?_))
  generalize her : erOf (parse t) = er at *
  generalize atOf (parse t) = at_ at *
  refine n_var rfl rfl rfl fun h11 x11 l11 g11 => ?_
  have g11 : h11[h9.length]? = some (.row [.string (bs root), .slice a n c] true) := g11
  have xw11 : XW h8.length h9.length h11 (.slice a n c) n H := xw.keep fun j _ hj => x11.get j hj
  have len89 := x9.len
  refine loopE_intro (fun mm e h' => ∃ i : Nat, i ≤ n ∧ mm = n - i ∧ e 2 = v2 ∧ e 7 = .pointer (some ⟨h3.length, 0, none⟩) ∧ e 8 = .pointer (some ⟨h4.length, 0, none⟩) ∧ e 9 = .string (bs t) ∧ e 10 = .pointer (some ⟨h9.length, 0, none⟩) ∧ e 12 = .int .i64 er ∧ e 13 = .int .i64 (i : Nat) ∧ Ex h8 h' ∧ h'[h9.length]? = some (.row [.string (bs root), .slice a n c] true) ∧ XW h8.length h9.length h' (.slice a n c) n H) n
    ⟨0, Nat.zero_le _, rfl, rfl, rfl, rfl, rfl, rfl, rfl, rfl, x9.trans x11, g11, xw11⟩ ?_
  rintro I mm e h12 ⟨i, hi, hmm, e2, e7, e8, e9, e10, e12, e13, X12, g12, xw12⟩ ih
  rw [e7, e9, e10, e13]
  refine w_offP (w_rdP g12 (v := .slice a n c) rfl (w_lenSl (w_lss (c_dec (fun q => ?_) (fun q => ?_)))))
  · have hin : i < n := by omega
    refine w_offP (w_rdP g12 (v := .slice a n c) rfl ?_)
    refine xw12.name hin rfl rfl fun p47 p48 h13 l13 f13 xw13 => ?_
    have g13 := (f13 h9.length (.inr (Nat.le_refl _))).trans g12
    refine loopE_intro (fun mm e h' => ∃ k : Nat, k ≤ lenV (H i) ∧ mm = lenV (H i) - k ∧ e 2 = v2 ∧ e 7 = .pointer (some ⟨h3.length, 0, none⟩) ∧ e 8 = .pointer (some ⟨h4.length, 0, none⟩) ∧ e 9 = .string (bs t) ∧ e 10 = .pointer (some ⟨h9.length, 0, none⟩) ∧ e 12 = .int .i64 er ∧ e 13 = .int .i64 (i : Nat) ∧ e 14 = .int .i64 (k : Nat) ∧ Ex h8 h' ∧ h'[h9.length]? = some (.row [.string (bs root), .slice a n c] true) ∧ XW h8.length h9.length h' (.slice a n c) n H) (lenV (H i))
      ⟨0, Nat.zero_le _, rfl, e2, e7, e8, e9, e10, e12, e13, rfl, ⟨by have := X12.len; omega, fun j hj => (f13 j (.inl hj)).trans (X12.get j hj)⟩, g13, xw13⟩ ?_
    rintro I2 mm2 e' h14 ⟨k, hk, hmm2, f2, f7, f8, f9, f10, f12, f13', f14, X14, g14, xw14⟩ ih2
    rw [f10, f13', f14]
    obtain ⟨cs3, l3, s3, o3⟩ := (xw14.elim fun cs hc => (hc.2.2 i hin).2)
    refine w_offP (w_rdP g14 (v := .slice a n c) rfl (xw14.rd hin fun _ _ _ => ?_))
    refine w_len s3 (w_lss (c_dec (fun q2 => ?_) (fun q2 => ?_)))
    · refine w_offP (w_rdP g14 (v := .slice a n c) rfl (xw14.rd hin fun _ _ _ => ?_))
      refine xw14.kind hin (j := k) (by omega) rfl rfl fun p69 p70 h15 l15 f15 xw15 => ?_
      refine w_add (by omega) (by omega) ?_
      exact ih2 (lenV (H i) - (k + 1)) _ _ (by omega) ⟨k + 1, by omega, rfl, f2, f7, f8, f9, f10, f12, f13', rfl, ⟨by have := X14.len; omega, fun j hj => (f15 j (.inl hj)).trans (X14.get j hj)⟩, (f15 h9.length (.inr (Nat.le_refl _))).trans g14, xw15⟩
    · refine w_add (by omega) (by omega) ?_
      exact ih (n - (i + 1)) _ _ (by omega) ⟨i + 1, by omega, rfl, f2, f7, f8, f9, f10, f12, rfl, X14, g14, xw14⟩
  · clear ih
    refine parse17 (by omega) fun h16 v73 x16 r16 => ?_
    obtain ⟨ya, yl, yc, ev2, sm16⟩ := r16.both
    rw [ev2, her]
    refine w_some rfl (w_some rfl (w_some rfl ?_))
    refine n_var rfl rfl rfl fun h18 x18 l18 g18 => ?_
    have g18 : h18[h16.length]? = some (.row [.string (bs (plainOf (parse t)).1), .slice ya yl yc] true) := g18
    have X18 : Ex h8 h18 := X12.trans (x16.trans x18)
    refine w_rdPA (X18.some gs8) (Nat.le_refl 2) ?_
    refine syms27 (sh8.ex X18).sm (by omega) fun L h19 x19 hL g19 => ?_
    have N := symsOf_len x
    have lF : (flat eSy (symsOf x)).length = (symsOf x).length * 2 := flat_length eSy_len _
    generalize flat eSy (symsOf x) = cF at g19 lF
    have len18 := x19.len
    refine loopE_intro (fun mm e h' => ∃ (i : Nat) (c : List Value), i ≤ (symsOf x).length ∧ mm = (symsOf x).length - i ∧ e 2 = v2 ∧ e 7 = .pointer (some ⟨h3.length, 0, none⟩) ∧ e 8 = .pointer (some ⟨h4.length, 0, none⟩) ∧ e 12 = .int .i64 er ∧ e 15 = .pointer (some ⟨h16.length, 0, none⟩) ∧ e 17 = .int .i64 er ∧ e 18 = .slice (some ⟨L, 0, none⟩) (symsOf x).length (symsOf x).length ∧ e 19 = .int .i64 (i : Nat) ∧ Ex h18 h' ∧ h'[L]? = some (.row c true) ∧ c.length = (symsOf x).length * 2) (symsOf x).length
      ⟨0, cF, Nat.zero_le _, rfl, e2, e7, e8, e12, rfl, rfl, rfl, rfl, x19, g19, lF⟩ ?_
    rintro I3 mm3 e3 h20 ⟨i3, c3, hi3, hmm3, f2, f7, f8, f12, f15, f17, f18, f19, X20, g20, l20⟩ ih3
    rw [f2, f7, f8, f12, f15, f17, f18, f19]
    refine w_lenSl (w_lss (c_dec (fun q3 => ?_) (fun q3 => ?_)))
    · refine w_some (v := .pointer (some ⟨L, 0 + i3 * 2, none⟩)) ?_ (w_offP ?_)
      · show (if (0 : Int) ≤ ((i3 : Nat) : Int) ∧ ((i3 : Nat) : Int) < (((symsOf x).length : Nat) : Int) then some (Value.pointer (some ⟨L, 0 + ((i3 : Nat) : Int).toNat * 2, none⟩)) else none) = _
        rw [if_pos ⟨by omega, by omega⟩, Int.toNat_natCast]
      refine w_stP g20 (by omega) rfl rfl ?_
      refine w_add (by omega) (by omega) ?_
      exact ih3 ((symsOf x).length - (i3 + 1)) _ _ (by omega) ⟨i3 + 1, _, by omega, rfl, f2, f7, f8, f12, f15, f17, f18, rfl, X20.set hL _, get_set _ (lt_of_get g20) _, by rw [List.length_set]; exact l20⟩
    · clear ih3
      have X8 : Ex h8 h20 := X18.trans X20
      have Go := X8.some go8
      have Gs := X8.some gs8
      have Gy := X20.some g18
      have sB := sh8.ex X8
      have oB := oh8.ex X8
      have iB := ia8.ex X8
      have lo := lt_of_get Go
      have ls := lt_of_get Gs
      have ly := lt_of_get Gy
      have smy := sm16.ex (x18.trans X20)
      generalize h20 = hB0 at *
      refine w_rdPA Go (Nat.le_refl 2) ?_
      refine syms20 oB.sm hx.T fun v90 f1 y1 o90 => ?_
      have s90 : SlT 2 eSy f1 v90 (symsOf x) := o90.sl
      refine word24 (most := 5) s90 (by constructor <;> omega) (iB.ex y1) (by decide) fun v92 f2' y2 o92 => ?_
      have wl := wordOf_len (symsOf x).length ws 5
      generalize wordOf (symsOf x).length ws 5 = w at *
      have Y2 := y1.trans y2
      have s92 : SlT 1 eI f2' v92 w := o92.sl
      refine w_rdPA (Y2.some Gs) (Nat.le_refl 2) (w_rdPA (Y2.some Go) (Nat.le_refl 2) ?_)
      refine same19 (sB.ex Y2).sm (oB.ex Y2).sm (fun e he => (gz e he).2) (by omega) fun f3 y3 => ?_
      have Y3 := Y2.trans y3
      have cs : ∀ z ∈ ceOf 2 (.pointer (some ⟨h3.length, 0, none⟩)), z.id < hB0.length := ce_lt ls
      have co : ∀ z ∈ ceOf 2 (.pointer (some ⟨h4.length, 0, none⟩)), z.id < hB0.length := ce_lt lo
      have cy : ∀ z ∈ ceOf 2 (.pointer (some ⟨h16.length, 0, none⟩)), z.id < hB0.length := ce_lt ly
      have S0 := ((SOK.nil hB0).cons (k := 0) cs).cons (k := 1) co
      have H0 := (HOK.nil hB0).cons (k := 2) Y2 Y3
      have eqt : ∀ {t : TypeId} {K : Value → Prop}, K (.bool true) → optW (pBin Try.prog .eql t (.int .i64 er) (.int .i64 er)) K := fun k => w_eql (by rw [decide_eq_true rfl]; exact k)
      have ho40 : (1000000000000 : Nat) < openCap := by decide
      refine gdc_tt (gdc_tt (gdc_tt (eqt (pk_t (gdc_tt (gdc_tt (w_neq (gdc_tt ?_))))))))
      have s3 := Sl.ex s92 y3
      rcases hcase with ⟨_, hp⟩ | hn
      · have e0 : er = 0 := by rw [← her, hp]; rfl
        have hn : ¬ ¬ er = 0 := fun f => f e0
        have smy3 : SM f3 x (.agg #[.string (bs (plainOf (parse t)).1), .slice ya yl yc]) := by
          have := smy.ex Y3
          rw [hp] at this ⊢
          exact this
        refine gd_ff hn (hist_ex H0 cy (w_rdPA (Y3.some Gy) (Nat.le_refl 2) ?_))
        have S1 := S0.cons (k := 12) cy
        refine gd_ff hn (hist_ex H0 co (w_rdPA (Y3.some Go) (Nat.le_refl 2) ?_))
        have S2 := S1.cons (k := 13) co
        refine gd_ff hn (same19 smy3 (oB.ex Y3).sm (fun e he => (gz e he).2) (by omega) fun f4 y4 => ?_)
        have Y4 := Y3.trans y4
        refine read_ex S2 Y3 Y4 ?_
        have H1 := H0.cons (k := 14) Y3 Y4
        have s4 := Sl.ex s3 y4
        refine gdc_tt (pk_ff hn (pk_t ?_))
        refine gdc_tt (hist_ex H1 cs (w_rdPA (Y4.some Gs) (Nat.le_refl 2) ?_))
        have S3 := S2.cons (k := 18) cs
        refine gdc_tt (gdc_tt (has22 hx (sB.ex Y4) s4 (by omega) fun t1 f5 y5 ht1 => ?_))
        have Y5 := Y4.trans y5
        refine read_ex S3 Y4 Y5 ?_
        have H2 := H1.cons (k := 20) Y4 Y5
        refine gdc_tt (hist_ex H2 co (w_rdPA (Y5.some Go) (Nat.le_refl 2) ?_))
        have S4 := S3.cons (k := 21) co
        refine gdc_tt (gdc_tt (has23 hx (oB.ex Y5).sm (Sl.ex s4 y5) (by omega) fun t2 f6 y6 ht2 => ?_))
        have Y6 := Y5.trans y6
        refine read_ex S4 Y5 Y6 ?_
        have H3 := H2.cons (k := 23) Y5 Y6
        refine gdc_tt (w_beq (Bool.eq_iff_iff.2 (ht1.trans ht2.symm)) (pk_t ?_))
        refine gdc_tt (hist_ex H3 cs (w_rdPA (Y6.some Gs) (Nat.le_refl 2) ?_))
        have S5 := S4.cons (k := 27) cs
        refine gdc_tt (syms27 (sB.ex Y6).sm (by omega) fun L2 f7 y7 hL2 g7 => ?_)
        have Y7 := Y6.trans y7
        refine read_ex S5 Y6 Y7 ?_
        have H4 := H3.cons (k := 28) Y6 Y7
        have sl7 : SlT 2 eSy f7 (.slice (some ⟨L2, 0, none⟩) (symsOf x).length (symsOf x).length) (symsOf x) := ⟨flat_length eSy_len _, .inr ⟨L2, 0, _, rfl, .inl ⟨by omega, Nat.le_refl _⟩, .inr ⟨_, true, g7, by rw [flat_length eSy_len]; omega, by rw [List.drop_zero, ← flat_length eSy_len, List.take_length]⟩⟩⟩
        refine gdc_tt (check28 sl7 (by omega) (by omega) (symsOf_nm mk.ok) (symsOf_nd mk.nd) ?_)
        refine read_ex S5 Y7 Y7 ?_
        exact gdc_tt (w_eql (pk_t rfl))
      · refine gd_ft hn (gd_ft hn (gd_ft hn (gdc_tt (pk_tt hn (pk_t ?_)))))
        have Y4 := Y3
        have H1 := H0
        have S2 := S0
        have s4 := s3
        refine gdc_tt (hist_ex H1 cs (w_rdPA (Y4.some Gs) (Nat.le_refl 2) ?_))
        have S3 := S2.cons (k := 18) cs
        refine gdc_tt (gdc_tt (has22 hx (sB.ex Y4) s4 (by omega) fun t1 f5 y5 ht1 => ?_))
        have Y5 := Y4.trans y5
        refine read_ex S3 Y4 Y5 ?_
        have H2 := H1.cons (k := 20) Y4 Y5
        refine gdc_tt (hist_ex H2 co (w_rdPA (Y5.some Go) (Nat.le_refl 2) ?_))
        have S4 := S3.cons (k := 21) co
        refine gdc_tt (gdc_tt (has23 hx (oB.ex Y5).sm (Sl.ex s4 y5) (by omega) fun t2 f6 y6 ht2 => ?_))
        have Y6 := Y5.trans y6
        refine read_ex S4 Y5 Y6 ?_
        have H3 := H2.cons (k := 23) Y5 Y6
        refine gdc_tt (w_beq (Bool.eq_iff_iff.2 (ht1.trans ht2.symm)) (pk_t ?_))
        refine gdc_tt (hist_ex H3 cs (w_rdPA (Y6.some Gs) (Nat.le_refl 2) ?_))
        have S5 := S4.cons (k := 27) cs
        refine gdc_tt (syms27 (sB.ex Y6).sm (by omega) fun L2 f7 y7 hL2 g7 => ?_)
        have Y7 := Y6.trans y7
        refine read_ex S5 Y6 Y7 ?_
        have H4 := H3.cons (k := 28) Y6 Y7
        have sl7 : SlT 2 eSy f7 (.slice (some ⟨L2, 0, none⟩) (symsOf x).length (symsOf x).length) (symsOf x) := ⟨flat_length eSy_len _, .inr ⟨L2, 0, _, rfl, .inl ⟨by omega, Nat.le_refl _⟩, .inr ⟨_, true, g7, by rw [flat_length eSy_len]; omega, by rw [List.drop_zero, ← flat_length eSy_len, List.take_length]⟩⟩⟩
        refine gdc_tt (check28 sl7 (by omega) (by omega) (symsOf_nm mk.ok) (symsOf_nd mk.nd) ?_)
        refine read_ex S5 Y7 Y7 ?_
        exact gdc_tt (w_eql (pk_t rfl))
end Go.Proofs.Ytlenlhlipmkeeaa.W
end
