/- The feed's machine goes on by a symbol that closes. Conditions: none. -/
import Derived.Test.YtebbjimmgblcpaaQF6
namespace Go.Proofs.Ytebbjimmgblcpaa.W
open Go Go.AM FeedM
set_option linter.unusedVariables false
set_option maxRecDepth 100000

def eInt (a : Int) : Value := .int .i64 a
theorem keyI0 (a b : Int) : keyEq Try.prog 3 (eInt a) (eInt b) = some (a == b) := by kernel_rfl
theorem keyI : KeyOK Try.prog 3 eInt := by
  intro a b
  rw [keyI0]
  by_cases h : a = b <;> simp [h]
theorem zero22 : zeroV Try.prog 22 = some (.slice none 0 0) := by kernel_rfl

/-- the map of ends: of each state since the opening symbol where it may be now. -/
def EndsM (h : AH) (id b : Nat) (D : Row) : Prop := ∃ (l : List (MEnt Int)) (ck : Nat), h[id]? = some (.map (encE eInt l) ck) ∧ (l.Pairwise fun t u => t.1 ≠ u.1) ∧
  (∀ t ∈ l, ∃ lb : List Int, OwnG 1 (fun j => b < j) h t.2.1 lb.length (flat eI lb) ∧ lb.Nodup ∧ ∀ x, x ∈ lb ↔ D (t.1, x)) ∧ (∀ a x, D (a, x) → ∃ t ∈ l, t.1 = a) ∧ (∀ t ∈ l, ∀ u ∈ l, ∀ j, onId t.2.1 j → onId u.2.1 j → t.1 = u.1)

theorem EndsM.ex {h h' : AH} {id b : Nat} {D : Row} (he : EndsM h id b D) (x : Ex h h') : EndsM h' id b D := by
  obtain ⟨l, ck, h1, h2, h3, h4⟩ := he
  refine ⟨l, ck, x.some h1, h2, fun t ht => ?_, h4⟩
  obtain ⟨lb, q1, q2⟩ := h3 t ht
  exact ⟨lb, q1.mono (fun _ _ h => h) fun j hj _ => x.get j (q1.on hj).2, q2⟩
theorem EndsM.keep {h h' : AH} {id b : Nat} {D : Row} (he : EndsM h id b D) (h0 : h'[id]? = h[id]?) (hh : ∀ j, b < j → j < h.length → h'[j]? = h[j]?) : EndsM h' id b D := by
  obtain ⟨l, ck, h1, h2, h3, h4⟩ := he
  refine ⟨l, ck, h0.trans h1, h2, fun t ht => ?_, h4⟩
  obtain ⟨lb, q1, q2⟩ := h3 t ht
  exact ⟨lb, q1.mono (fun _ _ h => h) fun j hj hF => hh j hF (q1.on hj).2, q2⟩
theorem EndsM.congr {h : AH} {id b : Nat} {D E : Row} (he : EndsM h id b D) (hDE : ∀ x, E x ↔ D x) : EndsM h id b E := by
  have : E = D := funext fun x => propext (hDE x)
  rw [this]; exact he

/-- what is found of a state. -/
theorem ends_look {h h0 : AH} {id b : Nat} {D : Row} {a : Int} {K : Value → Prop} (he : EndsM h0 id b D) (x : Ex h0 h) (k : ∀ v lb, OwnG 1 (fun j => b < j) h0 v lb.length (flat eI lb) → lb.Nodup → (∀ x, x ∈ lb ↔ D (a, x)) → K v) :
    optW (pLookup Try.prog 125 (.map (some id)) (.int .i64 a) false h) K := by
  obtain ⟨l, ck, h1, h2, h3, h4, h5⟩ := he
  refine lookup_rule (enc := eInt) (x := a) Try.underlying125 zero22 keyI (x.some h1) (fun t ht hta => ?_) (fun hno => ?_)
  · obtain ⟨lb, q1, q2, q3⟩ := h3 t ht
    subst hta
    exact k _ lb q1 q2 q3
  · refine k _ [] (OwnG.nil _ _ _) List.nodup_nil fun x => ?_
    constructor
    · intro hx; cases hx
    · intro hx
      obtain ⟨t, ht, e⟩ := h4 a x hx
      exact absurd e (hno t ht)

/-- one more end of a state, laid back. -/
theorem ends_put {h h1 : AH} {id b : Nat} {l : List (MEnt Int)} {ck : Nat} {D : Row} {a z : Int} {v v' : Value} {lb : List Int} {K : AH → Prop} (g1 : h[id]? = some (.map (encE eInt l) ck)) (g2 : l.Pairwise fun t u => t.1 ≠ u.1)
    (g3 : ∀ t ∈ l, ∃ lb : List Int, OwnG 1 (fun j => b < j) h t.2.1 lb.length (flat eI lb) ∧ lb.Nodup ∧ ∀ x, x ∈ lb ↔ D (t.1, x)) (g4 : ∀ a x, D (a, x) → ∃ t ∈ l, t.1 = a) (g5 : ∀ t ∈ l, ∀ u ∈ l, ∀ j, onId t.2.1 j → onId u.2.1 j → t.1 = u.1)
    (hv : (∃ t ∈ l, t.1 = a ∧ t.2.1 = v) ∨ v = .slice none 0 0 ∧ ∀ t ∈ l, t.1 ≠ a) (hn : lb.Nodup) (hlb : ∀ x, x ∈ lb ↔ D (a, x)) (hnz : ¬ D (a, z)) (hib : id ≤ b)
    (ho : OwnG 1 (fun j => b < j) h1 v' (lb.length + 1) (flat eI lb ++ eI z)) (hf : ∀ j, j < h.length → ¬ onId v j → h1[j]? = h[j]?) (hid : ∀ j, onId v' j → onId v j ∨ h.length ≤ j)
    (k : ∀ o, EndsM (h1.set id o) id b (fun q => D q ∨ q = (a, z)) → K (h1.set id o)) : optW (pMapUpd Try.prog 125 (.map (some id)) (.int .i64 a) v' h1) K := by
  have hvb : ∀ j, onId v j → b < j ∧ j < h.length := by
    intro j hj
    rcases hv with ⟨t, ht, _, rfl⟩ | ⟨rfl, _⟩
    · obtain ⟨lb', q1, _⟩ := g3 t ht
      exact q1.on hj
    · exact hj.elim
  have hidl := lt_of_get g1
  have g1' : h1[id]? = some (.map (encE eInt l) ck) := by
    rw [hf id hidl fun hh => by have := (hvb id hh).1; omega]
    exact g1
  have hother : ∀ t ∈ l, t.1 ≠ a → ∀ j, onId t.2.1 j → ¬ onId v j := by
    intro t ht hta j hj hvj
    rcases hv with ⟨u, hu, hua, rfl⟩ | ⟨rfl, _⟩
    · exact hta ((g5 t ht u hu j hj hvj).trans hua)
    · exact hvj
  refine upd_rule (enc := eInt) (x := a) Try.underlying125 keyI g1' g2 fun l' ck' k1 k2 k3 k4 => k _ ⟨l', ck', get_set _ (lt_of_get g1') _, k4, fun t ht => ?_, fun a' x hx => ?_, fun t ht u hu j hjt hju => ?_⟩
  · rcases k1 t ht with ⟨e1, e2⟩ | ⟨htl, hta⟩
    · refine ⟨lb ++ [z], ?_, ?_, fun x => ?_⟩
      · rw [e2, List.length_append, flat_append]
        have : flat eI [z] = eI z := rfl
        rw [this]
        exact ho.mono (fun _ _ h => h) fun j hj hF => get_ne (by have : b < j := hF; omega) _
      · rw [List.nodup_append]
        refine ⟨hn, by simp, fun x hx y hy => ?_⟩
        rw [List.mem_singleton.1 hy]
        rintro rfl
        exact hnz ((hlb _).1 hx)
      · rw [e1]
        simp only [List.mem_append, List.mem_singleton, hlb, Prod.mk.injEq, true_and]
    · obtain ⟨lb', q1, q2, q3⟩ := g3 t htl
      refine ⟨lb', q1.mono (fun _ _ h => h) fun j hj hF => ?_, q2, fun x => ?_⟩
      · have hbj : b < j := hF
        rw [get_ne (by omega)]
        exact hf j (q1.on hj).2 (hother t htl hta j hj)
      · rw [q3]
        constructor
        · exact .inl
        · rintro (h | h)
          · exact h
          · cases h; exact absurd rfl hta
  · rcases hx with hx | hx
    · obtain ⟨t, ht, e⟩ := g4 a' x hx
      by_cases hta : t.1 = a
      · obtain ⟨u, hu, hua, _⟩ := k2
        exact ⟨u, hu, hua.trans (hta.symm.trans e)⟩
      · exact ⟨t, k3 t ht hta, e⟩
    · cases hx
      obtain ⟨u, hu, hua, _⟩ := k2
      exact ⟨u, hu, hua⟩
  · rcases k1 t ht with ⟨e1, e2⟩ | ⟨htl, hta⟩ <;> rcases k1 u hu with ⟨f1, f2⟩ | ⟨hul, hua⟩
    · rw [e1, f1]
    · exfalso
      rw [e2] at hjt
      obtain ⟨lb', q1, _⟩ := g3 u hul
      rcases hid j hjt with h | h
      · exact hother u hul hua j hju h
      · have := (q1.on hju).2; omega
    · exfalso
      rw [f2] at hju
      obtain ⟨lb', q1, _⟩ := g3 t htl
      rcases hid j hju with h | h
      · exact hother t htl hta j hjt h
      · have := (q1.on hjt).2; omega
    · exact g5 t htl u hul j hjt hju

end Go.Proofs.Ytebbjimmgblcpaa.W
