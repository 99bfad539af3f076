/- Parts of a proof, joined by a program. Conditions: none. -/
import Derived.Test.YtdlbiliolbdbmaaGreatRA2
import Derived.Below

section
/- From a run of the abstract machine to a call of Go's model: it returns true, and nothing that was there has turned. Conditions: the arguments that came in are only read. -/
namespace Go.AM
open Go Go.RowKit
variable {P : Program}
theorem law_lift (hmix : P.follows .mixedOrders = true) {f : FuncId} {args : List Value} {h : AH} {β : Bj} {args' : Array Value} {w : World} (hA : ListR β args args') (R : Rel β h w) (hro : ∀ i : Nat, live h[i]? = true → isRo h[i]? = true)
    (hc : callW P f args h fun v _ => v = .bool true) : Calls P f args' w fun e w' => e = .returned (.bool true) ∧ Below w.heap.size w w' := by
  refine Calls.mono ((callW_sim hmix _ _ _ _ hc).2 β args' w hA R) ?_
  rintro e w' ⟨v, v', β', h', rfl, rfl, hv, _, X⟩
  cases hv
  refine ⟨rfl, X.os, X.tape, X.out, X.size, fun k hk => X.cfr k hk ?_⟩
  rintro ⟨id, p, _, _, h1, h2⟩
  rw [hro id h1] at h2
  cases h2
def β0 : Bj := fun _ => none
theorem rel0 (w : World) : Rel β0 [] w where
  lt h := by cases h
  obj h := by cases h
  sep _ h := by cases h
structure InRow where
  has : Bool
  b : Nat
  off : Nat
  cells : List Value
def inObj (r : InRow) : AObj := if r.has = true then .row r.cells false else .dead
def InRow.pl (r : InRow) : Pl := ⟨r.b, r.off, r.off + r.cells.length, 1⟩
def βIn (rs : List InRow) : Bj := fun i => (rs[i]?).map InRow.pl
def InRow.at (r : InRow) (w : World) : Prop := r.has = true → ∃ cc e fr, w.heap[r.b]? = some (.cells cc e fr) ∧ r.off + r.cells.length ≤ cc.size ∧ (∀ i, i < r.cells.length → cc.getD (r.off + i) undef = r.cells.getD i undef) ∧ (∀ v ∈ r.cells, pureS v = true)
theorem roIn (rs : List InRow) : ∀ i : Nat, live (rs.map inObj)[i]? = true → isRo (rs.map inObj)[i]? = true := by
  intro k hk
  rw [List.getElem?_map] at hk ⊢
  cases e : rs[k]? with
  | none => rw [e] at hk; cases hk
  | some r =>
    rw [e] at hk
    simp only [Option.map_some, inObj] at hk ⊢
    cases hr : r.has with
    | false => rw [hr] at hk; cases hk
    | true => rfl
theorem relIn (rs : List InRow) (w : World) (h : ∀ r ∈ rs, r.at w) : Rel (βIn rs) (rs.map inObj) w where
  lt {id p} hp := by
    unfold βIn at hp
    cases e : rs[id]? with
    | none => rw [e] at hp; cases hp
    | some r => rw [List.length_map]; exact (List.getElem?_eq_some_iff.1 e).1
  obj {id p o} hp ho := by
    unfold βIn at hp
    cases e : rs[id]? with
    | none => rw [e] at hp; cases hp
    | some r =>
      rw [e] at hp
      rw [List.getElem?_map, e] at ho
      obtain rfl := Option.some.inj hp
      obtain rfl := Option.some.inj ho
      unfold inObj
      cases hr : r.has with
      | false => trivial
      | true =>
        obtain ⟨cc, el, fr, h1, h2, h3, h4⟩ := h r (List.mem_of_getElem? e) hr
        refine ⟨cc, el, fr, h1, Nat.le_refl _, h2, fun i hi => ?_, fun x => (by cases x), fun v hv => pureS_one (h4 v hv)⟩
        have := h3 i hi
        show VR _ _ (cc.getD (r.off + i) undef)
        rw [this]
        exact .ofPureS (h4 _ (by rw [List.getD_eq_getElem?_getD, List.getElem?_eq_getElem hi]; exact List.getElem_mem hi))
  sep {i j p q} hij hi hj li lj hr := by
    rw [roIn rs i li, roIn rs j lj] at hr
    cases hr
theorem inRow_of {w : World} {a : Addr} {cs : List Value} (hne : cs ≠ []) (hc : ∀ i v, cs[i]? = some v → w.cell? (a.add i) = some v) (hp : ∀ v ∈ cs, pureS v = true) : a.spot = none ∧ (InRow.mk true a.block a.off cs).at w := by
  have key : ∀ i v, cs[i]? = some v → a.spot = none ∧ ∃ cc e fr, w.heap[a.block]? = some (.cells cc e fr) ∧ cc[a.off + i]? = some v := by
    intro i v hv
    have h0 := hc i v hv
    have hs := World.cell?_spot h0
    have hb : (a.add i).block = a.block := by unfold Addr.add; split <;> rfl
    have ho : (a.add i).off = a.off + i := by
      unfold Addr.add
      split
      · rename_i h; rw [h]; rfl
      · rfl
    unfold World.cell? at h0
    rw [hb, hs, ho] at h0
    split at h0
    · rename_i c _ _ hh
      refine ⟨?_, c, _, _, hh, by simpa using h0⟩
      have h1 := hc 0
      cases cs with
      | nil => exact absurd rfl hne
      | cons x r =>
        have := World.cell?_spot (h1 x rfl)
        simpa [Addr.add] using this
    · cases h0
  cases cs with
  | nil => exact absurd rfl hne
  | cons x r =>
    obtain ⟨h1, cc, e, fr, h2, h3⟩ := key 0 x rfl
    refine ⟨h1, fun _ => ⟨cc, e, fr, h2, ?_, fun i hi => ?_, hp⟩⟩
    · have hl : r.length < (x :: r).length := by simp
      obtain ⟨_, cc', e', fr', g2, g3⟩ := key r.length _ (List.getElem?_eq_getElem hl)
      rw [h2] at g2
      cases g2
      have := (Array.getElem?_eq_some_iff.1 g3).1
      show a.off + (x :: r).length ≤ cc.size
      simp only [List.length_cons]
      omega
    · obtain ⟨_, cc', e', fr', g2, g3⟩ := key i _ (List.getElem?_eq_getElem hi)
      rw [h2] at g2
      cases g2
      show cc.getD (a.off + i) undef = (x :: r).getD i undef
      rw [List.getD_eq_getElem?_getD, List.getElem?_eq_getElem hi, ← Array.getElem?_toList] at *
      simp only [Array.getD_eq_getD_getElem?, ← Array.getElem?_toList, g3]
theorem no_at (b off : Nat) (w : World) : (InRow.mk false b off []).at w := fun h => by cases h
theorem in_slice {w : World} {s : Nat} (s0 : 0 < s) {a : Option Addr} {len cap : Nat} {cs : List Value} (hs : cs.length = len * s) (hlc : len ≤ cap) (hcap : cap < openCap) (hnil : a = none → len = 0 ∧ cap = 0)
    (hspot : ∀ x, a = some x → 0 < cap → x.spot = none) (hc : ∀ x, a = some x → ∀ i v, cs[i]? = some v → w.cell? (x.add i) = some v) (hp : ∀ v ∈ cs, pureS v = true) (j : Nat) :
    ∃ r : InRow, ∃ v, r.at w ∧ (∀ β : Bj, β j = some r.pl → VR β v (.slice a len cap)) ∧ ∀ h : AH, h[j]? = some (inObj r) → Sl s h v len cs := by
  cases a with
  | none =>
    obtain ⟨rfl, rfl⟩ := hnil rfl
    exact ⟨⟨false, 0, 0, []⟩, .slice none 0 0, no_at _ _ _, fun β _ => .nils, fun h _ => ⟨hs, .inl ⟨rfl, rfl⟩⟩⟩
  | some x =>
    by_cases hne : cs = []
    · subst hne
      have hl : len = 0 := by
        simp only [List.length_nil] at hs
        rcases Nat.mul_eq_zero.1 hs.symm with h | h
        · exact h
        · omega
      refine ⟨⟨false, x.block, x.off, []⟩, .slice (some ⟨j, 0, none⟩) len cap, no_at _ _ _, fun β hβ => .slx hβ hlc hcap ?_, fun h _ => ⟨hs, .inr ⟨j, 0, cap, rfl, .inl ⟨hcap, hlc⟩, .inl hl⟩⟩⟩
      rcases Nat.eq_zero_or_pos cap with h0 | h0
      · exact .inl h0
      · have := hspot x rfl h0
        cases x
        simp at this
        subst this
        exact .inr rfl
    · obtain ⟨h1, h2⟩ := inRow_of hne (hc x rfl) hp
      refine ⟨_, .slice (some ⟨j, 0, none⟩) len cap, h2, fun β hβ => .slx hβ hlc hcap (.inr (by cases x; simp at h1; subst h1; rfl)), fun h hj => ⟨hs, .inr ⟨j, 0, cap, rfl, .inl ⟨hcap, hlc⟩, .inr ⟨cs, false, hj, by omega, by rw [← hs]; simp⟩⟩⟩⟩
theorem maxLen_open {n : Nat} (h : n ≤ maxLen) : n < openCap := by
  unfold maxLen at h
  unfold openCap
  omega
def IsRow (k : IntKind) (w : World) (a : Option Addr) (len cap : Nat) (zs : List Int) : Prop :=
  (a = none ∧ len = 0 ∧ cap = 0 ∧ zs = []) ∨
  ∃ x, a = some x ∧ len ≤ cap ∧ cap ≤ maxLen ∧ zs.length = cap ∧ (∀ i, i < zs.length → w.cell? (x.add i) = some (.int k (zs.getD i 0))) ∧ ∀ n ∈ zs, (Lit.int k n).wf = true
def eK (k : IntKind) (n : Int) : List Value := [.int k n]
theorem flat_eK (k : IntKind) (l : List Int) : flat (eK k) l = l.map (.int k) := by
  induction l with
  | nil => rfl
  | cons x l ih => simp only [flat, List.flatMap_cons, List.map_cons] at ih ⊢; rw [ih]; rfl
theorem in_ints {w : World} {k : IntKind} {a : Option Addr} {len cap : Nat} {zs : List Int} (h : IsRow k w a len cap zs) (j : Nat) :
    ∃ r : InRow, ∃ v, r.at w ∧ (∀ β : Bj, β j = some r.pl → VR β v (.slice a len cap)) ∧ (∀ h : AH, h[j]? = some (inObj r) → SlT 1 (eK k) h v (zs.take len)) ∧ ∀ n ∈ zs.take len, (Lit.int k n).wf = true := by
  have hlen : len ≤ zs.length ∧ len ≤ cap ∧ cap < openCap := by
    rcases h with ⟨rfl, rfl, rfl, rfl⟩ | ⟨x, rfl, h1, h2, h3, _⟩
    · exact ⟨Nat.le_refl _, Nat.le_refl _, by decide⟩
    · exact ⟨by omega, h1, maxLen_open h2⟩
  have hl : (zs.take len).length = len := by rw [List.length_take]; omega
  obtain ⟨r, v, h1, h2, h3⟩ := in_slice (w := w) (s := 1) (by decide) (a := a) (len := len) (cap := cap) (cs := flat (eK k) (zs.take len)) (by rw [flat_eK, List.length_map, hl]; omega) hlen.2.1 hlen.2.2
    (by rcases h with ⟨rfl, rfl, rfl, rfl⟩ | ⟨x, rfl, _⟩
        · exact fun _ => ⟨rfl, rfl⟩
        · exact fun h => by cases h)
    (by rcases h with ⟨rfl, rfl, rfl, rfl⟩ | ⟨x, rfl, g1, g2, g3, g4, g5⟩
        · exact fun _ h => by cases h
        · intro y hy hc
          cases hy
          have := g4 0 (by omega)
          exact World.cell?_spot (by simpa [Addr.add] using this))
    (by rcases h with ⟨rfl, rfl, rfl, rfl⟩ | ⟨x, rfl, g1, g2, g3, g4, g5⟩
        · exact fun _ h => by cases h
        · intro y hy i v hv
          cases hy
          rw [flat_eK, List.getElem?_map] at hv
          cases e : (zs.take len)[i]? with
          | none => rw [e] at hv; cases hv
          | some n =>
            rw [e] at hv
            cases hv
            rw [List.getElem?_take] at e
            split at e
            · have hi := (List.getElem?_eq_some_iff.1 e).1
              have := g4 i hi
              rw [List.getD_eq_getElem?_getD, e] at this
              exact this
            · cases e)
    (by
      intro v hv
      rw [flat_eK] at hv
      obtain ⟨n, _, rfl⟩ := List.mem_map.1 hv
      rfl) j
  refine ⟨r, v, h1, h2, fun h hj => ?_, fun n hn => ?_⟩
  · have := h3 h hj
    unfold SlT
    rw [hl]
    exact this
  · rcases h with ⟨rfl, rfl, rfl, rfl⟩ | ⟨x, rfl, g1, g2, g3, g4, g5⟩
    · simp at hn
    · exact g5 n (List.mem_of_mem_take hn)
end Go.AM
namespace Go.AM
open Go
theorem i64_wf {n : Int} (h : (Lit.int .i64 n).wf = true) : -9223372036854775808 ≤ n ∧ n ≤ 9223372036854775807 := by
  simp [Lit.wf, IntKind.min, IntKind.max, IntKind.bits, IntKind.signed] at h
  omega
end Go.AM
end

section
/- The abstract machine, run: some calls by rules of their own; a call that names no memory is what it is at nothing. Conditions: none. -/
namespace Go.AM
open Go
variable {P : Program}
abbrev OrcX := FuncId → Option (List Value → HS → KB → Bool)
def OrcXOK (P : Program) (o : OrcX) : Prop := ∀ f X, o f = some X → ∀ args s k h K, RepH s h → KOK k K → X args s k = true → callW P f args h K
def callB2 (P : Program) (orc : OrcX) (fuel : Nat) : Nat → CallB
  | 0, _, _, _, _ => false
  | d + 1, f, args, s, k => match orc f with
    | some X => X args s k
    | none => match P.funcs[f]? with
      | some fn => match fn.body, fnOK fn && decide (args.length ≤ fn.ntmps) && Nat.blt fn.ntmps 1000000 with
        | some c, true => codeB P (callB2 P orc fuel d) fuel c (endB P fn k) (teOf args 0 .leaf) s
        | _, _ => false
      | none => false
theorem callB2_ok {orc : OrcX} (ho : OrcXOK P orc) {fuel : Nat} : ∀ (d : Nat), XOK (callB2 P orc fuel d) (callW P)
  | 0 => fun f args s k h K R hk hb => by cases hb
  | d + 1 => fun f args s k h K R hk hb => by
    simp only [callB2] at hb
    split at hb
    · rename_i X hX
      exact ho _ _ hX _ _ _ _ _ R hk hb
    · split at hb
      · rename_i fn hfn
        split at hb
        · rename_i c hc hok
          simp only [Bool.and_eq_true] at hok
          have hnt := blt_lt hok.2
          have hlen : args.length ≤ fn.ntmps := of_decide_eq_true hok.1.2
          refine callW_step (.inr (.inl ?_))
          unfold stepF
          simp only [hfn, hc, hok.1.1, hok.1.2, Bool.and_self]
          have hco : codeOK fn.ntmps c = true := by
            have := hok.1.1
            unfold fnOK at this
            rw [hc, Bool.and_eq_true] at this
            exact this.2
          refine codeB_ok (callB2_ok ho d) hnt c hco ?_ (teOf_rep (by omega)) R hb
          intro x te e s h E R hh
          cases x with
          | normal =>
            simp only [endB, resListB_eq E R] at hh
            exact optB_ok hh fun v hv => hk _ _ _ R hv
          | ret =>
            simp only [endB, resListB_eq E R] at hh
            exact optB_ok hh fun v hv => hk _ _ _ R hv
          | _ => cases hh
        · cases hb
      · cases hb
theorem run2_true {orc : OrcX} (ho : OrcXOK P orc) {fuel d : Nat} {f : FuncId} {args : List Value} (hb : callB2 P orc fuel d f args hs0 (fun v _ => isTrueV v) = true) : callW P f args [] fun v _ => v = .bool true :=
  callB2_ok ho d f args _ _ _ _ hs0_rep (fun _ _ _ _ hh => isTrueV_eq hh) hb
theorem pure_of (hmix : P.follows .mixedOrders = true) {f : FuncId} {v : Value} (hv : pureS v = true) (hr : callW P f [] [] fun x _ => x = v) : isPure P f [] (· = v) := by
  obtain ⟨hf, hc⟩ := callW_sim hmix _ _ _ _ hr
  refine ⟨hf, fun a ha => absurd ha (List.not_mem_nil), ⟨v, rfl⟩, fun x hx => by rw [show x = v from hx]; exact hv, fun w => ?_⟩
  refine (hc β0 #[] w ⟨rfl, fun i hi => by simp at hi⟩ (rel0 w)).mono ?_
  rintro en w' ⟨x, x', β', h', rfl, rfl, hx, _, X⟩
  refine ⟨⟨x, ?_, rfl⟩, X.os, X.tape, X.out, X.size, fun k hk => X.cfr k hk ?_⟩
  · rw [hx.pureS_eq hv]
  · rintro ⟨id, p, hp, _⟩
    cases hp
theorem callW_pure (hmix : P.follows .mixedOrders = true) {f : FuncId} {v : Value} {h : AH} {K : Value → AH → Prop} (hv : pureS v = true) (hr : callW P f [] [] fun x _ => x = v) (k : K v h) : callW P f [] h K :=
  callW_step (.inl (.inr ⟨_, pure_of hmix hv hr, fun x hx => by rw [show x = v from hx]; exact k⟩))
end Go.AM
end
