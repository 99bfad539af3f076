/- Machines of numbers: the walks of pick, Make, one. Conditions: none. -/
import Derived.Test.YtebbjimmgblcpaaQF27
namespace Go.Proofs.Ytebbjimmgblcpaa.W
open Go Go.AM FeedM
set_option linter.unusedVariables false
set_option maxRecDepth 100000

def SymOK (l : List Sy) (s kind : Int) : Prop := 0 ≤ s ∧ s < (l.length : Nat) ∧ kindAt l s.toNat = kind

theorem pick55 {h : AH} {v0 : Value} {l : List Sy} {kind n : Int} {K : Value → AH → Prop} (hl : Syms h v0 l) (bl : l.length ≤ 1000) (hn : 0 ≤ n)
    (k : ∀ h' r, Ex h h' → (r = -1 ∨ SymOK l r kind) → K (.int .i64 r) h') : callW Try.prog 55 [v0, .int .i64 kind, .int .i64 n] h K := by
  refine c55 ?_
  unfold s55
  have r40 : (10000000 : Nat) < room40 := big40
  refine loopE_intro (fun m e h' => ∃ (i : Nat) (w : List Int), i ≤ l.length ∧ m = l.length - i ∧ e 0 = v0 ∧ e 1 = .int .i64 kind ∧ e 2 = .int .i64 n ∧ e 8 = .int .i64 i ∧ Ex h h' ∧ w.length ≤ i ∧ (∀ x ∈ w, SymOK l x kind) ∧
    OwnSl 1 h.length h' (e 7) w.length (flat eI w)) l.length ⟨0, [], Nat.zero_le _, rfl, rfl, rfl, rfl, rfl, Ex.refl h, Nat.le_refl _, (fun x hx => by cases hx), OwnSl.nil _ _ _⟩ ?_
  rintro I m e h' ⟨i, w, hi, hm, e0, e1, e2, e8, hx, hw, hin, ho⟩ hI
  rw [e0, e1, e2, e8]
  refine w_len hl (w_lss ?_)
  refine c_dec (fun q => ?_) (fun q => ?_)
  · obtain ⟨x, hxx⟩ := getElem?_of_lt (l := l) (i := i) (by omega)
    refine w_idxN (enc := eSy) eSy_len (hl.ex hx) hxx fun p hp => w_off hp (by simp [eSy_len]) fun p hp => w_rd1 hp rfl (w_eql ?_)
    refine c_dec (fun q1 => ?_) (fun q1 => ?_)
    · refine w_some (bldSl_one rfl (by decide) rfl rfl) ?_
      refine n_new ?_
      refine app_one (enc := eI) (x := (i : Int)) (by decide) eI_len ho (by omega) hx.len fun v' h'' o1 o2 o3 o4 => ?_
      refine w_add (by omega) (by omega) ?_
      refine hI (m - 1) _ _ (by omega) ⟨i + 1, w ++ [(i : Int)], by omega, by omega, e0, e1, e2, rfl, ⟨Nat.le_trans hx.len (by omega), fun j hj => ?_⟩, by simp; omega, fun y hy => ?_, o1⟩
      · rw [o3 j (by have := hx.len; omega) (ho.not_old hj), List.getElem?_append_left (Nat.lt_of_lt_of_le hj hx.len)]
        exact hx.get j hj
      · rcases List.mem_append.1 hy with hy | hy
        · exact hin y hy
        · rw [List.mem_singleton.1 hy]
          refine ⟨by omega, by omega, ?_⟩
          unfold kindAt
          rw [Int.toNat_natCast, hxx]
          exact q1
    · refine w_add (by omega) (by omega) ?_
      exact hI (m - 1) _ _ (by omega) ⟨i + 1, w, by omega, by omega, e0, e1, e2, rfl, hx, by omega, hin, ho⟩
  · refine w_len ho.sl (w_eql ?_)
    refine c_dec (fun q1 => ?_) (fun q1 => ?_)
    · exact k h' (-1) hx (.inl rfl)
    · refine w_len ho.sl (w_rem (by omega) hn ?_)
      have h1 : 0 ≤ n % ((w.length : Nat) : Int) := Int.emod_nonneg _ (by omega)
      have h2 : n % ((w.length : Nat) : Int) < (w.length : Nat) := Int.emod_lt_of_pos _ (by omega)
      obtain ⟨y, hy⟩ := getElem?_of_lt (l := w) (i := (n % ((w.length : Nat) : Int)).toNat) (by omega)
      refine w_idxT (enc := eI) eI_len ho.sl h1 hy fun p hp => w_rd1 hp rfl ?_
      exact k h' y hx (.inr (hin y (List.mem_of_getElem? hy)))

theorem w_quo' {P : Program} {t : TypeId} {a b : Int} {K : Value → Prop} (h : b ≠ 0) (k : ∀ c, K (.int .i64 c)) : optW (pBin P .quo t (.int .i64 a) (.int .i64 b)) K := by
  refine w_some (v := .int .i64 (IntKind.i64.wrap (a.tdiv b))) ?_ (k _)
  show (if IntKind.i64 = IntKind.i64 then pBinI .quo .i64 a b else none) = _
  rw [if_pos rfl, pBinI, if_neg h]

def szs : Nat → Nat
  | 0 => 1
  | 1 => 1
  | 2 => 4
  | 3 => 4
  | _ => 3
def cellsOf (m : Mach) : Nat → List Value
  | 0 => flat eI m.init
  | 1 => flat eI m.final
  | 2 => flat e4 m.opens
  | 3 => flat e4 m.closes
  | _ => flat e3 m.inners
def numOf (m : Mach) : Nat → Nat
  | 0 => m.init.length
  | 1 => m.final.length
  | 2 => m.opens.length
  | 3 => m.closes.length
  | _ => m.inners.length
theorem szs_pos : ∀ i, 0 < szs i
  | 0 => by decide
  | 1 => by decide
  | 2 => by decide
  | 3 => by decide
  | _ + 4 => by show 0 < 3; decide
def updV (v : Nat → Value) (i : Nat) (x : Value) : Nat → Value := fun j => if j = i then x else v j

/-- a machine under way, at a place of its own: five slices that grow. -/
structure MkR (h : AH) (p : Nat) (m : Mach) (v : Nat → Value) (F : Nat → Prop) : Prop where
  row : h[p]? = some (.row (mcells m.n m.g (v 0) (v 1) (v 2) (v 3) (v 4)) true)
  own : ∀ i, i < 5 → OwnG (szs i) F h (v i) (numOf m i) (cellsOf m i)
  hF : ∀ j, F j → p < j
  ap : ∀ i j, i < 5 → j < 5 → i ≠ j → ∀ x, onId (v i) x → ¬ onId (v j) x

theorem MkR.ex {h h' : AH} {p : Nat} {m : Mach} {v : Nat → Value} {F : Nat → Prop} (r : MkR h p m v F) (x : Ex h h') : MkR h' p m v F :=
  ⟨x.some r.row, fun i hi => (r.own i hi).mono (fun _ _ h => h) fun j hj _ => x.get j ((r.own i hi).on hj).2, r.hF, r.ap⟩

theorem MkR.app {h : AH} {p : Nat} {m m' : Mach} {v : Nat → Value} {F : Nat → Prop} {news : List Value} {K : Nat → Value → Value → AH → Prop} (r : MkR h p m v F) (i : Nat) (hi : i < 5) (hn : m'.n = m.n) (hg : m'.g = m.g)
    (hc : cellsOf m' i = cellsOf m i ++ news) (hN : numOf m' i = numOf m i + 1) (hc' : ∀ j, j ≠ i → j < 5 → cellsOf m' j = cellsOf m j ∧ numOf m' j = numOf m j) (hl : news.length = szs i) (hb : numOf m i + 1 < room40)
    (k : ∀ v2 h' F', MkR h' p m' v2 F' → h.length < h'.length → (∀ j, j < h.length → j ≠ p → ¬ F j → h'[j]? = h[j]?) → (∀ j, F' j → F j ∨ h.length ≤ j) → ∀ a b c, K a b c h') :
    newW none (.row news true) h fun i1 h1 => appSl (szs i) (v i) (.slice (some ⟨i1, 0, none⟩) 1 1) h1 fun v' h2 => optW (pOff (2 + i) (.pointer (some ⟨p, 0, none⟩))) fun q => optW (pStore 1 q v' h2) (K i1 v' q) := by
  have hpl := lt_of_get r.row
  refine app_field (m := 1) (szs_pos i) r.row (off := 2 + i) (by show 2 + i < 7; omega) (r.own i hi) rfl (by decide) (by rw [hl]; omega) hb r.hF fun v' h9 o1 s1 l9 g9 keep ids a b => ?_
  refine k (updV v i v') h9 (fun j => F j ∨ j = h.length + 1) ⟨?_, fun j hj => ?_, fun j hj => ?_, fun a b ha hb hab x hx hy => ?_⟩ l9 (fun j hj hjp hF => keep j hj hjp fun hh => hF ((r.own i hi).on hh).1) (fun j hj => hj.imp id fun e => by omega) _ _ _
  · rw [g9, hn, hg]
    match i, hi with
    | 0, _ => rfl
    | 1, _ => rfl
    | 2, _ => rfl
    | 3, _ => rfl
    | 4, _ => rfl
  · by_cases e : j = i
    · subst e
      unfold updV
      rw [if_pos rfl, hc, hN]
      exact o1
    · obtain ⟨q1, q2⟩ := hc' j e hj
      unfold updV
      rw [if_neg e, q1, q2]
      exact (r.own j hj).mono (fun x _ h => .inl h) fun x hx _ => keep x ((r.own j hj).on hx).2 (fun e' => by have := r.hF x ((r.own j hj).on hx).1; omega) fun hh => r.ap i j hi hj (fun e' => e e'.symm) x hh hx
  · rcases hj with h | h
    · exact r.hF j h
    · omega
  · unfold updV at hx hy
    by_cases e : a = i
    · rw [if_pos e] at hx
      rw [if_neg (fun e' => hab (e.trans e'.symm))] at hy
      rcases ids x hx with h | h
      · exact r.ap i b hi hb (fun e' => hab (e.trans e')) x h hy
      · have := ((r.own b hb).on hy).2; omega
    · rw [if_neg e] at hx
      by_cases e2 : b = i
      · rw [if_pos e2] at hy
        rcases ids x hy with h | h
        · exact r.ap a i ha hi e x hx h
        · have := ((r.own a ha).on hx).2; omega
      · rw [if_neg e2] at hy
        exact r.ap a b ha hb hab x hx hy

theorem n_res {o : AObj} {h : AH} {K : Nat → AH → Prop} (k : newW none o h K) : newW (some h.length) o (reserve 1 h) K := by
  refine n_slot ?_
  rw [reserve_set]
  exact k

/-- a machine that may be. -/
structure MkOK (l : List Sy) (m : Mach) (b : Nat) : Prop where
  n : 1 ≤ m.n ∧ m.n ≤ 3
  g : 1 ≤ m.g ∧ m.g ≤ 2
  init : ∀ p ∈ m.init, 0 ≤ p ∧ p < m.n
  final : ∀ p ∈ m.final, 0 ≤ p ∧ p < m.n
  opens : ∀ o ∈ m.opens, (0 ≤ o.1 ∧ o.1 < m.n) ∧ SymOK l o.2.1 1 ∧ (0 ≤ o.2.2.1 ∧ o.2.2.1 < m.n) ∧ 1 ≤ o.2.2.2 ∧ o.2.2.2 ≤ m.g
  closes : ∀ o ∈ m.closes, (0 ≤ o.1 ∧ o.1 < m.n) ∧ SymOK l o.2.1 2 ∧ (0 ≤ o.2.2.2 ∧ o.2.2.2 < m.n) ∧ 0 ≤ o.2.2.1 ∧ o.2.2.1 ≤ m.g
  inners : ∀ o ∈ m.inners, (0 ≤ o.1 ∧ o.1 < m.n) ∧ SymOK l o.2.1 3 ∧ (0 ≤ o.2.2 ∧ o.2.2 < m.n)
  cnt : m.init.length + m.final.length + m.opens.length + m.closes.length + m.inners.length ≤ b

theorem mem_snoc {α : Type} {P : α → Prop} {l : List α} {x : α} (h : ∀ y ∈ l, P y) (hx : P x) : ∀ y ∈ l ++ [x], P y := by
  intro y hy
  rcases List.mem_append.1 hy with hy | hy
  · exact h y hy
  · rw [List.mem_singleton.1 hy]; exact hx

theorem MkOK.mono {l : List Sy} {m : Mach} {b c : Nat} (k : MkOK l m b) (h : b ≤ c) : MkOK l m c := { k with cnt := by have := k.cnt; omega }
theorem MkOK.addInit {l : List Sy} {m : Mach} {b : Nat} {p : Int} (k : MkOK l m b) (h : 0 ≤ p ∧ p < m.n) : MkOK l { m with init := m.init ++ [p] } (b + 1) :=
  ⟨k.n, k.g, mem_snoc k.init h, k.final, k.opens, k.closes, k.inners, by have := k.cnt; simp; omega⟩
theorem MkOK.addFinal {l : List Sy} {m : Mach} {b : Nat} {p : Int} (k : MkOK l m b) (h : 0 ≤ p ∧ p < m.n) : MkOK l { m with final := m.final ++ [p] } (b + 1) :=
  ⟨k.n, k.g, k.init, mem_snoc k.final h, k.opens, k.closes, k.inners, by have := k.cnt; simp; omega⟩
theorem MkOK.addOpen {l : List Sy} {m : Mach} {b : Nat} {o : Int × Int × Int × Int} (k : MkOK l m b) (h : (0 ≤ o.1 ∧ o.1 < m.n) ∧ SymOK l o.2.1 1 ∧ (0 ≤ o.2.2.1 ∧ o.2.2.1 < m.n) ∧ 1 ≤ o.2.2.2 ∧ o.2.2.2 ≤ m.g) : MkOK l { m with opens := m.opens ++ [o] } (b + 1) :=
  ⟨k.n, k.g, k.init, k.final, mem_snoc k.opens h, k.closes, k.inners, by have := k.cnt; simp; omega⟩
theorem MkOK.addClose {l : List Sy} {m : Mach} {b : Nat} {o : Int × Int × Int × Int} (k : MkOK l m b) (h : (0 ≤ o.1 ∧ o.1 < m.n) ∧ SymOK l o.2.1 2 ∧ (0 ≤ o.2.2.2 ∧ o.2.2.2 < m.n) ∧ 0 ≤ o.2.2.1 ∧ o.2.2.1 ≤ m.g) : MkOK l { m with closes := m.closes ++ [o] } (b + 1) :=
  ⟨k.n, k.g, k.init, k.final, k.opens, mem_snoc k.closes h, k.inners, by have := k.cnt; simp; omega⟩
theorem MkOK.addInner {l : List Sy} {m : Mach} {b : Nat} {o : Int × Int × Int} (k : MkOK l m b) (h : (0 ≤ o.1 ∧ o.1 < m.n) ∧ SymOK l o.2.1 3 ∧ (0 ≤ o.2.2 ∧ o.2.2 < m.n)) : MkOK l { m with inners := m.inners ++ [o] } (b + 1) :=
  ⟨k.n, k.g, k.init, k.final, k.opens, k.closes, mem_snoc k.inners h, by have := k.cnt; simp; omega⟩

theorem flat_snoc {α : Type} (enc : α → List Value) (l : List α) (x : α) : flat enc (l ++ [x]) = flat enc l ++ enc x := by rw [flat_append]; simp [flat]
end Go.Proofs.Ytebbjimmgblcpaa.W
