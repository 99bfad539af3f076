/- Parts of a proof, joined by a program. Conditions: none. -/
import Derived.Test.YtdlbiliolbdbmaaGreatRB1
import Derived.Test.YtdlbiliolbdbmaaGreatRA3
import Derived.Test.YtdlbiliolbdbmaaGreatProg
import Derived.Shelf.Small.Strs
import Derived.Test.YtdlbiliolbdbmaaGreatRA2
import Derived.Test.YtdlbiliolbdbmaaGreatRS0
import Derived.Below
import Derived.WalkKit
import Derived.BigCall

section
/- Top's laws, package fold: the small machine: its parts. Conditions: none. -/
namespace Go.Proofs.YtdlbiliolbdbmaaGreat.W
open Go Go.AM FoldPM
set_option linter.unusedVariables false
set_option maxRecDepth 100000
theorem cloneG {e tt : Nat} {z : Value} {h : AH} {v : Value} {n : Nat} {cs : List Value} {K : Value → AH → Prop} (ht : Tryz.prog.underlying tt = some (.slice e)) (hv : Sl 1 h v n cs) (hn : n ≤ 100000) (k : ∀ v' h', Ex h h' → Sl 1 h' v' n cs → (∀ j, onId v' j → h.length ≤ j ∧ j < h'.length) → K v' h') :
    optW (pBin Tryz.prog .eql tt v (.slice none 0 0)) fun v4 => condW v4 (K (.slice none 0 0) h) (optW (bldSl 1 [z] 0 []) fun c => newW none (.row c true) h fun i h_1 => appSl 1 (.slice (some ⟨i, 0, none⟩) 0 0) v h_1 fun v7 h_2 => K v7 h_2) := by
  obtain ⟨a, cap, e⟩ := hv.shape
  have hv' := hv
  rw [e]
  rw [e] at hv'
  refine w_slnil ht ?_
  cases a with
  | none =>
    have n0 : n = 0 := by
      rcases hv'.2 with ⟨e2, h0⟩ | ⟨id, off, cap', e2, _⟩
      · exact h0
      · cases e2
    subst n0
    have : cs = [] := List.eq_nil_of_length_eq_zero (by have := hv.1; omega)
    subst this
    exact c_t (k _ _ (Ex.refl _) ⟨rfl, .inl ⟨rfl, rfl⟩⟩ fun j hj => hj.elim)
  | some ad => exact c_f (clone_tail (s := 1) (z := [z]) rfl Nat.zero_lt_one hv' (by have := bigR; omega) k)
theorem clone41 {h : AH} {v : Value} {n : Nat} {cs : List Value} {K : Value → AH → Prop} (hv : Sl 1 h v n cs) (hn : n ≤ 100000) (k : ∀ v' h', Ex h h' → Sl 1 h' v' n cs → (∀ j, onId v' j → h.length ≤ j ∧ j < h'.length) → K v' h') : callW Tryz.prog 52 [v] h K := by
  refine c52 ?_
  unfold s52
  exact cloneG (e := 22) (by kernel_rfl) hv hn k
theorem clone42 {h : AH} {v : Value} {n : Nat} {cs : List Value} {K : Value → AH → Prop} (hv : Sl 1 h v n cs) (hn : n ≤ 100000) (k : ∀ v' h', Ex h h' → Sl 1 h' v' n cs → (∀ j, onId v' j → h.length ≤ j ∧ j < h'.length) → K v' h') : callW Tryz.prog 53 [v] h K := by
  refine c53 ?_
  unfold s53
  exact cloneG (e := 4) (by kernel_rfl) hv hn k
theorem clone43 {h : AH} {v : Value} {n : Nat} {cs : List Value} {K : Value → AH → Prop} (hv : Sl 1 h v n cs) (hn : n ≤ 100000) (k : ∀ v' h', Ex h h' → Sl 1 h' v' n cs → (∀ j, onId v' j → h.length ≤ j ∧ j < h'.length) → K v' h') : callW Tryz.prog 54 [v] h K := by
  refine c54 ?_
  unfold s54
  exact cloneG (e := 52) (by kernel_rfl) hv hn k
def cOf (c : List Int) (x : Int) : Int := c.getD x.toNat 0
theorem to39W {h : AH} {v : Value} {l c : List Int} {P X C cnt : Nat} {u : MoV} {m : Mo} {vis vc : Value} {K : Value → AH → Prop} (hl : Ints h v l) (sz : l.length ≤ 1000) (gP : h[P]? = some (.row [.pointer (some ⟨X, 0, none⟩)] true)) (Pa : Part h X C u m vis vc c cnt) (el : ∀ x ∈ l, 0 ≤ x ∧ x.toNat < c.length)
    (k : ∀ v' h', Ex h h' → Ints h' v' (l.map (cOf c)) → (∀ j, onId v' j → h.length ≤ j ∧ j < h'.length) → RowW h' v' → K v' h') : callW Tryz.prog 50 [v, .pointer (some ⟨P, 0, none⟩)] h K := by
  refine c50 ?_
  unfold s50
  refine w_len hl ?_
  refine loopE_intro (fun mm e h' => ∃ i : Nat, i ≤ l.length ∧ mm = l.length - i ∧ e 1 = .pointer (some ⟨P, 0, none⟩) ∧ e 7 = v ∧ e 8 = .int .i64 (l.length : Nat) ∧ e 9 = .int .i64 (i : Nat) ∧ Ex h h' ∧ OwnG 1 (fun j => h.length ≤ j) h' (e 4) i (flat eI ((l.take i).map (cOf c)))) l.length
    ⟨0, Nat.zero_le _, rfl, rfl, rfl, rfl, rfl, Ex.refl _, OwnG.nil _ _ _⟩ ?_
  rintro I mm e h1 ⟨i, hi, hmm, e1, e7, e8, e9, x1, o1⟩ ih
  rw [e7, e8, e9, e1]
  refine w_lss (c_dec (fun q => ?_) (fun q => ?_))
  · obtain ⟨x, hx⟩ := getElem?_of_lt (l := l) (i := i) (by omega)
    obtain ⟨x0, xn⟩ := el x (List.mem_of_getElem? hx)
    obtain ⟨y, hy⟩ := getElem?_of_lt (l := c) (i := x.toNat) xn
    have P1 := Pa.ex x1
    refine w_idxN eI_len (Sl.ex hl x1) hx fun z hz => w_rd1 hz rfl ?_
    refine w_rdP (x1.some gP) rfl (w_nilc (w_offP (w_rdP P1.row (v := vc) rfl ?_)))
    refine w_idxT eI_len P1.cls.sl x0 hy fun z hz => w_rd1 hz rfl ?_
    refine bldT rfl (by decide) rfl rfl (n_newv fun h2 x2 l2 g2 => appSl_of ?_)
    have o2 := o1.mono (F' := fun j => h.length ≤ j) (h' := h2) (fun _ _ h => h) fun j hj _ => x2.get j (o1.on hj).2
    refine app_g (by decide) o2 (srcL_new (n := 1) (s := 1) g2 (by decide) rfl) rfl (by have := bigR; omega) fun v' h3 a1 a2 a3 a4 => ?_
    refine w_add (by omega) (by omega) ?_
    have e5 : (l.take (i + 1)).map (cOf c) = (l.take i).map (cOf c) ++ [y] := by
      rw [take_succ_get hx, List.map_append]
      congr 1
      show [cOf c x] = [y]
      unfold cOf
      rw [getD_some hy]
    refine ih (l.length - (i + 1)) _ _ (by omega) ⟨i + 1, by omega, rfl, e1, e7, e8, rfl, (x1.trans x2).below a2 fun j hj => a3 j (by have := x1.len; have := x2.len; omega) fun hh => by have := (o1.on hh).1; omega, ?_⟩
    show OwnG 1 (fun j => h.length ≤ j) h3 v' _ _
    rw [e5, flat_append]
    exact OwnG.mono a1 (fun j _ hj => hj.elim id fun e => by have := x1.len; have := x2.len; show h.length ≤ j; omega) fun _ _ _ => rfl
  · have hall : l.take i = l := List.take_of_length_le (by omega)
    rw [hall] at o1
    refine clone40W o1.sl (by omega) fun v' h2 x2 s2 on2 w2 => ?_
    refine k _ _ (x1.trans x2) ?_ (fun j hj => ⟨by have := (on2 j hj).1; have := x1.len; omega, (on2 j hj).2⟩) w2
    have e : i = (l.map (cOf c)).length := by rw [List.length_map]; omega
    rw [e] at s2
    exact s2
theorem to39 {h : AH} {v : Value} {l c : List Int} {P X C cnt : Nat} {u : MoV} {m : Mo} {vis vc : Value} {K : Value → AH → Prop} (hl : Ints h v l) (sz : l.length ≤ 1000) (gP : h[P]? = some (.row [.pointer (some ⟨X, 0, none⟩)] true)) (Pa : Part h X C u m vis vc c cnt) (el : ∀ x ∈ l, 0 ≤ x ∧ x.toNat < c.length)
    (k : ∀ v' h', Ex h h' → Ints h' v' (l.map (cOf c)) → (∀ j, onId v' j → h.length ≤ j ∧ j < h'.length) → K v' h') : callW Tryz.prog 50 [v, .pointer (some ⟨P, 0, none⟩)] h K :=
  to39W hl sz gP Pa el fun v' h' x i o _ => k v' h' x i o
structure SMs (h : AH) (T : Nat) (v : Nat → Value) (cs : Nat → List Value) (Z : Nat → Prop) : Prop where
  sl : SL h T v cs
  z : ∀ j, Z j → T < j ∧ j < h.length ∧ ∀ i, i < 11 → ¬ onId (v i) j
theorem SMs.ex {h h' : AH} {T : Nat} {v : Nat → Value} {cs : Nat → List Value} {Z : Nat → Prop} (s : SMs h T v cs Z) (x : Ex h h') : SMs h' T v cs Z := ⟨s.sl.ex x, fun j hj => ⟨(s.z j hj).1, x.lt (s.z j hj).2.1, (s.z j hj).2.2⟩⟩
theorem SMs.exT {h h' : AH} {T : Nat} {v : Nat → Value} {cs : Nat → List Value} {Z : Nat → Prop} (s : SMs h T v cs Z) (hl : h.length ≤ h'.length) (hh : ∀ j, T < j → j < h.length → h'[j]? = h[j]?) : SMs h' T v cs Z := ⟨s.sl.keep hh, fun j hj => ⟨(s.z j hj).1, by have := (s.z j hj).2.1; omega, (s.z j hj).2.2⟩⟩
theorem SMs.addZ {h h' : AH} {T : Nat} {v : Nat → Value} {cs : Nat → List Value} {Z : Nat → Prop} {W : Nat → Prop} (s : SMs h T v cs Z) (x : Ex h h') (hT : T < h.length) (hW : ∀ j, W j → h.length ≤ j ∧ j < h'.length) : SMs h' T v cs (fun j => Z j ∨ W j) := by
  refine ⟨s.sl.ex x, fun j hj => ?_⟩
  rcases hj with hj | hj
  · exact (s.ex x).z j hj
  · have := hW j hj
    exact ⟨by omega, this.2, fun i hi hh => by have := (s.sl.on hi hh).2; omega⟩
theorem SMs.reset {h : AH} {T : Nat} {v : Nat → Value} {cs : Nat → List Value} {Z : Nat → Prop} (s : SMs h T v cs Z) (i : Nat) : SMs h T (updV v i (.slice none 0 0)) (updC cs i []) Z := by
  refine ⟨s.sl.reset i, fun j hj => ⟨(s.z j hj).1, (s.z j hj).2.1, fun k hk hh => ?_⟩⟩
  unfold updV at hh
  by_cases e : k = i
  · rw [if_pos e] at hh; exact hh
  · rw [if_neg e] at hh; exact (s.z j hj).2.2 k hk hh
theorem SMs.app {hk : AH} {T r i : Nat} {v : Nat → Value} {cs : Nat → List Value} {Z : Nat → Prop} {x z w : Value} {Q : List Value → Nat → Value → AH → Prop} (s : SMs hk T v cs Z) (hi : i < 11) (hT : T < r) (hr : hk[r]? = some .dead) (hz : ¬ Z r) (hw : w = v i) (hx : cellsL x = [x]) (h1 : x.oneCell' = true) (hn : (cs i).length ≤ 1000)
    (k : ∀ c j v' h', SMs h' T (updV v i v') (updC cs i (cs i ++ [x])) Z → (∃ a n c, v' = .slice a n c) → hk.length ≤ h'.length → (∀ j, j ≤ T → h'[j]? = hk[j]?) → (∀ j, Z j → h'[j]? = hk[j]?) → Q c j v' h') :
    optW (bldSl 1 [z] 1 [(0, x)]) fun c => newW (some r) (.row c true) hk fun j h15 => appSl 1 w (.slice (some ⟨j, 0, none⟩) 1 1) h15 fun v' h' => Q c j v' h' := by
  subst hw
  refine bldT rfl (by decide) (by rw [hx]; rfl) (by rw [hx]; simp [h1]) (n_slot ?_)
  rw [hx]
  have lr := lt_of_get hr
  have nr : ∀ i, i < 11 → ¬ onId (v i) r := fun i hi hh => by
    obtain ⟨_, ⟨hv, _⟩ | ⟨id, c, _, hv, g, _⟩⟩ := s.sl.own i hi
    · rw [hv] at hh; exact hh
    · rw [hv] at hh
      have : id = r := hh
      subst this
      rw [hr] at g
      cases g
  have s1 : SL (hk.set r (.row [x] true)) T v cs := ⟨fun i hi => (s.sl.own i hi).mono (fun _ _ h => h) fun j hj _ => get_ne (by intro e; subst e; exact nr i hi hj) _, s.sl.ap⟩
  refine s1.app i hi (get_set _ lr _) (by rw [List.length_set]; omega) nr (by have := bigR; omega) fun v' h' a1 a2 a3 a4 a5 => ?_
  rw [List.length_set] at a3 a4 a5
  obtain ⟨ad, nd, cd, ev⟩ : ∃ a n c, v' = .slice a n c := by
    have := (a1.own i hi)
    unfold updV at this
    rw [if_pos rfl] at this
    obtain ⟨a, n, c, e⟩ := Sl.isSl this.sl
    exact ⟨a, n, c, e⟩
  have hZ : ∀ j, Z j → h'[j]? = hk[j]? := fun j hj => by
    have := s.z j hj
    rw [a4 j this.2.1 this.2.2]
    exact get_ne (by intro e; subst e; exact hz hj) _
  refine k _ _ v' h' ⟨a1, fun j hj => ⟨(s.z j hj).1, by have := (s.z j hj).2.1; omega, fun b hb hh => ?_⟩⟩ ⟨ad, nd, cd, ev⟩ a3 (fun j hj => by rw [a2 j hj]; exact get_ne (by omega) _) hZ
  unfold updV at hh
  by_cases e : b = i
  · rw [if_pos e] at hh
    rcases a5 j hh with h | h
    · exact (s.z j hj).2.2 i hi h
    · have := (s.z j hj).2.1; omega
  · rw [if_neg e] at hh
    exact (s.z j hj).2.2 b hb hh
def RowsZ (h : AH) (Z : Nat → Prop) (vals : List Value) (ls : List (List Int)) : Prop := vals.length = ls.length ∧ ∀ (i : Nat) (l : List Int), ls[i]? = some l → ∃ w, vals[i]? = some w ∧ Ints h w l ∧ ∀ j, onId w j → Z j
def RetsZ (h : AH) (Z : Nat → Prop) (vals : List Value) (rs : List (List (List Int))) : Prop := vals.length = rs.length ∧ ∀ (i : Nat) (r : List (List Int)), rs[i]? = some r → ∃ w vs, vals[i]? = some w ∧ Sl 1 h w r.length vs ∧ (∀ j, onId w j → Z j) ∧ RowsZ h Z vs r
theorem RowsZ.nil (h : AH) (Z : Nat → Prop) : RowsZ h Z [] [] := ⟨rfl, fun i l hl => by simp at hl⟩
theorem RetsZ.nil (h : AH) (Z : Nat → Prop) : RetsZ h Z [] [] := ⟨rfl, fun i l hl => by simp at hl⟩
theorem RowsZ.to {h h' : AH} {Z Z' : Nat → Prop} {vals : List Value} {ls : List (List Int)} (r : RowsZ h Z vals ls) (hz : ∀ j, Z j → Z' j) (hh : ∀ j, Z j → h'[j]? = h[j]?) : RowsZ h' Z' vals ls :=
  ⟨r.1, fun i l hl => by obtain ⟨w, h1, h2, h3⟩ := r.2 i l hl; exact ⟨w, h1, Sl.keepOn h2 fun j hj => hh j (h3 j hj), fun j hj => hz j (h3 j hj)⟩⟩
theorem RetsZ.to {h h' : AH} {Z Z' : Nat → Prop} {vals : List Value} {rs : List (List (List Int))} (r : RetsZ h Z vals rs) (hz : ∀ j, Z j → Z' j) (hh : ∀ j, Z j → h'[j]? = h[j]?) : RetsZ h' Z' vals rs :=
  ⟨r.1, fun i l hl => by obtain ⟨w, vs, h1, h2, h3, h4⟩ := r.2 i l hl; exact ⟨w, vs, h1, Sl.keepOn h2 fun j hj => hh j (h3 j hj), fun j hj => hz j (h3 j hj), h4.to hz hh⟩⟩
theorem RowsZ.snoc {h : AH} {Z : Nat → Prop} {vals : List Value} {ls : List (List Int)} {v : Value} {l : List Int} (r : RowsZ h Z vals ls) (hv : Ints h v l) (hz : ∀ j, onId v j → Z j) : RowsZ h Z (vals ++ [v]) (ls ++ [l]) := by
  refine ⟨by simp [r.1], fun i l' hl => ?_⟩
  rcases getElem?_snoc hl with hl | ⟨rfl, rfl⟩
  · obtain ⟨w, h1, h2⟩ := r.2 i l' hl
    exact ⟨w, by rw [List.getElem?_append_left (List.getElem?_eq_some_iff.1 h1).1]; exact h1, h2⟩
  · exact ⟨v, by rw [← r.1]; simp, hv, hz⟩
theorem RetsZ.snoc {h : AH} {Z : Nat → Prop} {vals : List Value} {rs : List (List (List Int))} {v : Value} {vs : List Value} {r' : List (List Int)} (r : RetsZ h Z vals rs) (hv : Sl 1 h v r'.length vs) (hz : ∀ j, onId v j → Z j) (hr : RowsZ h Z vs r') : RetsZ h Z (vals ++ [v]) (rs ++ [r']) := by
  refine ⟨by simp [r.1], fun i l' hl => ?_⟩
  rcases getElem?_snoc hl with hl | ⟨rfl, rfl⟩
  · obtain ⟨w, ws, h1, h2⟩ := r.2 i l' hl
    exact ⟨w, ws, by rw [List.getElem?_append_left (List.getElem?_eq_some_iff.1 h1).1]; exact h1, h2⟩
  · exact ⟨v, vs, by rw [← r.1]; simp, hv, hz, hr⟩
theorem RowsZ.rows {h : AH} {Z : Nat → Prop} {v : Value} {vals : List Value} {ls : List (List Int)} (r : RowsZ h Z vals ls) (hv : Sl 1 h v ls.length vals) : RowsR h v ls := ⟨vals, hv, fun i l hl => by obtain ⟨w, h1, h2, _⟩ := r.2 i l hl; exact ⟨w, h1, h2⟩⟩
theorem RetsZ.rets {h : AH} {Z : Nat → Prop} {v : Value} {vals : List Value} {rs : List (List (List Int))} (r : RetsZ h Z vals rs) (hv : Sl 1 h v rs.length vals) : RetsR h v rs := ⟨vals, hv, fun i l hl => by obtain ⟨w, vs, h1, h2, _, h4⟩ := r.2 i l hl; exact ⟨w, h1, h4.rows h2⟩⟩
def Fst (c : List Int) (d p : Nat) : Prop := c[p]? = some (d : Int) ∧ ∀ q, q < p → c[q]? ≠ some (d : Int)
theorem Fst.uniq {c : List Int} {d p q : Nat} (h : Fst c d p) (k : Fst c d q) : p = q := by
  rcases Nat.lt_trichotomy p q with h1 | h1 | h1
  · exact absurd h.1 (k.2 p h1)
  · exact h1
  · exact absurd k.1 (h.2 q h1)
def smOf (m : Mo) (f : Nat → Nat) (d : Nat) : List Int := (List.range d).map fun e => m.Of.getD (f e) 0
def smFi (m : Mo) (f : Nat → Nat) (d : Nat) : List Bool := (List.range d).map fun e => m.Fi.getD (f e) false
def smIn (m : Mo) (c : List Int) (f : Nat → Nat) (d : Nat) : List (List Int) := (List.range d).map fun e => (m.In.getD (f e) []).map (cOf c)
def smLow (m : Mo) (c : List Int) (f : Nat → Nat) (d : Nat) : List (List Int) := (List.range d).map fun e => (m.Low.getD (f e) []).map (cOf c)
def smRow (c : List Int) (f : Nat → Nat) (l : List Int) (d : Nat) : List Int := (List.range d).map fun e => cOf c (l.getD (f e) 0)
def smRet (m : Mo) (c : List Int) (cnt : Nat) (f : Nat → Nat) (d : Nat) : List (List (List Int)) := (List.range d).map fun e => (m.Ret.getD (f e) []).map fun l => smRow c f l cnt
def sm (m : Mo) (c : List Int) (cnt : Nat) (f : Nat → Nat) : Mo := ⟨m.pl, m.cl, smOf m f cnt, m.En.map (cOf c), smFi m f cnt, smIn m c f cnt, smLow m c f cnt, smRet m c cnt f cnt⟩
theorem range_succ {α : Type} (g : Nat → α) (d : Nat) : (List.range (d + 1)).map g = (List.range d).map g ++ [g d] := by rw [List.range_succ, List.map_append]; rfl
end Go.Proofs.YtdlbiliolbdbmaaGreat.W
end

section
/- Top's laws, package fold: the small machine under way: steps. Conditions: none. -/
namespace Go.Proofs.YtdlbiliolbdbmaaGreat.W
open Go Go.AM FoldPM
set_option linter.unusedVariables false
set_option maxRecDepth 100000
theorem n_unres {o : AObj} {h : AH} {K : Nat → AH → Prop} (k : newW (some h.length) o (reserve 1 h) K) : newW none o h K := by
  have : K h.length ((reserve 1 h).set h.length o) := k
  rw [reserve_set] at this
  exact this
theorem SMs.appF {hk : AH} {T r i f : Nat} {v : Nat → Value} {cs : Nat → List Value} {Z : Nat → Prop} {row : List Value} {x z w : Value} {Q : List Value → Nat → Value → Value → AH → Prop} (s : SMs hk T v cs Z) (hi : i < 11) (hT : T < r) (hr : hk[r]? = some .dead) (hz : ¬ Z r) (hw : w = v i) (hx : cellsL x = [x]) (h1 : x.oneCell' = true) (hn : (cs i).length ≤ 1000)
    (gT : hk[T]? = some (.row row true)) (hf : f < row.length)
    (k : ∀ c j v' q h', SMs h' T (updV v i v') (updC cs i (cs i ++ [x])) Z → h'[T]? = some (.row (row.set f v') true) → hk.length ≤ h'.length → (∀ j, j < T → h'[j]? = hk[j]?) → (∀ j, Z j → h'[j]? = hk[j]?) → Q c j v' q h') :
    optW (bldSl 1 [z] 1 [(0, x)]) fun c => newW (some r) (.row c true) hk fun j h15 => appSl 1 w (.slice (some ⟨j, 0, none⟩) 1 1) h15 fun v' h16 => optW (pOff f (.pointer (some ⟨T, 0, none⟩))) fun q => optW (pStore 1 q v' h16) fun h' => Q c j v' q h' := by
  refine s.app (Q := fun c j v' h16 => optW (pOff f (.pointer (some ⟨T, 0, none⟩))) fun q => optW (pStore 1 q v' h16) fun h' => Q c j v' q h') hi hT hr hz hw hx h1 hn fun c j v' h16 s' ⟨a, n, cc, ev⟩ l1 hTs hZs => ?_
  subst ev
  have g16 := (hTs T (Nat.le_refl _)).trans gT
  refine w_offP (w_stP g16 (by rw [Nat.zero_add]; exact hf) rfl rfl ?_)
  rw [Nat.zero_add]
  refine k _ _ _ _ _ (s'.exT (by rw [List.length_set]; omega) fun j hj _ => get_ne (by omega) _) (get_set _ (lt_of_get g16) _) (by rw [List.length_set]; exact l1) (fun j hj => (get_ne (by omega) _).trans (hTs j (by omega))) fun j hj => (get_ne (by have := (s.z j hj).1; omega) _).trans (hZs j hj)
structure SmI (hA h : AH) (T : Nat) (pc : Value × Value) (v61 : Value) (ce : List Int) (v : Nat → Value) (cs : Nat → List Value) (Z : Nat → Prop) (a0 : List Int) (a1 : List Bool) (a2 a3 : List (List Int)) (a4 : List (List (List Int))) (a5 : List (List Int)) (a6 : List Int) : Prop where
  ex : Ex hA h
  tl : T = hA.length
  box : h[T]? = some (.row [pc.1, pc.2, v 0, v61, v 1, v 2, v 3, v 4] true)
  s : SMs h T v cs Z
  en : Ints h v61 ce
  ez : ∀ j, onId v61 j → Z j
  c0 : cs 0 = flat eI a0
  c1 : cs 1 = flat eBo a1
  c2 : RowsZ h Z (cs 2) a2
  c3 : RowsZ h Z (cs 3) a3
  c4 : RetsZ h Z (cs 4) a4
  c5 : RowsZ h Z (cs 5) a5
  c6 : cs 6 = flat eI a6
  w2 : ∀ w ∈ cs 2, RowW h w ∧ ∀ j, onId w j → Z j
section
variable {hA h : AH} {T : Nat} {pc : Value × Value} {v61 : Value} {ce : List Int} {v : Nat → Value} {cs : Nat → List Value} {Z : Nat → Prop} {a0 : List Int} {a1 : List Bool} {a2 a3 : List (List Int)} {a4 : List (List (List Int))} {a5 : List (List Int)} {a6 : List Int}
theorem SmI.w2to {h' : AH} {Z' : Nat → Prop} (s : SmI hA h T pc v61 ce v cs Z a0 a1 a2 a3 a4 a5 a6) (hh : ∀ j, Z j → h'[j]? = h[j]?) (hz : ∀ j, Z j → Z' j) : ∀ w ∈ cs 2, RowW h' w ∧ ∀ j, onId w j → Z' j :=
  fun w hw => ⟨(s.w2 w hw).1.keep fun j hj => hh j ((s.w2 w hw).2 j hj), fun j hj => hz j ((s.w2 w hw).2 j hj)⟩
theorem SmI.lt (s : SmI hA h T pc v61 ce v cs Z a0 a1 a2 a3 a4 a5 a6) : T < h.length := lt_of_get s.box
theorem SmI.exx {h' : AH} (s : SmI hA h T pc v61 ce v cs Z a0 a1 a2 a3 a4 a5 a6) (x : Ex h h') : SmI hA h' T pc v61 ce v cs Z a0 a1 a2 a3 a4 a5 a6 := by
  have hz : ∀ j, Z j → h'[j]? = h[j]? := fun j hj => x.get j (s.s.z j hj).2.1
  exact ⟨s.ex.trans x, s.tl, x.some s.box, s.s.ex x, Sl.ex s.en x, s.ez, s.c0, s.c1, s.c2.to (fun _ h => h) hz, s.c3.to (fun _ h => h) hz, s.c4.to (fun _ h => h) hz, s.c5.to (fun _ h => h) hz, s.c6, s.w2to hz fun _ h => h⟩
theorem SmI.addZ {h' : AH} {W : Nat → Prop} (s : SmI hA h T pc v61 ce v cs Z a0 a1 a2 a3 a4 a5 a6) (x : Ex h h') (hW : ∀ j, W j → h.length ≤ j ∧ j < h'.length) : SmI hA h' T pc v61 ce v cs (fun j => Z j ∨ W j) a0 a1 a2 a3 a4 a5 a6 := by
  have hz : ∀ j, Z j → h'[j]? = h[j]? := fun j hj => x.get j (s.s.z j hj).2.1
  exact ⟨s.ex.trans x, s.tl, x.some s.box, s.s.addZ x s.lt hW, Sl.ex s.en x, fun j hj => .inl (s.ez j hj), s.c0, s.c1, s.c2.to (fun _ h => .inl h) hz, s.c3.to (fun _ h => .inl h) hz, s.c4.to (fun _ h => .inl h) hz, s.c5.to (fun _ h => .inl h) hz, s.c6, s.w2to hz fun _ h => .inl h⟩
theorem SmI.reset5 (s : SmI hA h T pc v61 ce v cs Z a0 a1 a2 a3 a4 a5 a6) : SmI hA h T pc v61 ce (updV v 5 (.slice none 0 0)) (updC cs 5 []) Z a0 a1 a2 a3 a4 [] a6 :=
  ⟨s.ex, s.tl, s.box, s.s.reset 5, s.en, s.ez, s.c0, s.c1, s.c2, s.c3, s.c4, RowsZ.nil _ _, s.c6, s.w2⟩
theorem SmI.reset6 (s : SmI hA h T pc v61 ce v cs Z a0 a1 a2 a3 a4 a5 a6) : SmI hA h T pc v61 ce (updV v 6 (.slice none 0 0)) (updC cs 6 []) Z a0 a1 a2 a3 a4 a5 [] :=
  ⟨s.ex, s.tl, s.box, s.s.reset 6, s.en, s.ez, s.c0, s.c1, s.c2, s.c3, s.c4, s.c5, rfl, s.w2⟩
theorem SmI.after {h' : AH} {v' : Nat → Value} {cs' : Nat → List Value} (s : SmI hA h T pc v61 ce v cs Z a0 a1 a2 a3 a4 a5 a6) (l : h.length ≤ h'.length) (hT : ∀ j, j < T → h'[j]? = h[j]?) (hZ : ∀ j, Z j → h'[j]? = h[j]?) (sm : SMs h' T v' cs' Z) :
    Ex hA h' ∧ Ints h' v61 ce ∧ RowsZ h' Z (cs 2) a2 ∧ RowsZ h' Z (cs 3) a3 ∧ RetsZ h' Z (cs 4) a4 ∧ RowsZ h' Z (cs 5) a5 :=
  ⟨s.ex.below l fun j hj => hT j (by have := s.tl; omega), Sl.keepOn s.en fun j hj => hZ j (s.ez j hj), s.c2.to (fun _ h => h) hZ, s.c3.to (fun _ h => h) hZ, s.c4.to (fun _ h => h) hZ, s.c5.to (fun _ h => h) hZ⟩
variable {z : Value} {r : Nat} {Q : List Value → Nat → Value → Value → AH → Prop} {Q' : List Value → Nat → Value → AH → Prop}
theorem SmI.app0 {x : Int} (s : SmI hA h T pc v61 ce v cs Z a0 a1 a2 a3 a4 a5 a6) (hT : T < r) (hr : h[r]? = some .dead) (hz : ¬ Z r) (hn : a0.length ≤ 1000)
    (k : ∀ c j v' q h', h.length ≤ h'.length → SmI hA h' T pc v61 ce (updV v 0 v') (updC cs 0 (cs 0 ++ [.int .i64 x])) Z (a0 ++ [x]) a1 a2 a3 a4 a5 a6 → Q c j v' q h') :
    optW (bldSl 1 [z] 1 [(0, .int .i64 x)]) fun c => newW (some r) (.row c true) h fun j h15 => appSl 1 (v 0) (.slice (some ⟨j, 0, none⟩) 1 1) h15 fun v' h16 => optW (pOff 2 (.pointer (some ⟨T, 0, none⟩))) fun q => optW (pStore 1 q v' h16) fun h' => Q c j v' q h' := by
  refine s.s.appF (i := 0) (by decide) hT hr hz rfl rfl rfl (by rw [s.c0, flat_eI_len]; exact hn) s.box (by show 2 < 8; decide) fun c j v' q h' s' b l hTs hZs => ?_
  obtain ⟨x1, x2, x3, x4, x5, x6⟩ := s.after l hTs hZs s'
  exact k _ _ _ _ _ l ⟨x1, s.tl, b, s', x2, s.ez, by show cs 0 ++ [_] = _; rw [s.c0, flat_append]; rfl, s.c1, x3, x4, x5, x6, s.c6, s.w2to hZs fun _ h => h⟩
theorem SmI.app1 {x : Bool} (s : SmI hA h T pc v61 ce v cs Z a0 a1 a2 a3 a4 a5 a6) (hT : T < r) (hr : h[r]? = some .dead) (hz : ¬ Z r) (hn : a1.length ≤ 1000)
    (k : ∀ c j v' q h', h.length ≤ h'.length → SmI hA h' T pc v61 ce (updV v 1 v') (updC cs 1 (cs 1 ++ [.bool x])) Z a0 (a1 ++ [x]) a2 a3 a4 a5 a6 → Q c j v' q h') :
    optW (bldSl 1 [z] 1 [(0, .bool x)]) fun c => newW (some r) (.row c true) h fun j h15 => appSl 1 (v 1) (.slice (some ⟨j, 0, none⟩) 1 1) h15 fun v' h16 => optW (pOff 4 (.pointer (some ⟨T, 0, none⟩))) fun q => optW (pStore 1 q v' h16) fun h' => Q c j v' q h' := by
  refine s.s.appF (i := 1) (by decide) hT hr hz rfl rfl rfl (by rw [s.c1, flat_eBo_len]; exact hn) s.box (by show 4 < 8; decide) fun c j v' q h' s' b l hTs hZs => ?_
  obtain ⟨x1, x2, x3, x4, x5, x6⟩ := s.after l hTs hZs s'
  exact k _ _ _ _ _ l ⟨x1, s.tl, b, s', x2, s.ez, s.c0, by show cs 1 ++ [_] = _; rw [s.c1, flat_append]; rfl, x3, x4, x5, x6, s.c6, s.w2to hZs fun _ h => h⟩
theorem SmI.app2 {w : Value} {l : List Int} (s : SmI hA h T pc v61 ce v cs Z a0 a1 a2 a3 a4 a5 a6) (hw : Ints h w l) (hq : RowW h w) (wz : ∀ j, onId w j → Z j) (hT : T < r) (hr : h[r]? = some .dead) (hz : ¬ Z r) (hn : a2.length ≤ 1000)
    (k : ∀ c j v' q h', h.length ≤ h'.length → SmI hA h' T pc v61 ce (updV v 2 v') (updC cs 2 (cs 2 ++ [w])) Z a0 a1 (a2 ++ [l]) a3 a4 a5 a6 → Q c j v' q h') :
    optW (bldSl 1 [z] 1 [(0, w)]) fun c => newW (some r) (.row c true) h fun j h15 => appSl 1 (v 2) (.slice (some ⟨j, 0, none⟩) 1 1) h15 fun v' h16 => optW (pOff 5 (.pointer (some ⟨T, 0, none⟩))) fun q => optW (pStore 1 q v' h16) fun h' => Q c j v' q h' := by
  obtain ⟨a, n, cc, ew⟩ := Sl.isSl hw
  refine s.s.appF (i := 2) (by decide) hT hr hz rfl (by rw [ew]; rfl) (by rw [ew]; rfl) (by rw [s.c2.1]; exact hn) s.box (by show 5 < 8; decide) fun c j v' q h' s' b l' hTs hZs => ?_
  obtain ⟨x1, x2, x3, x4, x5, x6⟩ := s.after l' hTs hZs s'
  exact k _ _ _ _ _ l' ⟨x1, s.tl, b, s', x2, s.ez, s.c0, s.c1, x3.snoc (Sl.keepOn hw fun j hj => hZs j (wz j hj)) wz, x4, x5, x6, s.c6, fun w' hw' => (List.mem_append.1 hw').elim (s.w2to hZs (fun _ h => h) w') fun e => by rw [List.mem_singleton.1 e]; exact ⟨hq.keep fun j hj => hZs j (wz j hj), wz⟩⟩
theorem SmI.app3 {w : Value} {l : List Int} (s : SmI hA h T pc v61 ce v cs Z a0 a1 a2 a3 a4 a5 a6) (hw : Ints h w l) (wz : ∀ j, onId w j → Z j) (hT : T < r) (hr : h[r]? = some .dead) (hz : ¬ Z r) (hn : a3.length ≤ 1000)
    (k : ∀ c j v' q h', h.length ≤ h'.length → SmI hA h' T pc v61 ce (updV v 3 v') (updC cs 3 (cs 3 ++ [w])) Z a0 a1 a2 (a3 ++ [l]) a4 a5 a6 → Q c j v' q h') :
    optW (bldSl 1 [z] 1 [(0, w)]) fun c => newW (some r) (.row c true) h fun j h15 => appSl 1 (v 3) (.slice (some ⟨j, 0, none⟩) 1 1) h15 fun v' h16 => optW (pOff 6 (.pointer (some ⟨T, 0, none⟩))) fun q => optW (pStore 1 q v' h16) fun h' => Q c j v' q h' := by
  obtain ⟨a, n, cc, ew⟩ := Sl.isSl hw
  refine s.s.appF (i := 3) (by decide) hT hr hz rfl (by rw [ew]; rfl) (by rw [ew]; rfl) (by rw [s.c3.1]; exact hn) s.box (by show 6 < 8; decide) fun c j v' q h' s' b l' hTs hZs => ?_
  obtain ⟨x1, x2, x3, x4, x5, x6⟩ := s.after l' hTs hZs s'
  exact k _ _ _ _ _ l' ⟨x1, s.tl, b, s', x2, s.ez, s.c0, s.c1, x3, x4.snoc (Sl.keepOn hw fun j hj => hZs j (wz j hj)) wz, x5, x6, s.c6, s.w2to hZs fun _ h => h⟩
theorem SmI.app4 {w : Value} {vs : List Value} {l : List (List Int)} (s : SmI hA h T pc v61 ce v cs Z a0 a1 a2 a3 a4 a5 a6) (hw : Sl 1 h w l.length vs) (wz : ∀ j, onId w j → Z j) (wr : RowsZ h Z vs l) (hT : T < r) (hr : h[r]? = some .dead) (hz : ¬ Z r) (hn : a4.length ≤ 1000)
    (k : ∀ c j v' q h', h.length ≤ h'.length → SmI hA h' T pc v61 ce (updV v 4 v') (updC cs 4 (cs 4 ++ [w])) Z a0 a1 a2 a3 (a4 ++ [l]) a5 a6 → Q c j v' q h') :
    optW (bldSl 1 [z] 1 [(0, w)]) fun c => newW (some r) (.row c true) h fun j h15 => appSl 1 (v 4) (.slice (some ⟨j, 0, none⟩) 1 1) h15 fun v' h16 => optW (pOff 7 (.pointer (some ⟨T, 0, none⟩))) fun q => optW (pStore 1 q v' h16) fun h' => Q c j v' q h' := by
  obtain ⟨a, n, cc, ew⟩ := Sl.isSl hw
  refine s.s.appF (i := 4) (by decide) hT hr hz rfl (by rw [ew]; rfl) (by rw [ew]; rfl) (by rw [s.c4.1]; exact hn) s.box (by show 7 < 8; decide) fun c j v' q h' s' b l' hTs hZs => ?_
  obtain ⟨x1, x2, x3, x4, x5, x6⟩ := s.after l' hTs hZs s'
  exact k _ _ _ _ _ l' ⟨x1, s.tl, b, s', x2, s.ez, s.c0, s.c1, x3, x4, x5.snoc (Sl.keepOn hw fun j hj => hZs j (wz j hj)) wz (wr.to (fun _ h => h) hZs), x6, s.c6, s.w2to hZs fun _ h => h⟩
theorem SmI.app5 {w : Value} {l : List Int} (s : SmI hA h T pc v61 ce v cs Z a0 a1 a2 a3 a4 a5 a6) (hw : Ints h w l) (wz : ∀ j, onId w j → Z j) (hn : a5.length ≤ 1000)
    (k : ∀ c j v' h', h.length ≤ h'.length → SmI hA h' T pc v61 ce (updV v 5 v') (updC cs 5 (cs 5 ++ [w])) Z a0 a1 a2 a3 a4 (a5 ++ [l]) a6 → Q' c j v' h') :
    optW (bldSl 1 [z] 1 [(0, w)]) fun c => newW none (.row c true) h fun j h15 => appSl 1 (v 5) (.slice (some ⟨j, 0, none⟩) 1 1) h15 fun v' h' => Q' c j v' h' := by
  obtain ⟨a, n, cc, ew⟩ := Sl.isSl hw
  have xr := Ex.res h
  have sr := s.exx xr
  have gd : (reserve 1 h)[h.length]? = some .dead := by rw [reserve_one]; exact get_new _ _
  have key := sr.s.app (i := 5) (r := h.length) (z := z) (x := w) (w := v 5) (Q := Q') (by decide) s.lt gd (fun hz => by have := (s.s.z _ hz).2.1; omega) rfl (by rw [ew]; rfl) (by rw [ew]; rfl) (by rw [s.c5.1]; exact hn) fun c j v' h' s' _ l' hTs hZs => by
    obtain ⟨x1, x2, x3, x4, x5, x6⟩ := sr.after l' (fun j hj => hTs j (by omega)) hZs s'
    exact k _ _ _ _ (by have := xr.len; omega) ⟨x1, s.tl, (hTs _ (Nat.le_refl _)).trans sr.box, s', x2, s.ez, s.c0, s.c1, x3, x4, x5, x6.snoc (Sl.keepOn (Sl.ex hw xr) fun j hj => hZs j (wz j hj)) wz, s.c6, sr.w2to hZs fun _ h => h⟩
  exact optW_mono (fun c hc => n_unres hc) key
theorem SmI.app6 {x : Int} (s : SmI hA h T pc v61 ce v cs Z a0 a1 a2 a3 a4 a5 a6) (hT : T < r) (hr : h[r]? = some .dead) (hz : ¬ Z r) (hn : a6.length ≤ 1000)
    (k : ∀ c j v' h', h.length ≤ h'.length → SmI hA h' T pc v61 ce (updV v 6 v') (updC cs 6 (cs 6 ++ [.int .i64 x])) Z a0 a1 a2 a3 a4 a5 (a6 ++ [x]) → Q' c j v' h') :
    optW (bldSl 1 [z] 1 [(0, .int .i64 x)]) fun c => newW (some r) (.row c true) h fun j h15 => appSl 1 (v 6) (.slice (some ⟨j, 0, none⟩) 1 1) h15 fun v' h' => Q' c j v' h' := by
  refine s.s.app (i := 6) (by decide) hT hr hz rfl rfl rfl (by rw [s.c6, flat_eI_len]; exact hn) fun c j v' h' s' _ l hTs hZs => ?_
  obtain ⟨x1, x2, x3, x4, x5, x6⟩ := s.after l (fun j hj => hTs j (by omega)) hZs s'
  exact k _ _ _ _ l ⟨x1, s.tl, (hTs _ (Nat.le_refl _)).trans s.box, s', x2, s.ez, s.c0, s.c1, x3, x4, x5, x6, by show cs 6 ++ [_] = _; rw [s.c6, flat_append]; rfl, s.w2to hZs fun _ h => h⟩
end
end Go.Proofs.YtdlbiliolbdbmaaGreat.W
end

section
/- Top's laws, package fold: the code's Small. Conditions: none. -/
namespace Go.Proofs.YtdlbiliolbdbmaaGreat.W
open Go Go.AM FoldPM
set_option linter.unusedVariables false
set_option maxRecDepth 100000
theorem Valid.inEl {m : Mo} (v : Valid m) {p : Nat} (hp : p < m.pm.n) {l : List Int} (hl : m.In[p]? = some l) : l.length ≤ 20 ∧ ∀ x ∈ l, 0 ≤ x ∧ x.toNat < m.pm.n := by
  have h := (v.st p hp).1 _ l (v.ofAt hp) hl
  refine ⟨by have := h.1; have := v.pl.2; omega, fun x hx => ?_⟩
  obtain ⟨i, hi⟩ := List.getElem?_of_mem hx
  have g := h.2 i x hi
  exact ⟨g.1, by show x.toNat < m.Of.length; have := g.1; have := g.2.1; omega⟩
theorem Valid.lowEl {m : Mo} (v : Valid m) {p : Nat} (hp : p < m.pm.n) {l : List Int} (hl : m.Low[p]? = some l) : l.length ≤ 20 ∧ ∀ x ∈ l, 0 ≤ x ∧ x.toNat < m.pm.n := by
  obtain ⟨lo, re, h1, h2, hc⟩ := v.rows hp
  rw [hl] at h1
  cases h1
  have h := hc _ l re (v.ofAt hp) hl h2
  by_cases h0 : m.pm.of p = 0
  · have h := (h.1 h0).2
    refine ⟨by have := h.1; have := v.cl.2; omega, fun x hx => ?_⟩
    obtain ⟨i, hi⟩ := List.getElem?_of_mem hx
    have g := h.2 i x hi
    exact ⟨g.1, by show x.toNat < m.Of.length; have := g.1; have := g.2.1; omega⟩
  · have := List.eq_nil_of_length_eq_zero (h.2 h0).1
    subst this
    exact ⟨Nat.zero_le _, fun x hx => by cases hx⟩
theorem Valid.enEl {m : Mo} (v : Valid m) : m.En.length ≤ 21 ∧ ∀ x ∈ m.En, 0 ≤ x ∧ x.toNat < m.pm.n := by
  refine ⟨by have := v.k2; omega, fun x hx => ?_⟩
  obtain ⟨i, hi⟩ := List.getElem?_of_mem hx
  have g := v.en i x hi
  exact ⟨g.1, by show x.toNat < m.Of.length; have := g.1; have := g.2.1; omega⟩
theorem Valid.retEl {m : Mo} (v : Valid m) {p : Nat} (hp : p < m.pm.n) {r : List (List Int)} (hr : m.Ret[p]? = some r) : r.length ≤ 20 ∧ ∀ l ∈ r, l.length = m.pm.n ∧ ∀ x ∈ l, 0 ≤ x ∧ x.toNat < m.pm.n := by
  obtain ⟨lo, re, h1, h2, hc⟩ := v.rows hp
  rw [hr] at h2
  cases h2
  have h := hc _ lo r (v.ofAt hp) h1 hr
  by_cases h0 : m.pm.of p = 0
  · have := List.eq_nil_of_length_eq_zero (h.1 h0).1
    subst this
    exact ⟨Nat.zero_le _, fun x hx => by cases hx⟩
  · have h := (h.2 h0).2
    refine ⟨by have := h.1; have := v.cl.2; omega, fun l hl => ?_⟩
    obtain ⟨j, hj⟩ := List.getElem?_of_mem hl
    have g := h.2 j l hj
    refine ⟨g.1, fun x hx => ?_⟩
    obtain ⟨i, hi⟩ := List.getElem?_of_mem hx
    obtain ⟨c, _, gx⟩ := g.2 i x hi
    exact ⟨gx.1, by show x.toNat < m.Of.length; have := gx.1; have := gx.2.1; omega⟩
theorem Part.keep {h h' : AH} {X C : Nat} {u : MoV} {m : Mo} {vis vc : Value} {c : List Int} {cnt : Nat} (p : Part h X C u m vis vc c cnt) (hX : h'[X]? = h[X]?) (hC : h'[C]? = h[C]?) : Part h' X C u m vis vc c cnt :=
  ⟨hX.trans p.row, p.cls.mono (fun _ _ h => h) fun j hj hf => by have : j = C := hf; rw [this]; exact hC, p.ne⟩
theorem lr1 (h : AH) : (reserve 1 h).length = h.length + 1 := by rw [reserve_one]; simp
def SmW (h h' : AH) (u : MoV) (s : Mo) : Prop :=
  RowW h' (sv u.vo) ∧ (∀ j, onId (sv u.vo) j → h.length ≤ j) ∧ (∀ j, onId (sv u.vi) j → h.length ≤ j ∧ ¬ onId (sv u.vo) j) ∧ ∃ vals, Sl 1 h' (sv u.vi) s.In.length vals ∧ ∀ (i : Nat) (l : List Int), s.In[i]? = some l → ∃ w, vals[i]? = some w ∧ Ints h' w l ∧ RowW h' w ∧ ∀ j, onId w j → h.length ≤ j ∧ ¬ onId (sv u.vi) j
theorem small18W {h : AH} {u : MoV} {m : Mo} {K : Value → AH → Prop} (mh : MoH h u m) (v : Valid m)
    (k : ∀ h' u' c cnt f, Ex h h' → Canon m.pm.n (Rch m.pm) (EE m.pm) c cnt → (∀ d, d < cnt → Fst c d (f d) ∧ f d < m.pm.n) → MoH h' u' (sm m c cnt f) → SmW h h' u' (sm m c cnt f) → K (.tuple #[.agg (moRow u' (sm m c cnt f)).toArray, .int .i64 0]) h') : callW Tryz.prog 19 [.agg (moRow u m).toArray] h K := by
  have ok := v.ok
  have n1 := ok.n1
  have n2 := v.n2
  have hnn : m.pm.n = m.Of.length := rfl
  have hn60 : m.pm.n ≤ 60 := by omega
  refine c19 ?_
  unfold s19
  refine n_boxv rfl fun h1 x1 l1 g1 => n_rowv fun h2 x2 l2 g2 => ?_
  have g1' : h1[h.length]? = some (.row (moRow u m) true) := g1
  have gb2 := x2.some g1'
  refine w_rdPA gb2 (Nat.le_refl 8) ?_
  refine check15 (mh.ex (x1.trans x2)) (fun nv => absurd v nv) fun _ h3 x3 => w_neq (c_ff (by decide) ?_)
  have x03 := (x1.trans x2).trans x3
  have gb3 := x3.some gb2
  have gR3 := x3.some g2
  refine w_rdPA gb3 (Nat.le_refl 8) ?_
  refine classes38 v (mh.ex x03) fun h5 X C vis vc c cnt x5 hX hC lC Pa Ca => ?_
  have lX := lt_of_get Pa.row
  have hcl := Ca.len
  have cn := Ca.le
  refine n_var rfl rfl rfl fun h7 x7 l7 g7 => ?_
  have gP : h7[h5.length]? = some (.row [.pointer (some ⟨X, 0, none⟩)] true) := g7
  have Pa7 := Pa.ex x7
  refine w_rdP gP rfl (w_nilc (w_offP (w_rdP Pa7.row (v := .int .i64 (cnt : Nat)) rfl ?_)))
  refine w_mk1 (by decide) (by omega) ?_
  refine n_newv fun h8 x8 l8 g8 => ?_
  have gF8 : h8[h7.length]? = some (.row (flat eI (List.replicate cnt 0)) true) := by rw [← repL_zero]; exact g8
  have x58 := x7.trans x8
  have x08 := x03.trans (x5.trans x58)
  have gb8 := (x5.trans x58).some gb3
  have gR8 := (x5.trans x58).some gR3
  have gP8 := x8.some gP
  have Pa8 := Pa7.ex x8
  have m8 := mh.ex x08
  refine w_offP (w_rdP gb8 (v := sv u.vo) rfl (w_len m8.of (w_sub (by omega) (by omega) ?_)))
  refine loopE_intro (fun mm e h' => ∃ (i : Nat) (fl : List Int), i ≤ m.pm.n ∧ mm = i ∧ e 1 = .pointer (some ⟨h.length, 0, none⟩) ∧ e 2 = .pointer (some ⟨h1.length, 0, none⟩) ∧ e 5 = .pointer (some ⟨h5.length, 0, none⟩) ∧ e 6 = .slice (some ⟨h7.length, 0, none⟩) cnt cnt ∧ e 7 = .int .i64 ((i : Int) - 1) ∧
      Exx h7.length h8 h' ∧ h'[h7.length]? = some (.row (flat eI fl) true) ∧ fl.length = cnt ∧ ∀ d, d < cnt → (∃ q : Nat, i ≤ q ∧ c[q]? = some (d : Int)) → ∃ p0 : Nat, fl[d]? = some (p0 : Int) ∧ i ≤ p0 ∧ c[p0]? = some (d : Int) ∧ ∀ q : Nat, i ≤ q → q < p0 → c[q]? ≠ some (d : Int)) m.pm.n
    ⟨m.pm.n, _, Nat.le_refl _, rfl, rfl, rfl, rfl, rfl, rfl, Exx.refl _ _, gF8, List.length_replicate, fun d hd ⟨q, h1, h2⟩ => by have := (List.getElem?_eq_some_iff.1 h2).1; omega⟩ ?_
  rintro J mm e hA ⟨i, fl, hi, hmm, e1, e2, e5, e6, e7, xA, gF, lfl, hfl⟩ ih
  rw [e7, e5, e6, e1]
  have nF : ∀ j, j ≤ h7.length → j ≠ h7.length → hA[j]? = h8[j]? := fun j hj hne => xA.get j (by omega) hne
  have gPA : hA[h5.length]? = some (.row [.pointer (some ⟨X, 0, none⟩)] true) := xA.some gP8 (by omega)
  have PaA : Part hA X C u m vis vc c cnt := Pa8.keep (nF _ (by omega) (by omega)) (nF _ (by omega) (by omega))
  refine w_geq (c_dec (fun q => ?_) (fun q => ?_))
  · obtain ⟨p, rfl⟩ : ∃ p, i = p + 1 := ⟨i - 1, by omega⟩
    have ep : (((p + 1 : Nat) : Int)) - 1 = ((p : Nat) : Int) := by omega
    rw [ep]
    refine w_rdP gPA rfl (w_nilc (w_offP (w_rdP PaA.row (v := vc) rfl ?_)))
    obtain ⟨x, hx⟩ := getElem?_of_lt (l := c) (i := p) (by omega)
    refine w_idxN eI_len PaA.cls.sl hx fun z hz => w_rd1 hz rfl (w_geq (c_dec (fun q1 => ?_) (fun q1 => ?_)))
    · have rp : Rch m.pm p := by
        by_cases r : Rch m.pm p
        · exact r
        · have := Ca.un p (by omega) r
          rw [hx] at this
          cases this
          omega
      obtain ⟨d, hd, hdx⟩ := Ca.re p (by omega) rp
      rw [hx] at hdx
      cases hdx
      refine w_ix hd (w_stP gF (by rw [flat_eI_len]; omega) rfl rfl ?_)
      rw [flat_eI_set]
      refine w_sub (by omega) (by omega) ?_
      refine ih p _ _ (by omega) ⟨p, fl.set d (p : Int), by omega, rfl, e1, e2, e5, e6, rfl, xA.set _, get_set _ (lt_of_get gF) _, by rw [List.length_set]; exact lfl, fun d' hd' ⟨q, h1, h2⟩ => ?_⟩
      by_cases ed : d' = d
      · subst ed
        exact ⟨p, List.getElem?_set_self (by omega), Nat.le_refl _, hx, fun q' h3 h4 => by omega⟩
      · have hq : q ≠ p := fun e => by
          subst e
          rw [hx] at h2
          injection h2 with h2
          omega
        obtain ⟨p0, a1, a2, a3, a4⟩ := hfl d' hd' ⟨q, by omega, h2⟩
        refine ⟨p0, by rw [List.getElem?_set_ne (Ne.symm ed)]; exact a1, by omega, a3, fun q' h3 h4 => ?_⟩
        by_cases eq : q' = p
        · subst eq
          rw [hx]
          intro hh
          injection hh with hh
          omega
        · exact a4 q' (by omega) h4
    · refine w_sub (by omega) (by omega) ?_
      refine ih p _ _ (by omega) ⟨p, fl, by omega, rfl, e1, e2, e5, e6, rfl, xA, gF, lfl, fun d' hd' ⟨q, h1, h2⟩ => ?_⟩
      have hq : q ≠ p := fun e => by
        subst e
        rw [hx] at h2
        injection h2 with h2
        omega
      obtain ⟨p0, a1, a2, a3, a4⟩ := hfl d' hd' ⟨q, by omega, h2⟩
      refine ⟨p0, a1, by omega, a3, fun q' h3 h4 => ?_⟩
      by_cases eq : q' = p
      · subst eq
        rw [hx]
        intro hh
        injection hh with hh
        omega
      · exact a4 q' (by omega) h4
  · obtain ⟨f, hf⟩ : ∃ f : Nat → Nat, ∀ d, d < cnt → fl[d]? = some ((f d : Nat) : Int) ∧ Fst c d (f d) ∧ f d < m.pm.n := by
      refine ⟨fun d => (fl.getD d 0).toNat, fun d hd => ?_⟩
      obtain ⟨p, hp, hpd⟩ := Ca.all d hd
      obtain ⟨p0, a1, a2, a3, a4⟩ := hfl d hd ⟨p, by omega, hpd⟩
      have e : (fl.getD d 0).toNat = p0 := by rw [getD_some a1]; rfl
      dsimp only
      rw [e]
      exact ⟨a1, ⟨a3, fun q hq => a4 q (by omega) hq⟩, by have := (List.getElem?_eq_some_iff.1 a3).1; omega⟩
    clear ih hfl
    have xA8 : Ex h5 hA := Exx.base x58 xA (by have := x7.len; omega)
    have x0A : Ex h hA := (x03.trans x5).trans xA8
    have gbA : hA[h.length]? = some (.row (moRow u m) true) := (x5.trans xA8).some gb3
    have gRA : hA[h1.length]? = some (.row z8 true) := (x5.trans xA8).some gR3
    have mA := mh.ex x0A
    have lA := xA.len
    have lF := lt_of_get gF
    have xr := Ex.res hA
    have lr : (reserve 1 hA).length = hA.length + 1 := by rw [reserve_one]; simp
    refine w_offP (w_rdP (xr.some gbA) (v := .int .i64 m.pl) rfl (w_offP (w_rdP (xr.some gbA) (v := .int .i64 m.cl) rfl (w_offP (w_rdP (xr.some gbA) (v := sv u.ve) rfl ?_)))))
    refine to39 (mA.ex xr).en (by have := v.enEl.1; omega) (xr.some gPA) (PaA.ex xr) (fun x hx => by have := v.enEl.2 x hx; rw [hcl]; exact this) fun v61 h11 x11 i61 on61 => ?_
    obtain ⟨a61, n61, c61, rfl⟩ := Sl.isSl i61
    refine ⟨ptr_id (x11.get _ (by have := lt_of_get gbA; omega)), ptr_id (x11.get _ (by have := lt_of_get gbA; omega)), ?_⟩
    refine w_some (v := .agg #[.int .i64 m.pl, .int .i64 m.cl, .slice none 0 0, .slice a61 n61 c61, .slice none 0 0, .slice none 0 0, .slice none 0 0, .slice none 0 0]) rfl ?_
    have gd : (reserve 1 hA)[hA.length]? = some .dead := by rw [reserve_one]; exact get_new _ _
    refine n_slot ?_
    have lT := lt_of_get (x11.some gd)
    refine w_stPA (get_set _ lT _) rfl (Nat.le_refl 8) rfl ?_
    have gT : ((h11.set hA.length (.row [(.int .i64 0), (.int .i64 0), (.slice none 0 0), (.slice none 0 0), (.slice none 0 0), (.slice none 0 0), (.slice none 0 0), (.slice none 0 0)] true)).set hA.length (.row (spliceL [(.int .i64 0), (.int .i64 0), (.slice none 0 0), (.slice none 0 0), (.slice none 0 0), (.slice none 0 0), (.slice none 0 0), (.slice none 0 0)] 0 (cellsL (.agg #[.int .i64 m.pl, .int .i64 m.cl, .slice none 0 0, .slice a61 n61 c61, .slice none 0 0, .slice none 0 0, .slice none 0 0, .slice none 0 0]))) true))[hA.length]? = some (.row [.int .i64 m.pl, .int .i64 m.cl, .slice none 0 0, .slice a61 n61 c61, .slice none 0 0, .slice none 0 0, .slice none 0 0, .slice none 0 0] true) := get_set _ (by rw [List.length_set]; exact lT) _
    have xT : Ex hA ((h11.set hA.length (.row [(.int .i64 0), (.int .i64 0), (.slice none 0 0), (.slice none 0 0), (.slice none 0 0), (.slice none 0 0), (.slice none 0 0), (.slice none 0 0)] true)).set hA.length (.row (spliceL [(.int .i64 0), (.int .i64 0), (.slice none 0 0), (.slice none 0 0), (.slice none 0 0), (.slice none 0 0), (.slice none 0 0), (.slice none 0 0)] 0 (cellsL (.agg #[.int .i64 m.pl, .int .i64 m.cl, .slice none 0 0, .slice a61 n61 c61, .slice none 0 0, .slice none 0 0, .slice none 0 0, .slice none 0 0]))) true)) := ((xr.trans x11).set (Nat.le_refl _) _).set (Nat.le_refl _) _
    have kT : ∀ j, j ≠ hA.length → ((h11.set hA.length (.row [(.int .i64 0), (.int .i64 0), (.slice none 0 0), (.slice none 0 0), (.slice none 0 0), (.slice none 0 0), (.slice none 0 0), (.slice none 0 0)] true)).set hA.length (.row (spliceL [(.int .i64 0), (.int .i64 0), (.slice none 0 0), (.slice none 0 0), (.slice none 0 0), (.slice none 0 0), (.slice none 0 0), (.slice none 0 0)] 0 (cellsL (.agg #[.int .i64 m.pl, .int .i64 m.cl, .slice none 0 0, .slice a61 n61 c61, .slice none 0 0, .slice none 0 0, .slice none 0 0, .slice none 0 0]))) true))[j]? = h11[j]? := fun j hj => (get_ne (Ne.symm hj) _).trans (get_ne (Ne.symm hj) _)
    have lTT : ((h11.set hA.length (.row [(.int .i64 0), (.int .i64 0), (.slice none 0 0), (.slice none 0 0), (.slice none 0 0), (.slice none 0 0), (.slice none 0 0), (.slice none 0 0)] true)).set hA.length (.row (spliceL [(.int .i64 0), (.int .i64 0), (.slice none 0 0), (.slice none 0 0), (.slice none 0 0), (.slice none 0 0), (.slice none 0 0), (.slice none 0 0)] 0 (cellsL (.agg #[.int .i64 m.pl, .int .i64 m.cl, .slice none 0 0, .slice a61 n61 c61, .slice none 0 0, .slice none 0 0, .slice none 0 0, .slice none 0 0]))) true)).length = h11.length := by rw [List.length_set, List.length_set]
    generalize (h11.set hA.length (.row [(.int .i64 0), (.int .i64 0), (.slice none 0 0), (.slice none 0 0), (.slice none 0 0), (.slice none 0 0), (.slice none 0 0), (.slice none 0 0)] true)).set hA.length (.row (spliceL [(.int .i64 0), (.int .i64 0), (.slice none 0 0), (.slice none 0 0), (.slice none 0 0), (.slice none 0 0), (.slice none 0 0), (.slice none 0 0)] 0 (cellsL (.agg #[.int .i64 m.pl, .int .i64 m.cl, .slice none 0 0, .slice a61 n61 c61, .slice none 0 0, .slice none 0 0, .slice none 0 0, .slice none 0 0]))) true) = hT at gT xT kT lTT ⊢
    let v61 : Value := .slice a61 n61 c61
    have S0 : SmI hA hT hA.length (.int .i64 m.pl, .int .i64 m.cl) (.slice a61 n61 c61) (m.En.map (cOf c)) wnil (fun _ => []) (fun j => onId (.slice a61 n61 c61) j) [] [] [] [] [] [] [] :=
      ⟨xT, rfl, gT, ⟨SL.nil _ _, fun j hj => ⟨by have := (on61 j hj).1; omega, by rw [lTT]; exact (on61 j hj).2, fun _ _ hh => hh.elim⟩⟩, Sl.keepOn i61 fun j hj => kT j (by have := (on61 j hj).1; omega), fun j hj => hj, rfl, rfl, RowsZ.nil _ _, RowsZ.nil _ _, RetsZ.nil _ _, RowsZ.nil _ _, rfl, fun _ h => by cases h⟩
    refine w_lenSl ?_
    refine loopE_intro (fun mm e' h' => ∃ (d : Nat) (vv : Nat → Value) (cs : Nat → List Value) (Z : Nat → Prop) (a5 : List (List Int)) (a6 : List Int), d ≤ cnt ∧ mm = cnt - d ∧ e' 1 = .pointer (some ⟨h.length, 0, none⟩) ∧ e' 2 = .pointer (some ⟨h1.length, 0, none⟩) ∧ e' 5 = .pointer (some ⟨h5.length, 0, none⟩) ∧ e' 6 = .slice (some ⟨h7.length, 0, none⟩) cnt cnt ∧
        e' 9 = .func (.func 50) #[] #[.pointer (some ⟨h5.length, 0, none⟩)] ∧ e' 10 = .pointer (some ⟨hA.length, 0, none⟩) ∧ e' 63 = .slice (some ⟨h7.length, 0, none⟩) cnt cnt ∧ e' 64 = .int .i64 (cnt : Nat) ∧ e' 65 = .int .i64 (d : Nat) ∧
        SmI hA h' hA.length (.int .i64 m.pl, .int .i64 m.cl) (.slice a61 n61 c61) (m.En.map (cOf c)) vv cs Z (smOf m f d) (smFi m f d) (smIn m c f d) (smLow m c f d) (smRet m c cnt f d) a5 a6) cnt
      ⟨0, wnil, fun _ => [], _, [], [], Nat.zero_le _, rfl, e1, e2, e5, e6, rfl, rfl, rfl, rfl, rfl, S0⟩ ?_
    clear e1 e2 e5 e6 e7 hmm q hi S0 gT xT kT lTT lT x11 on61 i61 gd
    clear e mm J i hT h11
    rintro J mm e h14 ⟨d, vv, cs, Z, a5, a6, hd, hmm, e1, e2, e5, e6, e9, e10, e63, e64, e65, S⟩ ih
    rw [e63, e64, e65, e10, e1, e9]
    have slF : ∀ {h' : AH}, Ex hA h' → Ints h' (.slice (some ⟨h7.length, 0, none⟩) cnt cnt) fl := fun x => slI (x.some gF) lfl (by omega)
    refine w_lss (c_dec (fun q => ?_) (fun q => ?_))
    · have hdc : d < cnt := by omega
      obtain ⟨fd, fst, fdn⟩ := hf d hdc
      obtain ⟨li, hli⟩ := getElem?_of_lt (l := m.In) (i := f d) (by have := v.li; show f d < m.In.length; rw [this]; exact fdn)
      obtain ⟨lo, hlo⟩ := getElem?_of_lt (l := m.Low) (i := f d) (by have := v.ll; show f d < m.Low.length; rw [this]; exact fdn)
      obtain ⟨re, hre⟩ := getElem?_of_lt (l := m.Ret) (i := f d) (by have := v.lr; show f d < m.Ret.length; rw [this]; exact fdn)
      refine w_idxN eI_len (slF S.ex) fd fun z hz => w_rd1 hz rfl ?_
      have dd : ∀ (h : AH), (reserve 1 h)[h.length]? = some .dead := fun h => by rw [reserve_one]; exact get_new _ _
      have S1 := S.exx (Ex.res h14)
      have bA1 := S1.ex.some gbA
      have nz : ∀ {h : AH} {vv : Nat → Value} {cs : Nat → List Value} {Z : Nat → Prop}, SMs h hA.length vv cs Z → ¬ Z h.length := fun s hz => by have := (s.z _ hz).2.1; omega
      refine w_offP (w_rdP S1.box rfl (w_offP (w_rdP bA1 (v := sv u.vo) rfl (w_idxN eI_len (mA.ex S1.ex).of (v.ofAt fdn) fun z hz => w_rd1 hz rfl ?_))))
      refine S1.app0 S.lt (dd h14) (nz S.s) (by unfold smOf; simp; omega) fun c1 j1 v1 q1 h17 l17 S2 => ?_
      have S3 := S2.exx (Ex.res h17)
      refine w_offP (w_rdP S3.box rfl (w_offP (w_rdP (S3.ex.some gbA) (v := sv u.vf) rfl (w_idxN eBo_len (mA.ex S3.ex).fi (v.fiAt fdn) fun z hz => w_rd1 hz rfl ?_))))
      refine S3.app1 S2.lt (dd h17) (nz S2.s) (by unfold smFi; simp; omega) fun c2 j2 v2 q2 h20 l20 S4 => ?_
      have S5 := S4.exx (Ex.res h20)
      obtain ⟨vin, sin, rin⟩ := (mA.ex S5.ex).inn
      obtain ⟨win, hwin, iin⟩ := rin _ li hli
      refine w_offP (w_rdP S5.box rfl (w_offP (w_rdP (S5.ex.some gbA) (v := sv u.vi) rfl (idxV sin hwin fun z hz => w_rd1 hz rfl ?_))))
      have eln := v.inEl fdn hli
      refine to39W iin (by omega) (S5.ex.some gPA) (PaA.ex S5.ex) (fun x hx => by have := eln.2 x hx; rw [hcl]; exact this) fun w97 h21 x21 i97 on97 w97w => ?_
      refine ⟨ptr_id (x21.get _ (by have := S5.lt; exact this)), ?_⟩
      have S6 := S5.addZ x21 on97
      refine S6.app2 i97 w97w (fun j hj => .inr hj) S4.lt (x21.some (dd h20)) (fun hz => hz.elim (nz S4.s) fun hh => by have := (on97 _ hh).1; rw [lr1] at this; omega) (by unfold smIn; simp; omega) fun c3 j3 v3 q3 h24 l24 S7 => ?_
      have S8 := S7.exx (Ex.res h24)
      obtain ⟨vlo, slo, rlo⟩ := (mA.ex S8.ex).low
      obtain ⟨wlo, hwlo, ilo⟩ := rlo _ lo hlo
      refine w_offP (w_rdP S8.box rfl (w_offP (w_rdP (S8.ex.some gbA) (v := sv u.vl) rfl (idxV slo hwlo fun z hz => w_rd1 hz rfl ?_))))
      have ell := v.lowEl fdn hlo
      refine to39 ilo (by omega) (S8.ex.some gPA) (PaA.ex S8.ex) (fun x hx => by have := ell.2 x hx; rw [hcl]; exact this) fun w109 h25 x25 i109 on109 => ?_
      refine ⟨ptr_id (x25.get _ (by have := S8.lt; exact this)), ?_⟩
      have S9 := S8.addZ x25 on109
      refine S9.app3 i109 (fun j hj => .inr hj) S7.lt (x25.some (dd h24)) (fun hz => hz.elim (nz S7.s) fun hh => by have := (on109 _ hh).1; rw [lr1] at this; omega) (by unfold smLow; simp; omega) fun c4 j4 v4 q4 h28 l28 S10 => ?_
      have elr := v.retEl fdn hre
      have elr1 := elr.1
      obtain ⟨vre, sre, rre⟩ := mA.ret
      obtain ⟨wre, hwre, vsr, svr, rvr⟩ := rre _ re hre
      refine w_offP (w_rdP (S10.ex.some gbA) (v := sv u.vr) rfl (idxV (sre.ex S10.ex) hwre fun z hz => w_rd1 hz rfl (w_len svr ?_)))
      have S11 := S10.reset5
      have t0 : smOf m f (d + 1) = smOf m f d ++ [m.pm.of (f d)] := range_succ _ d
      have t1 : smFi m f (d + 1) = smFi m f d ++ [m.pm.fi (f d)] := range_succ _ d
      have t2 : smIn m c f (d + 1) = smIn m c f d ++ [li.map (cOf c)] := by
        have : (m.In.getD (f d) []) = li := getD_of hli
        rw [← this]; exact range_succ _ d
      have t3 : smLow m c f (d + 1) = smLow m c f d ++ [lo.map (cOf c)] := by
        have : (m.Low.getD (f d) []) = lo := getD_of hlo
        rw [← this]; exact range_succ _ d
      rw [← t0, ← t1, ← t2, ← t3] at S11
      refine loopE_intro (fun mm e' h' => ∃ (j : Nat) (vv : Nat → Value) (cs : Nat → List Value) (Z : Nat → Prop) (a6 : List Int), j ≤ re.length ∧ mm = re.length - j ∧ e' 1 = .pointer (some ⟨h.length, 0, none⟩) ∧ e' 2 = .pointer (some ⟨h1.length, 0, none⟩) ∧ e' 5 = .pointer (some ⟨h5.length, 0, none⟩) ∧ e' 6 = .slice (some ⟨h7.length, 0, none⟩) cnt cnt ∧
          e' 9 = .func (.func 50) #[] #[.pointer (some ⟨h5.length, 0, none⟩)] ∧ e' 10 = .pointer (some ⟨hA.length, 0, none⟩) ∧ e' 63 = .slice (some ⟨h7.length, 0, none⟩) cnt cnt ∧ e' 64 = .int .i64 (cnt : Nat) ∧ e' 65 = .int .i64 (d : Nat) ∧ e' 13 = vv 5 ∧ e' 117 = wre ∧ e' 118 = .int .i64 (re.length : Nat) ∧ e' 119 = .int .i64 (j : Nat) ∧
          SmI hA h' hA.length (.int .i64 m.pl, .int .i64 m.cl) (.slice a61 n61 c61) (m.En.map (cOf c)) vv cs Z (smOf m f (d + 1)) (smFi m f (d + 1)) (smIn m c f (d + 1)) (smLow m c f (d + 1)) (smRet m c cnt f d) ((re.take j).map fun l => smRow c f l cnt) a6) re.length
        ⟨0, _, _, _, a6, Nat.zero_le _, rfl, e1, e2, e5, e6, e9, e10, e63, e64, e65, ?_, rfl, rfl, rfl, S11⟩ ?_
      · exact rfl
      clear S11
      have S10ex := S10.ex
      clear S10 S9 S8 S7 S6 S5 S4 S3 S2 S1 S hz x25 on109 ilo hwlo rlo slo x21 on97 iin hwin rin sin bA1 l28 l24 l20 l17 i109 i97
      clear e1 e2 e5 e6 e9 e10 e63 e64 e65 q
      rintro I2 mm2 e2v h29 ⟨j, vv2, cs2, Z2, a62, hj, hmm2, f1, f2, f5, f6, f9, f10, f63, f64, f65, f13, f117, f118, f119, T0⟩ ih2
      rw [f117, f118, f119, f6, f10]
      refine w_lss (c_dec (fun q2 => ?_) (fun q2 => ?_))
      · obtain ⟨l, hl⟩ := getElem?_of_lt (l := re) (i := j) (by omega)
        obtain ⟨w, hw, iw⟩ := rvr j l hl
        have ell2 := elr.2 l (List.mem_of_getElem? hl)
        refine idxV (svr.ex T0.ex) hw fun z hz => w_rd1 hz rfl (w_lenSl ?_)
        refine loopE_intro (fun mm e' h' => ∃ (k : Nat) (vv : Nat → Value) (cs : Nat → List Value) (Z : Nat → Prop), k ≤ cnt ∧ mm = cnt - k ∧ e' 1 = .pointer (some ⟨h.length, 0, none⟩) ∧ e' 2 = .pointer (some ⟨h1.length, 0, none⟩) ∧ e' 5 = .pointer (some ⟨h5.length, 0, none⟩) ∧ e' 6 = .slice (some ⟨h7.length, 0, none⟩) cnt cnt ∧
            e' 9 = .func (.func 50) #[] #[.pointer (some ⟨h5.length, 0, none⟩)] ∧ e' 10 = .pointer (some ⟨hA.length, 0, none⟩) ∧ e' 63 = .slice (some ⟨h7.length, 0, none⟩) cnt cnt ∧ e' 64 = .int .i64 (cnt : Nat) ∧ e' 65 = .int .i64 (d : Nat) ∧ e' 13 = vv 5 ∧ e' 117 = wre ∧ e' 118 = .int .i64 (re.length : Nat) ∧ e' 119 = .int .i64 (j : Nat) ∧
            e' 15 = w ∧ e' 16 = vv 6 ∧ e' 123 = .slice (some ⟨h7.length, 0, none⟩) cnt cnt ∧ e' 124 = .int .i64 (cnt : Nat) ∧ e' 125 = .int .i64 (k : Nat) ∧
            SmI hA h' hA.length (.int .i64 m.pl, .int .i64 m.cl) (.slice a61 n61 c61) (m.En.map (cOf c)) vv cs Z (smOf m f (d + 1)) (smFi m f (d + 1)) (smIn m c f (d + 1)) (smLow m c f (d + 1)) (smRet m c cnt f d) ((re.take j).map fun l => smRow c f l cnt) (smRow c f l k)) cnt
          ⟨0, _, _, _, Nat.zero_le _, rfl, f1, f2, f5, f6, f9, f10, f63, f64, f65, ?_, f117, f118, f119, rfl, ?_, rfl, rfl, rfl, T0.reset6⟩ ?_
        · exact f13
        · exact rfl
        have T0ex := T0.ex
        clear f1 f2 f5 f6 f9 f10 f63 f64 f65 f13 f117 f118 f119 T0 hz
        rintro I3 mm3 e3v h30 ⟨kk, vv3, cs3, Z3, hk, hmm3, g1, g2, g5, g6, g9, g10, g63, g64, g65, g13, g117, g118, g119, g15, g16, g123, g124, g125, U⟩ ih3
        rw [g123, g124, g125, g5, g15, g16]
        refine w_lss (c_dec (fun q3 => ?_) (fun q3 => ?_))
        · obtain ⟨fk, _, fkn⟩ := hf kk (by omega)
          refine w_idxN eI_len (slF U.ex) fk fun z hz => w_rd1 hz rfl ?_
          have U1 := U.exx (Ex.res h30)
          have PaU := PaA.ex U1.ex
          obtain ⟨t, ht⟩ := getElem?_of_lt (l := l) (i := f kk) (by rw [ell2.1]; exact fkn)
          have tn := ell2.2 t (List.mem_of_getElem? ht)
          obtain ⟨y, hy⟩ := getElem?_of_lt (l := c) (i := t.toNat) (by omega)
          refine w_rdP (U1.ex.some gPA) rfl (w_nilc (w_offP (w_rdP PaU.row (v := vc) rfl ?_)))
          refine w_idxN eI_len (Sl.ex iw U1.ex) ht fun z hz => w_rd1 hz rfl (w_idxT eI_len PaU.cls.sl tn.1 hy fun z hz => w_rd1 hz rfl ?_)
          refine U1.app6 U.lt (dd h30) (nz U.s) (by unfold smRow; simp; omega) fun c9 j9 v9 h32 l32 U2 => ?_
          refine w_add (by omega) (by omega) ?_
          have er : smRow c f l (kk + 1) = smRow c f l kk ++ [y] := by
            have : cOf c (l.getD (f kk) 0) = y := by rw [getD_some ht]; exact getD_some hy
            rw [← this]; exact range_succ _ kk
          rw [← er] at U2
          refine ih3 (cnt - (kk + 1)) _ _ (by omega) ⟨kk + 1, _, _, _, by omega, rfl, g1, g2, g5, g6, g9, g10, g63, g64, g65, ?_, g117, g118, g119, g15, ?_, g123, g124, rfl, U2⟩
          · exact g13
          · exact rfl
        · have ek : kk = cnt := by omega
          subst ek
          have o6 := (U.s.sl.own 6 (by decide)).sl
          rw [U.c6, flat_eI_len] at o6
          refine clone40 o6 (by unfold smRow; simp; omega) fun v145 h33 x33 i145 on145 => ?_
          have U3 := U.addZ x33 on145
          rw [g13]
          refine U3.app5 (l := smRow c f l kk) i145 (fun j hj => .inr hj) (by rw [List.length_map, List.length_take]; omega) fun c7 j7 v7 h35 l35 U4 => ?_
          rw [g119]
          refine w_add (by omega) (by omega) ?_
          have er : (re.take (j + 1)).map (fun l => smRow c f l kk) = (re.take j).map (fun l => smRow c f l kk) ++ [smRow c f l kk] := by
            rw [take_succ_get hl, List.map_append]; rfl
          rw [← er] at U4
          refine ih2 (re.length - (j + 1)) _ _ (by omega) ⟨j + 1, _, _, _, _, by omega, rfl, g1, g2, g5, g6, g9, g10, g63, g64, g65, ?_, g117, g118, rfl, U4⟩
          exact rfl
      · have ej : re.take j = re := List.take_of_length_le (by omega)
        rw [ej] at T0
        have T1 := T0.exx (Ex.res h29)
        refine w_offP (w_rdP T1.box rfl ?_)
        have o5 := (T1.s.sl.own 5 (by decide)).sl
        rw [f13]
        have lc5 := T1.c5.1
        refine clone41 o5 (by rw [lc5, List.length_map]; omega) fun v152 h36 x36 i152 on152 => ?_
        refine ⟨ptr_id (x36.get _ (by have := T1.lt; exact this)), ?_⟩
        have T2 := T1.addZ x36 on152
        rw [lc5] at i152
        refine T2.app4 i152 (fun j hj => .inr hj) T2.c5 T0.lt (x36.some (dd h29)) (fun hz => hz.elim (nz T0.s) fun hh => by have := (on152 _ hh).1; rw [lr1] at this; omega) (by unfold smRet; simp; omega) fun c8 j8 v8 q8 h39 l39 T3 => ?_
        rw [f65]
        refine w_add (by omega) (by omega) ?_
        have er : smRet m c cnt f (d + 1) = smRet m c cnt f d ++ [re.map fun l => smRow c f l cnt] := by
          have : (m.Ret.getD (f d) []) = re := getD_of hre
          rw [← this]; exact range_succ _ d
        rw [← er] at T3
        exact ih (cnt - (d + 1)) _ _ (by omega) ⟨d + 1, _, _, _, _, _, by omega, rfl, f1, f2, f5, f6, f9, f10, f63, f64, rfl, T3⟩
    · have ed : d = cnt := by omega
      subst ed
      have l14 := S.lt
      rw [e2]
      let F : Nat → Prop := fun j => j = hA.length
      have s0 := (S.s.sl.own 0 (by decide)).sl
      have s1 := (S.s.sl.own 1 (by decide)).sl
      have s2 := (S.s.sl.own 2 (by decide)).sl
      have s3 := (S.s.sl.own 3 (by decide)).sl
      have s4 := (S.s.sl.own 4 (by decide)).sl
      have z0 : (cs 0).length = d := by rw [S.c0, flat_eI_len]; unfold smOf; simp
      have z1 : (cs 1).length = d := by rw [S.c1, flat_eBo_len]; unfold smFi; simp
      have z2 : (cs 2).length = d := by rw [S.c2.1]; unfold smIn; simp
      have z3 : (cs 3).length = d := by rw [S.c3.1]; unfold smLow; simp
      have z4 : (cs 4).length = d := by rw [S.c4.1]; unfold smRet; simp
      rw [z0] at s0
      rw [z1] at s1
      rw [z2] at s2
      rw [z3] at s3
      rw [z4] at s4
      refine w_offP (w_rdP S.box rfl (clone40W s0 (by omega) fun v159 h40 x40 i159 on159 w159 => ?_))
      refine w_offP ⟨ptr_id (x40.get _ l14), w_rdP (x40.some S.box) rfl (clone42 (s1.ex x40) (by omega) fun v162 h41 x41 i162 on162 => ?_)⟩
      obtain ⟨p0, q0, r0, rfl⟩ := Sl.isSl i159
      obtain ⟨p1, q1, r1, rfl⟩ := Sl.isSl i162
      have x1441 := x40.trans x41
      have g41 := x1441.some S.box
      have l41 := lt_of_get g41
      refine w_offP (w_stP g41 (by show 0 + 2 < 8; omega) rfl rfl ?_)
      have g42 : (h41.set hA.length (.row (([.int .i64 m.pl, .int .i64 m.cl, vv 0, .slice a61 n61 c61, vv 1, vv 2, vv 3, vv 4] : List Value).set (0 + 2) (.slice p0 q0 r0)) true))[hA.length]? = some (.row [.int .i64 m.pl, .int .i64 m.cl, .slice p0 q0 r0, .slice a61 n61 c61, vv 1, vv 2, vv 3, vv 4] true) := get_set _ l41 _
      have x42 : ExF F h41 (h41.set hA.length (.row (([.int .i64 m.pl, .int .i64 m.cl, vv 0, .slice a61 n61 c61, vv 1, vv 2, vv 3, vv 4] : List Value).set (0 + 2) (.slice p0 q0 r0)) true)) := (ExF.refl F h41).set rfl _
      have l42 : (h41.set hA.length (.row (([.int .i64 m.pl, .int .i64 m.cl, vv 0, .slice a61 n61 c61, vv 1, vv 2, vv 3, vv 4] : List Value).set (0 + 2) (.slice p0 q0 r0)) true)).length = h41.length := List.length_set
      show optW (pOff 4 (.pointer (some ⟨hA.length, 0, none⟩))) fun v164 => optW (pStore 1 v164 (.slice p1 q1 r1) (h41.set hA.length (.row (([.int .i64 m.pl, .int .i64 m.cl, vv 0, .slice a61 n61 c61, vv 1, vv 2, vv 3, vv 4] : List Value).set (0 + 2) (.slice p0 q0 r0)) true))) _
      generalize h41.set hA.length (.row (([.int .i64 m.pl, .int .i64 m.cl, vv 0, .slice a61 n61 c61, vv 1, vv 2, vv 3, vv 4] : List Value).set (0 + 2) (.slice p0 q0 r0)) true) = h42 at g42 x42 l42 ⊢
      refine w_offP (w_stP g42 (by show 0 + 4 < 8; omega) rfl rfl ?_)
      have g43 : (h42.set hA.length (.row (([.int .i64 m.pl, .int .i64 m.cl, .slice p0 q0 r0, .slice a61 n61 c61, vv 1, vv 2, vv 3, vv 4] : List Value).set (0 + 4) (.slice p1 q1 r1)) true))[hA.length]? = some (.row [.int .i64 m.pl, .int .i64 m.cl, .slice p0 q0 r0, .slice a61 n61 c61, .slice p1 q1 r1, vv 2, vv 3, vv 4] true) := get_set _ (by omega) _
      have x43 : ExF F h41 (h42.set hA.length (.row (([.int .i64 m.pl, .int .i64 m.cl, .slice p0 q0 r0, .slice a61 n61 c61, vv 1, vv 2, vv 3, vv 4] : List Value).set (0 + 4) (.slice p1 q1 r1)) true)) := x42.set rfl _
      generalize h42.set hA.length (.row (([.int .i64 m.pl, .int .i64 m.cl, .slice p0 q0 r0, .slice a61 n61 c61, vv 1, vv 2, vv 3, vv 4] : List Value).set (0 + 4) (.slice p1 q1 r1)) true) = h43 at g43 x43 ⊢
      have x1443 : ExF F h14 h43 := (ExF.ex x1441).trans x43
      have nS : ∀ (i : Nat) {n : Nat} {cs' : List Value} {h' : AH}, i < 11 → Sl 1 h14 (vv i) n cs' → ExF F h14 h' → Sl 1 h' (vv i) n cs' := fun i n cs' h' hi sl y => sl.keepOn fun j hj => y.get j (S.s.sl.on hi hj).2 fun e => by have := (S.s.sl.on hi hj).1; have : j = hA.length := e; omega
      have l43 := lt_of_get g43
      refine w_offP (w_rdP g43 rfl (clone41 (nS 2 (by decide) s2 x1443) (by omega) fun v167 h44 x44 i167 on167 => ?_))
      have x1444 := x1443.trans (.ex x44)
      refine w_offP ⟨ptr_id (x44.get _ l43), w_rdP (x44.some g43) rfl (clone41 (nS 3 (by decide) s3 x1444) (by omega) fun v170 h45 x45 i170 on170 => ?_)⟩
      have x1445 := x1444.trans (.ex x45)
      refine w_offP ⟨ptr_id (x45.get _ (x44.lt l43)), ptr_id (x44.get _ l43), w_rdP (x45.some (x44.some g43)) rfl (clone43 (nS 4 (by decide) s4 x1445) (by omega) fun v173 h46 x46 i173 on173 => ?_)⟩
      obtain ⟨p2, q2, r2, rfl⟩ := Sl.isSl i167
      obtain ⟨p3, q3, r3, rfl⟩ := Sl.isSl i170
      obtain ⟨p4, q4, r4, rfl⟩ := Sl.isSl i173
      have x4346 := (x44.trans x45).trans x46
      have g46 := x4346.some g43
      have l46 := lt_of_get g46
      refine w_offP (w_stP g46 (by show 0 + 5 < 8; omega) rfl rfl ?_)
      have g47 : (h46.set hA.length (.row (([.int .i64 m.pl, .int .i64 m.cl, .slice p0 q0 r0, .slice a61 n61 c61, .slice p1 q1 r1, vv 2, vv 3, vv 4] : List Value).set (0 + 5) (.slice p2 q2 r2)) true))[hA.length]? = some (.row [.int .i64 m.pl, .int .i64 m.cl, .slice p0 q0 r0, .slice a61 n61 c61, .slice p1 q1 r1, .slice p2 q2 r2, vv 3, vv 4] true) := get_set _ l46 _
      have x47 : ExF F h46 (h46.set hA.length (.row (([.int .i64 m.pl, .int .i64 m.cl, .slice p0 q0 r0, .slice a61 n61 c61, .slice p1 q1 r1, vv 2, vv 3, vv 4] : List Value).set (0 + 5) (.slice p2 q2 r2)) true)) := (ExF.refl F h46).set rfl _
      generalize h46.set hA.length (.row (([.int .i64 m.pl, .int .i64 m.cl, .slice p0 q0 r0, .slice a61 n61 c61, .slice p1 q1 r1, vv 2, vv 3, vv 4] : List Value).set (0 + 5) (.slice p2 q2 r2)) true) = h47 at g47 x47 ⊢
      refine w_offP (w_stP g47 (by show 0 + 6 < 8; omega) rfl rfl ?_)
      have g48 : (h47.set hA.length (.row (([.int .i64 m.pl, .int .i64 m.cl, .slice p0 q0 r0, .slice a61 n61 c61, .slice p1 q1 r1, .slice p2 q2 r2, vv 3, vv 4] : List Value).set (0 + 6) (.slice p3 q3 r3)) true))[hA.length]? = some (.row [.int .i64 m.pl, .int .i64 m.cl, .slice p0 q0 r0, .slice a61 n61 c61, .slice p1 q1 r1, .slice p2 q2 r2, .slice p3 q3 r3, vv 4] true) := get_set _ (lt_of_get g47) _
      have x48 : ExF F h46 (h47.set hA.length (.row (([.int .i64 m.pl, .int .i64 m.cl, .slice p0 q0 r0, .slice a61 n61 c61, .slice p1 q1 r1, .slice p2 q2 r2, vv 3, vv 4] : List Value).set (0 + 6) (.slice p3 q3 r3)) true)) := x47.set rfl _
      generalize h47.set hA.length (.row (([.int .i64 m.pl, .int .i64 m.cl, .slice p0 q0 r0, .slice a61 n61 c61, .slice p1 q1 r1, .slice p2 q2 r2, vv 3, vv 4] : List Value).set (0 + 6) (.slice p3 q3 r3)) true) = h48 at g48 x48 ⊢
      refine w_offP (w_stP g48 (by show 0 + 7 < 8; omega) rfl rfl ?_)
      have g49 : (h48.set hA.length (.row (([.int .i64 m.pl, .int .i64 m.cl, .slice p0 q0 r0, .slice a61 n61 c61, .slice p1 q1 r1, .slice p2 q2 r2, .slice p3 q3 r3, vv 4] : List Value).set (0 + 7) (.slice p4 q4 r4)) true))[hA.length]? = some (.row [.int .i64 m.pl, .int .i64 m.cl, .slice p0 q0 r0, .slice a61 n61 c61, .slice p1 q1 r1, .slice p2 q2 r2, .slice p3 q3 r3, .slice p4 q4 r4] true) := get_set _ (lt_of_get g48) _
      have x49 : ExF F h46 (h48.set hA.length (.row (([.int .i64 m.pl, .int .i64 m.cl, .slice p0 q0 r0, .slice a61 n61 c61, .slice p1 q1 r1, .slice p2 q2 r2, .slice p3 q3 r3, vv 4] : List Value).set (0 + 7) (.slice p4 q4 r4)) true)) := x48.set rfl _
      generalize h48.set hA.length (.row (([.int .i64 m.pl, .int .i64 m.cl, .slice p0 q0 r0, .slice a61 n61 c61, .slice p1 q1 r1, .slice p2 q2 r2, .slice p3 q3 r3, vv 4] : List Value).set (0 + 7) (.slice p4 q4 r4)) true) = h49 at g49 x49 ⊢
      refine w_rdPA g49 (Nat.le_refl 8) ?_
      have x1449 : ExF F h14 h49 := (x1443.trans (.ex x4346)).trans x49
      have lR := lt_of_get gRA
      have gR49 : h49[h1.length]? = some (.row z8 true) := x1449.some (S.ex.some gRA) (by show ¬ h1.length = hA.length; omega)
      refine w_stPA gR49 rfl (Nat.le_refl 8) rfl ?_
      let u' : MoV := ⟨(p0, q0, r0), (a61, n61, c61), (p1, q1, r1), (p2, q2, r2), (p3, q3, r3), (p4, q4, r4)⟩
      have lR49 := lt_of_get gR49
      have gF50 : (h49.set h1.length (.row (spliceL z8 0 (cellsL (.agg ((List.drop 0 [Value.int .i64 m.pl, .int .i64 m.cl, .slice p0 q0 r0, .slice a61 n61 c61, .slice p1 q1 r1, .slice p2 q2 r2, .slice p3 q3 r3, .slice p4 q4 r4]).take 8).toArray))) true))[h1.length]? = some (.row (moRow u' (sm m c d f)) true) := get_set _ lR49 _
      rw [res18]
      refine w_some (v := [.agg (moRow u' (sm m c d f)).toArray, .int .i64 0]) ?_ ?_
      · show Option.map (fun v => [v, Value.int .i64 0]) (rdRow true 8 (e 2) _) = _
        rw [e2]
        have e := hopt (o := rdRow true 8 (.pointer (some ⟨h1.length, 0, none⟩)) _) (w_rdPA gF50 (Nat.le_refl 8) rfl)
        rw [e]
        rfl
      · -- all that was told stays
        have kR : ∀ (h0 : AH) (j : Nat), ExF F h0 h49 → h14.length ≤ h0.length → hA.length < j → j < h0.length → (h49.set h1.length (.row (spliceL z8 0 (cellsL (.agg ((List.drop 0 [Value.int .i64 m.pl, .int .i64 m.cl, .slice p0 q0 r0, .slice a61 n61 c61, .slice p1 q1 r1, .slice p2 q2 r2, .slice p3 q3 r3, .slice p4 q4 r4]).take 8).toArray))) true))[j]? = h0[j]? := fun h0 j y l0 h1' h2' => (get_ne (by omega) _).trans (y.get j h2' fun e => by have : j = hA.length := e; omega)
        have y40 : ExF F h40 h49 := (((ExF.ex x41).trans x43).trans (.ex x4346)).trans x49
        have y41 : ExF F h41 h49 := (x43.trans (.ex x4346)).trans x49
        have y44 : ExF F h44 h49 := (ExF.ex (x45.trans x46)).trans x49
        have y45 : ExF F h45 h49 := (ExF.ex x46).trans x49
        have l1443 := x1443.len
        have l1444 := x1444.len
        have l1445 := x1445.len
        have l1441 := x1441.len
        have l1440 := x40.len
        have l46' := x46.len
        have o0 := i159.keepOn fun j hj => kR h40 j y40 l1440 (by have := (on159 j hj).1; omega) (on159 j hj).2
        have o1 := i162.keepOn fun j hj => kR h41 j y41 l1441 (by have := (on162 j hj).1; omega) (on162 j hj).2
        have o2 := i167.keepOn fun j hj => kR h44 j y44 l1444 (by have := (on167 j hj).1; omega) (on167 j hj).2
        have o3 := i170.keepOn fun j hj => kR h45 j y45 l1445 (by have := (on170 j hj).1; omega) (on170 j hj).2
        have o4 := i173.keepOn fun j hj => kR h46 j x49 (by omega) (by have := (on173 j hj).1; omega) (on173 j hj).2
        have kZ : ∀ j, Z j → (h49.set h1.length (.row (spliceL z8 0 (cellsL (.agg ((List.drop 0 [Value.int .i64 m.pl, .int .i64 m.cl, .slice p0 q0 r0, .slice a61 n61 c61, .slice p1 q1 r1, .slice p2 q2 r2, .slice p3 q3 r3, .slice p4 q4 r4]).take 8).toArray))) true))[j]? = h14[j]? := fun j hj => kR h14 j x1449 (Nat.le_refl _) (S.s.z j hj).1 (S.s.z j hj).2.1
        have c2' := S.c2.to (fun _ h => h) kZ
        have c3' := S.c3.to (fun _ h => h) kZ
        have c4' := S.c4.to (fun _ h => h) kZ
        have en' := Sl.keepOn S.en fun j hj => kZ j (S.ez j hj)
        have ll : ∀ {α : Type} (g : Nat → α), ((List.range d).map g).length = d := fun g => by simp
        have x050 : Ex h (h49.set h1.length (.row (spliceL z8 0 (cellsL (.agg ((List.drop 0 [Value.int .i64 m.pl, .int .i64 m.cl, .slice p0 q0 r0, .slice a61 n61 c61, .slice p1 q1 r1, .slice p2 q2 r2, .slice p3 q3 r3, .slice p4 q4 r4]).take 8).toArray))) true)) := (ExF.base (x0A.trans S.ex) x1449 fun j hj => by have : j = hA.length := hj; have := x0A.len; omega).set (by omega) _
        rw [S.c0] at o0
        rw [S.c1] at o1
        have l4043 : h40.length ≤ h43.length := Nat.le_trans x41.len x43.len
        have lhA := x0A.len
        have sw : SmW h (h49.set h1.length (.row (spliceL z8 0 (cellsL (.agg ((List.drop 0 [Value.int .i64 m.pl, .int .i64 m.cl, .slice p0 q0 r0, .slice a61 n61 c61, .slice p1 q1 r1, .slice p2 q2 r2, .slice p3 q3 r3, .slice p4 q4 r4]).take 8).toArray))) true)) u' (sm m c d f) := by
          refine ⟨w159.keep fun j hj => kR h40 j y40 l1440 (by have := (on159 j hj).1; omega) (on159 j hj).2, fun j hj => by have := (on159 j hj).1; omega, fun j hj => ⟨by have := (on167 j hj).1; omega, fun hh => by have := (on167 j hj).1; have := (on159 j hh).2; omega⟩, cs 2, ?_, fun i l hl => ?_⟩
          · show Sl 1 _ (.slice p2 q2 r2) (smIn m c f d).length _
            rw [show (smIn m c f d).length = d from ll _]
            exact o2
          · obtain ⟨w, w1, w2, w3⟩ := c2'.2 i l hl
            have hw := S.w2to kZ (fun _ h => h) w (List.mem_of_getElem? w1)
            exact ⟨w, w1, w2, hw.1, fun j hj => ⟨by have := (S.s.z j (w3 j hj)).1; omega, fun hh => by have := (S.s.z j (w3 j hj)).2.1; have := (on167 j hh).1; omega⟩⟩
        refine k _ u' c d f x050 Ca (fun d' hd' => (hf d' hd').2) ⟨?_, en', ?_, ?_, ?_, ?_, ?_, ?_, ?_, ?_, ?_⟩ sw
        · show Sl 1 _ (.slice p0 q0 r0) (smOf m f d).length _
          rw [show (smOf m f d).length = d from ll _]
          exact o0
        · show Sl 1 _ (.slice p1 q1 r1) (smFi m f d).length _
          rw [show (smFi m f d).length = d from ll _]
          exact o1
        · exact c2'.rows (by rw [show (smIn m c f d).length = d from ll _]; exact o2)
        · exact c3'.rows (by rw [show (smLow m c f d).length = d from ll _]; exact o3)
        · exact c4'.rets (by rw [show (smRet m c d f d).length = d from ll _]; exact o4)
        · show (smOf m f d).length ≤ 1000
          rw [show (smOf m f d).length = d from ll _]; omega
        · show (m.En.map (cOf c)).length ≤ 1000
          rw [List.length_map]
          have := v.enEl.1; omega
        · intro l hl
          obtain ⟨e', he, rfl⟩ := List.mem_map.1 hl
          rw [List.length_map]
          have := hf e' (List.mem_range.1 he)
          obtain ⟨li, hli⟩ := getElem?_of_lt (l := m.In) (i := f e') (by have h1 := v.li; show f e' < m.In.length; rw [h1]; exact this.2.2)
          rw [getD_of hli]
          have := (v.inEl this.2.2 hli).1; omega
        · intro l hl
          obtain ⟨e', he, rfl⟩ := List.mem_map.1 hl
          rw [List.length_map]
          have := hf e' (List.mem_range.1 he)
          obtain ⟨li, hli⟩ := getElem?_of_lt (l := m.Low) (i := f e') (by have h1 := v.ll; show f e' < m.Low.length; rw [h1]; exact this.2.2)
          rw [getD_of hli]
          have := (v.lowEl this.2.2 hli).1; omega
        · intro r hr
          obtain ⟨e', he, rfl⟩ := List.mem_map.1 hr
          have := hf e' (List.mem_range.1 he)
          obtain ⟨li, hli⟩ := getElem?_of_lt (l := m.Ret) (i := f e') (by have h1 := v.lr; show f e' < m.Ret.length; rw [h1]; exact this.2.2)
          rw [getD_of hli, List.length_map]
          refine ⟨by have := (v.retEl this.2.2 hli).1; omega, fun l hl => ?_⟩
          obtain ⟨l', _, rfl⟩ := List.mem_map.1 hl
          rw [show (smRow c f l' d).length = d from ll _]; omega
theorem small18 {h : AH} {u : MoV} {m : Mo} {K : Value → AH → Prop} (mh : MoH h u m) (v : Valid m)
    (k : ∀ h' u' c cnt f, Ex h h' → Canon m.pm.n (Rch m.pm) (EE m.pm) c cnt → (∀ d, d < cnt → Fst c d (f d) ∧ f d < m.pm.n) → MoH h' u' (sm m c cnt f) → K (.tuple #[.agg (moRow u' (sm m c cnt f)).toArray, .int .i64 0]) h') : callW Tryz.prog 19 [.agg (moRow u m).toArray] h K :=
  small18W mh v fun h' u' c cnt f x C hf ms _ => k h' u' c cnt f x C hf ms
end Go.Proofs.YtdlbiliolbdbmaaGreat.W
end

section
/- Top's laws, package fold: the small machine, plain: it may be, it is the machine of the classes, small again it is itself. Conditions: none. -/
namespace Go.Proofs.YtdlbiliolbdbmaaGreat.W
open Go Go.AM FoldPM
set_option linter.unusedVariables false
set_option maxRecDepth 100000
theorem Valid.of_shape {m : Mo} (ok : m.pm.OK) (pl : 0 ≤ m.pl ∧ m.pl < 21) (cl : 0 ≤ m.cl ∧ m.cl < 21) (n2 : m.Of.length ≤ 60) (k2 : m.En.length ≤ 21) (lf : m.Fi.length = m.Of.length) (li : m.In.length = m.Of.length) (ll : m.Low.length = m.Of.length) (lr : m.Ret.length = m.Of.length)
    (en0 : ∀ x ∈ m.En, 0 ≤ x) (hin : ∀ (p : Nat) (l : List Int), m.In[p]? = some l → l.length = m.pm.pl ∧ ∀ x ∈ l, 0 ≤ x)
    (hlow : ∀ (p : Nat) (l : List Int), m.Low[p]? = some l → (m.pm.of p = 0 → l.length = m.pm.cl) ∧ (m.pm.of p ≠ 0 → l.length = 0) ∧ ∀ x ∈ l, 0 ≤ x)
    (hret : ∀ (p : Nat) (r : List (List Int)), m.Ret[p]? = some r → (m.pm.of p = 0 → r.length = 0) ∧ (m.pm.of p ≠ 0 → r.length = m.pm.cl) ∧ ∀ l ∈ r, l.length = m.pm.n ∧ ∀ x ∈ l, 0 ≤ x) : Valid m := by
  have hpl : ((m.pm.pl : Nat) : Int) = m.pl := Int.toNat_of_nonneg pl.1
  have hcl : ((m.pm.cl : Nat) : Int) = m.cl := Int.toNat_of_nonneg cl.1
  have ofAt : ∀ {p : Nat} {x : Int}, m.Of[p]? = some x → m.pm.of p = x := fun h => getD_of h
  have ofN : ∀ {p : Nat}, p < m.Of.length → m.Of[p]? = some (m.pm.of p) := fun {p} hp => by
    obtain ⟨x, hx⟩ := getElem?_of_lt hp
    rw [ofAt hx, hx]
  have mem : ∀ {x : Int} {q : Nat} {c : Int}, 0 ≤ x → q = x.toNat → q < m.pm.n → m.pm.of q = c → Mem m.Of m.Of.length c x := fun {x q c} h0 hq hn hc => by
    subst hq
    have hn' : x.toNat < m.Of.length := hn
    exact ⟨h0, by omega, by rw [ofN hn', hc]⟩
  refine ⟨pl, cl, by have h1 := ok.n1; have : 1 ≤ m.Of.length := h1; omega, by omega, by have h1 := ok.k1; have : 1 ≤ m.En.length := h1; omega, by omega, fun k x hx => ?_, fun k x hx => ?_, lf, li, ll, lr, fun p hp => ⟨fun c l hc hl => ?_, fun c lo re hc hlo hre => ?_⟩⟩
  · have := ok.of k (List.getElem?_eq_some_iff.1 hx).1
    rw [ofAt hx] at this
    exact this
  · have h1 := ok.en k (List.getElem?_eq_some_iff.1 hx).1
    have e : m.pm.en k = x.toNat := by show (m.En.getD k 0).toNat = _; rw [getD_of hx]
    exact mem (en0 x (List.mem_of_getElem? hx)) e h1.1 h1.2
  · have h1 := hin p l hl
    refine ⟨by rw [h1.1]; exact hpl, fun i x hx => ?_⟩
    have hi : i < m.pm.pl := by have := (List.getElem?_eq_some_iff.1 hx).1; omega
    have h2 := ok.inn p i hp hi
    have e : m.pm.inn p i = x.toNat := by show ((m.In.getD p []).getD i 0).toNat = _; rw [getD_of hl, getD_of hx]
    exact mem (h1.2 x (List.mem_of_getElem? hx)) e h2.1 (h2.2.trans (ofAt hc))
  · have h1 := hlow p lo hlo
    have h2 := hret p re hre
    rw [ofAt hc] at h1 h2
    refine ⟨fun c0 => ⟨h2.1 c0, by rw [h1.1 c0]; exact hcl, fun i x hx => ?_⟩, fun c0 => ⟨h1.2.1 c0, by rw [h2.2.1 c0]; exact hcl, fun j l hl => ⟨(h2.2.2 l (List.mem_of_getElem? hl)).1, fun i x hx => ?_⟩⟩⟩
    · have hi : i < m.pm.cl := by have := (List.getElem?_eq_some_iff.1 hx).1; have := h1.1 c0; omega
      have h3 := ok.low p i hp ((ofAt hc).trans c0) hi
      have e : m.pm.low p i = x.toNat := by show ((m.Low.getD p []).getD i 0).toNat = _; rw [getD_of hlo, getD_of hx]
      exact mem (h1.2.2 x (List.mem_of_getElem? hx)) e h3.1 h3.2
    · have hj : j < m.pm.cl := by have := (List.getElem?_eq_some_iff.1 hl).1; have := h2.2.1 c0; omega
      have h4 := h2.2.2 l (List.mem_of_getElem? hl)
      have hi : i < m.pm.n := by have := (List.getElem?_eq_some_iff.1 hx).1; omega
      have h3 := ok.ret p j i hp hi (by rw [ofAt hc]; exact c0) hj
      have e : m.pm.ret p j i = x.toNat := by show (((m.Ret.getD p []).getD j []).getD i 0).toNat = _; rw [getD_of hre, getD_of hl, getD_of hx]
      exact ⟨m.pm.of i, ofN hi, mem (h4.2 x (List.mem_of_getElem? hx)) e h3.1 h3.2⟩
section
variable {m : Mo} {c : List Int} {cnt : Nat} {f : Nat → Nat}
def cN (c : List Int) (p : Nat) : Nat := (c.getD p 0).toNat
theorem range_getD {α : Type} {g : Nat → α} {n e : Nat} {d : α} (h : e < n) : ((List.range n).map g).getD e d = g e := getD_of (by simp [h])
theorem map_getD {α : Type} {l : List Int} {g : Int → α} {i : Nat} {x : Int} {d : α} (h : l[i]? = some x) : (l.map g).getD i d = g x := getD_of (by rw [List.getElem?_map, h]; rfl)
theorem sm_quot (v : Valid m) (Ca : Canon m.pm.n (Rch m.pm) (EE m.pm) c cnt) (hf : ∀ d, d < cnt → Fst c d (f d) ∧ f d < m.pm.n) : Quot m.pm (sm m c cnt f).pm (cN c) := by
  have ok := v.ok
  have nN : (sm m c cnt f).pm.n = cnt := by show (smOf m f cnt).length = cnt; unfold smOf; simp
  have at_ : ∀ p, Rch m.pm p → c[p]? = some ((cN c p : Nat) : Int) ∧ cN c p < cnt := fun p hp => by
    obtain ⟨d, hd, hx⟩ := Ca.re p (hp.lt ok) hp
    have : cN c p = d := by unfold cN; rw [getD_some hx]; rfl
    rw [this]
    exact ⟨hx, hd⟩
  have rf : ∀ d, d < cnt → Rch m.pm (f d) := fun d hd => Ca.reached (hf d hd).2 (hf d hd).1.1
  have ee : ∀ p, Rch m.pm p → EE m.pm (f (cN c p)) p := fun p hp => by
    have h1 := at_ p hp
    exact (Ca.eq _ p (hf _ h1.2).2 (hp.lt ok) (rf _ h1.2) hp).1 ((hf _ h1.2).1.1.trans h1.1.symm)
  have cc : ∀ p q, Rch m.pm p → Rch m.pm q → (cN c p = cN c q ↔ EE m.pm p q) := fun p q hp hq => by
    rw [← Ca.eq p q (hp.lt ok) (hq.lt ok) hp hq, (at_ p hp).1, (at_ q hq).1]
    constructor
    · intro h; rw [h]
    · intro h; injection h with h; omega
  have cNI : ∀ {x : Int} {p : Nat}, x = ((p : Nat) : Int) → (cOf c x).toNat = cN c p := fun h => by subst h; rfl
  refine ⟨by show (m.En.map (cOf c)).length = m.En.length; rw [List.length_map], rfl, rfl, fun d hd => ?_, fun p hp => by rw [nN]; exact (at_ p hp).2, cc, fun p hp => ?_, fun p hp => ?_, fun i hi => ?_, fun p i hp hi => ?_, fun p j hp h0 hj => ?_, fun p j x hp hx h0 hj => ?_⟩
  · rw [nN] at hd
    have h1 := hf d hd
    exact ⟨f d, rf d hd, by unfold cN; rw [getD_some h1.1.1]; rfl⟩
  · have h1 := (at_ p hp).2
    show (smOf m f cnt).getD (cN c p) 0 = _
    unfold smOf
    rw [range_getD h1]
    exact (ee p hp).of
  · have h1 := (at_ p hp).2
    show (smFi m f cnt).getD (cN c p) false = _
    unfold smFi
    rw [range_getD h1]
    exact (ee p hp).fi
  · have h1 := (v.enAt hi).1
    show ((m.En.map (cOf c)).getD i 0).toNat = _
    rw [map_getD h1]
    exact cNI rfl
  · have h1 := (at_ p hp).2
    obtain ⟨l, hl, _, h2⟩ := v.inAt (hf _ h1).2
    show (((smIn m c f cnt).getD (cN c p) []).getD i 0).toNat = _
    unfold smIn
    rw [range_getD h1, getD_of hl, map_getD (h2 i hi).1, cNI rfl]
    exact (cc _ _ (.inn (rf _ h1) hi) (.inn hp hi)).2 ((ee p hp).inn hi)
  · have h1 := (at_ p hp).2
    have h0' : m.pm.of (f (cN c p)) = 0 := (ee p hp).of.trans h0
    obtain ⟨l, hl, _, h2⟩ := v.lowAt (hf _ h1).2
    show (((smLow m c f cnt).getD (cN c p) []).getD j 0).toNat = _
    unfold smLow
    rw [range_getD h1, getD_of hl, map_getD ((h2 h0').2 j hj).1, cNI rfl]
    exact (cc _ _ (.low (rf _ h1) h0' hj) (.low hp h0 hj)).2 ((ee p hp).low h0' hj)
  · have h1 := (at_ p hp).2
    have h3 := (at_ x hx).2
    have h0' : m.pm.of (f (cN c p)) ≠ 0 := by rw [(ee p hp).of]; exact h0
    obtain ⟨r, hr, _, h2⟩ := v.retAt (hf _ h1).2
    obtain ⟨l, hl, _, h4⟩ := (h2 h0').2 j hj
    show ((((smRet m c cnt f cnt).getD (cN c p) []).getD j []).getD (cN c x) 0).toNat = _
    unfold smRet
    rw [range_getD h1, getD_of hr]
    have e : (r.map fun l => smRow c f l cnt).getD j [] = smRow c f l cnt := getD_of (by rw [List.getElem?_map, hl]; rfl)
    rw [e]
    unfold smRow
    rw [range_getD h3, getD_of (h4 _ (hf _ h3).2).1, cNI rfl]
    exact (cc _ _ (.ret (rf _ h1) (rf _ h3) h0' hj) (.ret hp hx h0 hj)).2 ((ee p hp).ret (ee x hx) h0' hj (rf _ h3) hp)
theorem sm_valid (v : Valid m) (Ca : Canon m.pm.n (Rch m.pm) (EE m.pm) c cnt) (hf : ∀ d, d < cnt → Fst c d (f d) ∧ f d < m.pm.n) : Valid (sm m c cnt f) := by
  have ok := v.ok
  have Q := sm_quot v Ca hf
  have okN := Q.ok ok
  have lO : (sm m c cnt f).Of.length = cnt := by show (smOf m f cnt).length = cnt; unfold smOf; simp
  have cn := Ca.le
  have n2 := v.n2
  have hnn : m.pm.n = m.Of.length := rfl
  have rf : ∀ d, d < cnt → Rch m.pm (f d) := fun d hd => Ca.reached (hf d hd).2 (hf d hd).1.1
  have nn : ∀ p, Rch m.pm p → ∀ {x : Int}, x = ((p : Nat) : Int) → 0 ≤ cOf c x := fun p hp x hx => by
    subst hx
    obtain ⟨d, _, h⟩ := Ca.re p (hp.lt ok) hp
    unfold cOf
    rw [show (((p : Nat) : Int)).toNat = p from rfl, getD_some h]
    omega
  have ofS : ∀ p, p < cnt → (sm m c cnt f).pm.of p = m.pm.of (f p) := fun p hp => by
    show (smOf m f cnt).getD p 0 = _
    unfold smOf
    rw [range_getD hp]
    rfl
  refine Valid.of_shape okN v.pl v.cl (by omega) (by show (m.En.map (cOf c)).length ≤ 21; rw [List.length_map]; have := v.k2; omega) ?_ ?_ ?_ ?_ (fun x hx => ?_) (fun p l hl => ?_) (fun p l hl => ?_) (fun p r hr => ?_)
  · rw [lO]; show (smFi m f cnt).length = cnt; unfold smFi; simp
  · rw [lO]; show (smIn m c f cnt).length = cnt; unfold smIn; simp
  · rw [lO]; show (smLow m c f cnt).length = cnt; unfold smLow; simp
  · rw [lO]; show (smRet m c cnt f cnt).length = cnt; unfold smRet; simp
  · obtain ⟨y, hy, rfl⟩ := List.mem_map.1 hx
    obtain ⟨i, hi⟩ := List.getElem?_of_mem hy
    have hik := (List.getElem?_eq_some_iff.1 hi).1
    have h1 := (v.enAt (c := i) hik).1
    rw [hi] at h1
    injection h1 with h1
    exact nn _ (.en hik) h1
  · have hl' : (smIn m c f cnt)[p]? = some l := hl
    unfold smIn at hl'
    have hp : p < cnt := by have := (List.getElem?_eq_some_iff.1 hl').1; simpa using this
    obtain ⟨li, hli, len, h2⟩ := v.inAt (hf p hp).2
    have e : l = li.map (cOf c) := by
      rw [List.getElem?_map, List.getElem?_range hp] at hl'
      injection hl' with hl'
      rw [← hl']; dsimp only; rw [getD_of hli]
    subst e
    refine ⟨by rw [List.length_map, len]; rfl, fun x hx => ?_⟩
    obtain ⟨y, hy, rfl⟩ := List.mem_map.1 hx
    obtain ⟨i, hi⟩ := List.getElem?_of_mem hy
    have hik := (List.getElem?_eq_some_iff.1 hi).1
    have h3 := (h2 i (by omega)).1
    rw [hi] at h3
    injection h3 with h3
    exact nn _ (.inn (rf p hp) (by omega)) h3
  · have hl' : (smLow m c f cnt)[p]? = some l := hl
    unfold smLow at hl'
    have hp : p < cnt := by have := (List.getElem?_eq_some_iff.1 hl').1; simpa using this
    obtain ⟨li, hli, z1, z2⟩ := v.lowAt (hf p hp).2
    have e : l = li.map (cOf c) := by
      rw [List.getElem?_map, List.getElem?_range hp] at hl'
      injection hl' with hl'
      rw [← hl']; dsimp only; rw [getD_of hli]
    subst e
    rw [ofS p hp]
    refine ⟨fun h0 => by rw [List.length_map, (z2 h0).1]; rfl, fun h0 => by rw [z1 h0]; rfl, fun x hx => ?_⟩
    obtain ⟨y, hy, rfl⟩ := List.mem_map.1 hx
    obtain ⟨i, hi⟩ := List.getElem?_of_mem hy
    have hik := (List.getElem?_eq_some_iff.1 hi).1
    by_cases h0 : m.pm.of (f p) = 0
    · have h3 := ((z2 h0).2 i (by have := (z2 h0).1; omega)).1
      rw [hi] at h3
      injection h3 with h3
      exact nn _ (.low (rf p hp) h0 (by have := (z2 h0).1; omega)) h3
    · rw [z1 h0] at hik; simp at hik
  · have hr' : (smRet m c cnt f cnt)[p]? = some r := hr
    unfold smRet at hr'
    have hp : p < cnt := by have := (List.getElem?_eq_some_iff.1 hr').1; simpa using this
    obtain ⟨re, hre, z1, z2⟩ := v.retAt (hf p hp).2
    have e : r = re.map fun l => smRow c f l cnt := by
      rw [List.getElem?_map, List.getElem?_range hp] at hr'
      injection hr' with hr'
      rw [← hr']; dsimp only; rw [getD_of hre]
    subst e
    rw [ofS p hp]
    refine ⟨fun h0 => by rw [z1 h0]; rfl, fun h0 => by rw [List.length_map, (z2 h0).1]; rfl, fun l hl => ?_⟩
    obtain ⟨lr, hlr, rfl⟩ := List.mem_map.1 hl
    refine ⟨by show (smRow c f lr cnt).length = _; rw [show (sm m c cnt f).pm.n = cnt from lO]; unfold smRow; simp, fun x hx => ?_⟩
    unfold smRow at hx
    obtain ⟨e, he, rfl⟩ := List.mem_map.1 hx
    have he' := List.mem_range.1 he
    obtain ⟨j, hj⟩ := List.getElem?_of_mem hlr
    have hjl := (List.getElem?_eq_some_iff.1 hj).1
    by_cases h0 : m.pm.of (f p) = 0
    · rw [z1 h0] at hjl; simp at hjl
    · have hjc : j < m.pm.cl := by have := (z2 h0).1; omega
      obtain ⟨l', hl', _, h4⟩ := (z2 h0).2 j hjc
      rw [hj] at hl'
      cases hl'
      rw [getD_of (h4 _ (hf e he').2).1]
      exact nn _ (.ret (rf p hp) (rf e he') h0 hjc) rfl
end
end Go.Proofs.YtdlbiliolbdbmaaGreat.W
end

section
/- Top's laws: calls that are known: a byte's place in a string. Conditions: none. -/
namespace Go.Proofs.YtdlbiliolbdbmaaGreat.W
open Go Go.AM Go.Proofs Go.Shelf
set_option maxRecDepth 100000
def jf : Nat → Nat := fun x => cond (Nat.beq x 137) 104 (cond (Nat.beq x 217) 151 (cond (Nat.beq x 266) 187 x))
def ren : Ren := ⟨jf, fun x => x, fun x => x⟩
theorem lays137 : Lays.n137 Tryz.prog ren where
  mixed := by kernel_rfl
  f137 := by kernel_rfl
  f217 := by kernel_rfl
  f266 := by kernel_rfl
  t3 := Tryz.underlying3
  a3 := Tryz.isAgg3
  z3 := Tryz.sizeOf3
  v3 := Tryz.zeroValue3
  t5 := Tryz.underlying5
  a5 := Tryz.isAgg5
  z5 := Tryz.sizeOf5
  v5 := Tryz.zeroValue5
  t9 := Tryz.underlying9
  a9 := Tryz.isAgg9
  z9 := Tryz.sizeOf9
  v9 := Tryz.zeroValue9
def ixV (s : ByteArray) (c : Int) : Value := .int .i64 (Lib.indexByte s.data.toList c.toNat.toUInt8)
theorem ix104 {s : ByteArray} {c : Int} {h : AH} {K : Value → AH → Prop} (k : K (ixV s c) h) : callW Tryz.prog 104 [.string s, .int .u8 c] h K := by
  refine callW_step (.inl (.inr ⟨(· = ixV s c), ⟨⟨_, _, lays137.f137, rfl, rfl⟩, ?_, ⟨_, rfl⟩, ?_, fun w => ?_⟩, ?_⟩))
  · intro a ha
    rcases List.mem_cons.1 ha with rfl | ha
    · rfl
    · rw [List.mem_singleton.1 ha]; rfl
  · rintro v rfl; rfl
  · refine (Any.strings_IndexByte lays137 s c w).mono ?_
    rintro e w' ⟨rfl, rfl⟩
    exact ⟨⟨_, rfl, rfl⟩, Go.RowKit.Below.refl _ _⟩
  · rintro v rfl; exact k
def ixB : List Value → HS → KB → Bool := fun args s k => match args with
  | [.string t, .int .u8 c] => k (ixV t c) s
  | _ => false
theorem ixB_ok {args : List Value} {s : HS} {k : KB} {h : AH} {K : Value → AH → Prop} (R : RepH s h) (hk : KOK k K) (hb : ixB args s k = true) : callW Tryz.prog 104 args h K := by
  unfold ixB at hb
  split at hb
  · exact ix104 (hk _ _ _ R hb)
  · cases hb
end Go.Proofs.YtdlbiliolbdbmaaGreat.W
end

section
/- Top's laws: the nearest spot of a search, whichever way its map is gone through. Conditions: none. -/
namespace Go.Proofs.YtdlbiliolbdbmaaGreat.W
open Go Go.AM
set_option linter.unusedVariables false
set_option maxRecDepth 100000
abbrev Spot := Int × Bool
def sp (x : Spot) : Value := .agg #[.int .i64 x.1, .bool x.2]
abbrev SpotL := Spot × Int
def spK (x : SpotL) : Value := sp x.1
def spV (x : SpotL) : Value := .int .i64 x.2
theorem keySp0 (a b : Spot) : keyEq Tryz.prog 145 (sp a) (sp b) = sameScals [.int .i64 a.1, .bool a.2] [.int .i64 b.1, .bool b.2] := by kernel_rfl
theorem keySp : KeyOK Tryz.prog 145 sp := by
  intro a b
  rw [keySp0]
  obtain ⟨a1, a2⟩ := a
  obtain ⟨b1, b2⟩ := b
  simp only [sameScals, sameScal, if_true]
  by_cases h1 : a1 = b1
  · subst h1
    by_cases h2 : a2 = b2
    · subst h2; simp
    · have : (a2 == b2) = false := by simpa using h2
      simp [this, h2]
  · have : (a1 == b1) = false := by simpa using h1
    simp [this, h1]
theorem zero3 : zeroV Tryz.prog 3 = some (.int .i64 0) := by kernel_rfl
def closer (x y : SpotL) : Prop := x.2 < y.2 ∨ x.2 = y.2 ∧ (x.1.1 < y.1.1 ∨ x.1.1 = y.1.1 ∧ x.1.2 = false ∧ y.1.2 = true)
def notDone (Dn : Spot → Prop) (S : SpotL → Prop) (x : SpotL) : Prop := S x ∧ ¬ Dn x.1
def NearAt (Dn : Spot → Prop) (S : SpotL → Prop) (b : Spot) (is : Bool) : Prop :=
  (is = false ∧ b = (0, false) ∧ ∀ x, ¬ notDone Dn S x) ∨ (is = true ∧ ∃ n, notDone Dn S (b, n) ∧ ∀ x, notDone Dn S x → ¬ closer x (b, n))
theorem NearAt.congr {Dn : Spot → Prop} {S T : SpotL → Prop} {b : Spot} {is : Bool} (h : NearAt Dn S b is) (hST : ∀ x, T x ↔ S x) : NearAt Dn T b is := by
  have : T = S := funext fun x => propext (hST x)
  rw [this]; exact h
theorem NearAt.none (Dn : Spot → Prop) : NearAt Dn (fun _ => False) (0, false) false := .inl ⟨rfl, rfl, fun x h => h.1⟩
theorem NearAt.skip {Dn : Spot → Prop} {S : SpotL → Prop} {b : Spot} {is : Bool} {y : SpotL} (h : NearAt Dn S b is) (hy : Dn y.1) : NearAt Dn (fun x => S x ∨ x = y) b is := by
  have key : ∀ x, notDone Dn (fun x => S x ∨ x = y) x ↔ notDone Dn S x := fun x => ⟨fun ⟨h1, h2⟩ => ⟨h1.resolve_right (fun e => h2 (e ▸ hy)), h2⟩, fun ⟨h1, h2⟩ => ⟨.inl h1, h2⟩⟩
  rcases h with ⟨h1, h2, h3⟩ | ⟨h1, n, h2, h3⟩
  · exact .inl ⟨h1, h2, fun x hx => h3 x ((key x).1 hx)⟩
  · exact .inr ⟨h1, n, (key _).2 h2, fun x hx => h3 x ((key x).1 hx)⟩
theorem NearAt.first {Dn : Spot → Prop} {S : SpotL → Prop} {b : Spot} {y : SpotL} (h : NearAt Dn S b false) (hy : ¬ Dn y.1) : NearAt Dn (fun x => S x ∨ x = y) y.1 true := by
  rcases h with ⟨_, _, h3⟩ | ⟨h1, _⟩
  · refine .inr ⟨rfl, y.2, ⟨.inr rfl, hy⟩, fun x hx hc => ?_⟩
    rcases hx.1 with hx1 | rfl
    · exact h3 x ⟨hx1, hx.2⟩
    · unfold closer at hc
      rcases hc with hc | ⟨_, hc | ⟨_, hc1, hc2⟩⟩
      · dsimp only at hc; omega
      · dsimp only at hc; omega
      · dsimp only at hc1 hc2; rw [hc1] at hc2; cases hc2
  · cases h1
theorem closer_trans {x y z : SpotL} (h : closer x y) (hz : ¬ closer z y) : closer x z := by
  obtain ⟨⟨x1, x2⟩, x3⟩ := x
  obtain ⟨⟨y1, y2⟩, y3⟩ := y
  obtain ⟨⟨z1, z2⟩, z3⟩ := z
  simp only [closer] at h hz ⊢
  cases x2 <;> cases y2 <;> cases z2 <;> simp at h hz ⊢ <;> omega
theorem closer_irrefl (x : SpotL) : ¬ closer x x := by
  obtain ⟨⟨x1, x2⟩, x3⟩ := x
  simp only [closer]
  cases x2 <;> simp
theorem NearAt.keep {Dn : Spot → Prop} {S : SpotL → Prop} {b : Spot} {n : Int} {y : SpotL} (hb : notDone Dn S (b, n)) (h3 : ∀ x, notDone Dn S x → ¬ closer x (b, n)) (hy : ¬ closer y (b, n)) : NearAt Dn (fun x => S x ∨ x = y) b true := by
  refine .inr ⟨rfl, n, ⟨.inl hb.1, hb.2⟩, fun x hx hc => ?_⟩
  rcases hx.1 with hx1 | rfl
  · exact h3 x ⟨hx1, hx.2⟩ hc
  · exact hy hc
theorem NearAt.turn {Dn : Spot → Prop} {S : SpotL → Prop} {b : Spot} {n : Int} {y : SpotL} (h3 : ∀ x, notDone Dn S x → ¬ closer x (b, n)) (hn : ¬ Dn y.1) (hy : closer y (b, n)) : NearAt Dn (fun x => S x ∨ x = y) y.1 true := by
  refine .inr ⟨rfl, y.2, ⟨.inr rfl, hn⟩, fun x hx hc => ?_⟩
  rcases hx.1 with hx1 | rfl
  · exact h3 x ⟨hx1, hx.2⟩ (by
      have hx2 := h3 x ⟨hx1, hx.2⟩
      have := closer_trans (x := x) (y := y) (z := (b, n)) hc (fun hb => by
        have := closer_trans hy (fun h => closer_irrefl _ h)
        have h4 := closer_trans hb (fun h => closer_irrefl _ (closer_trans h (fun h => closer_irrefl _ h)))
        exact hx2 (closer_trans hc fun h5 => by
          obtain ⟨⟨y1, y2⟩, y3⟩ := y
          obtain ⟨b1, b2⟩ := b
          simp only [closer] at hb hy
          cases y2 <;> cases b2 <;> simp at hb hy <;> omega))
      exact this)
  · exact closer_irrefl _ hc
end Go.Proofs.YtdlbiliolbdbmaaGreat.W
end

section
/- Top's laws: the nearest spot of a search: the program's. Conditions: none. -/
namespace Go.Proofs.YtdlbiliolbdbmaaGreat.W
open Go Go.AM
set_option linter.unusedVariables false
set_option maxRecDepth 100000
theorem res115 (e : Env) (h : AH) : resList Tryz.prog e h Tryz.f115.results.toList = (match rdRow true 2 (e 4) h with
    | some v => match resList Tryz.prog e h [.tmp 5] with
      | some vs => some (v :: vs)
      | none => none
    | none => none) := by kernel_rfl
theorem long_at {h : AH} {L r : Nat} {S D : SpotL → Prop} {m : Nat} (hi : IterV spK spV h r L S D m) (hu : ∀ x y, S x → S y → x.1 = y.1 → x = y) {b : Spot} {n : Int} (hb : S (b, n)) {K : Value → Prop} (k : K (.int .i64 n)) : optW (pLookup Tryz.prog 151 (.map (some L)) (sp b) false h) K := by
  obtain ⟨l, ck, seen, g1, g2, _⟩ := hi
  have hm : h[L]? = some (.map (encE sp (l.map fun t => (t.1.1, spV t.1, t.2))) ck) := by
    rw [g1]
    congr 2
    unfold encE
    rw [List.map_map]
    rfl
  refine lookup_rule Tryz.underlying151 zero3 keySp hm (fun t ht he => ?_) (fun hno => ?_)
  · obtain ⟨u, hu1, rfl⟩ := List.mem_map.1 ht
    have h1 : S u.1 := (g2 u.1).2 ⟨u.2, hu1⟩
    have := hu _ _ h1 hb he
    show K (spV u.1)
    rw [this]
    exact k
  · obtain ⟨q, hq⟩ := (g2 _).1 hb
    exact absurd rfl (hno (b, spV (b, n), q) (List.mem_map.2 ⟨_, hq, rfl⟩))
theorem near115 {h : AH} {p L D m : Nat} {t0 b0 : Value} {w : Bool} {S : SpotL → Prop} {dl : List (MEnt Spot)} {dck : Nat} {K : Value → AH → Prop} (hp : h[p]? = some (.row [t0, .map (some L), b0] w)) (hL : MapV spK spV h L S m)
    (hu : ∀ x y, S x → S y → x.1 = y.1 → x = y) (hD : h[D]? = some (.map (encE sp dl) dck))
    (k : ∀ b is, NearAt (fun x => ∃ t ∈ dl, t.1 = x) S b is → K (.tuple #[sp b, .bool is]) (reserve (m + 3) h)) : callW Tryz.prog 115 [.pointer (some ⟨p, 0, none⟩), .map (some D)] h K := by
  refine callW_fg (m + 3) Tryz.func115 (by kernel_rfl) (Eq.mpr (e115 _ _ _ _ _) ?_)
  unfold s115
  refine n_rowv fun h1 x1 l1 g1 => ?_
  refine n_rowv fun h2 x2 l2 g2 => ?_
  refine w_nilc (w_offP (w_rdP ((x1.trans x2).some hp) (v := .map (some L)) rfl ?_))
  refine range_val Tryz.underlying151 (hL.ex (x1.trans x2)) fun o hi => ?_
  have x3 : Ex h2 (h2 ++ [o]) := .app _ _
  have l3 : (h2 ++ [o]).length = h2.length + 1 := by simp
  generalize h2 ++ [o] = h3 at *
  refine loopE_intro (fun n e h' => ∃ (V : SpotL → Prop) (b : Spot) (is : Bool), e 0 = .pointer (some ⟨p, 0, none⟩) ∧ e 1 = .map (some D) ∧ e 4 = .pointer (some ⟨h.length, 0, none⟩) ∧ e 6 = .pointer (some ⟨h1.length, 0, none⟩) ∧ e 7 = .bool is ∧ e 16 = .pointer (some ⟨h2.length, 0, none⟩) ∧
    Ex h h' ∧ h'.length + n ≤ h.length + m + 3 ∧ h2.length < h'.length ∧ h'[h.length]? = some (.row [.int .i64 0, .bool false] true) ∧ h'[h1.length]? = some (.row [.int .i64 b.1, .bool b.2] true) ∧
    NearAt (fun x => ∃ t ∈ dl, t.1 = x) V b is ∧ (∀ x, V x → S x) ∧ IterV spK spV h' h2.length L S V n) m
    ⟨fun _ => False, (0, false), false, rfl, rfl, rfl, rfl, rfl, rfl, (x1.trans x2).trans x3, by omega, by omega, (x2.trans x3).some g1, x3.some g2, .none _, fun x h => h.elim, hi⟩ ?_
  rintro I n e h4 ⟨V, b, is, e0, e1, e4, e6, e7, e16, hx, hlen, hrl, hres, hbest, hnear, hVS, hit⟩ hI
  rw [e16, e0, e1, e4, e6, e7]
  have hlL : L < h.length := by
    obtain ⟨l, ck, g, _⟩ := hL
    exact lt_of_get g
  refine next_val hit (fun y o' n' hy hny hn' hit' hent => ?_) (fun hall => ?_)
  · have y1 : Ex h (h4.set h2.length o') := hx.set (by omega) _
    have yr : (h4.set h2.length o')[h.length]? = some (.row [.int .i64 0, .bool false] true) := by rw [get_ne (by omega)]; exact hres
    have yb : (h4.set h2.length o')[h1.length]? = some (.row [.int .i64 b.1, .bool b.2] true) := by rw [get_ne (by omega)]; exact hbest
    have yl : h2.length < (h4.set h2.length o').length := by simpa using hrl
    have yn : (h4.set h2.length o').length = h4.length := by simp
    generalize h4.set h2.length o' = h5 at *
    have hent : pEntry (.pointer (some ⟨h2.length, 0, none⟩)) h5 = some (.tuple #[sp y.1, .int .i64 y.2]) := hent
    refine w_some rfl (c_t ?_)
    refine w_some hent (w_some rfl (w_some rfl ?_))
    refine n_var rfl rfl rfl fun h6 x6 l6 g6 => ?_
    have g6 : h6[h5.length]? = some (.row [.int .i64 y.1.1, .bool y.1.2] true) := g6
    refine w_rdPA g6 (Nat.le_refl 2) ?_
    have hD6 : h6[D]? = some (.map (encE sp dl) dck) := x6.some (y1.some hD)
    have hit6 : IterV spK spV h6 h2.length L S (fun z => V z ∨ z = y) n' := hit'.ex x6
    have b6 := x6.some yb
    have r6 := x6.some yr
    have hVS' : ∀ x, V x ∨ x = y → S x := fun x hx => hx.elim (hVS x) fun e => e ▸ hy
    have p6 := x6.some (y1.some hp)
    refine lookup_ok (enc := sp) (x := y.1) Tryz.underlying151 zero3 keySp hD6 (fun t ht he => ?_) (fun hno => ?_)
    · have hdone : ∃ t ∈ dl, t.1 = y.1 := ⟨t, ht, he⟩
      refine w_some rfl (w_some rfl ?_)
      (repeat (with_reducible first | refine w_offP ?_ | refine w_nilc ?_ | refine w_rdP (by assumption) (by with_unfolding_all rfl) ?_ | refine w_rd1 (by assumption) (by with_unfolding_all rfl) ?_ | refine w_lss ?_ | refine w_leq ?_ | refine w_gtr ?_ | refine w_geq ?_ | refine w_eql ?_ | refine w_neq ?_ | refine w_lenSl ?_ | refine w_len (by assumption) ?_ | refine w_not ?_ | refine w_notb ?_ | refine c_t ?_ | refine c_f ?_ | refine gc_tt ?_ | refine gc_ft ?_ | refine gc_tf ?_ | refine gc_ff ?_ | refine gdc_tt ?_ | refine gdc_ft ?_ | refine gdc_tf ?_ | refine gdc_ff ?_ | refine gd_un ?_ | refine pk_t ?_ | refine pk_f ?_ | refine hist_nil ?_ | refine hist_same ?_ | refine read_nil ?_ | refine c_tt (by first | assumption | omega) ?_ | refine c_ff (by first | assumption | omega) ?_ | refine g_tt (by first | assumption | omega) ?_ | refine g_tf (by first | assumption | omega) ?_ | refine g_ft (by first | assumption | omega) ?_ | refine g_ff (by first | assumption | omega) ?_ | refine gd_tt (by first | assumption | omega) ?_ | refine gd_tf (by first | assumption | omega) ?_ | refine gd_ft (by first | assumption | omega) ?_ | refine gd_ff (by first | assumption | omega) ?_ | refine pk_tt (by first | assumption | omega) ?_ | refine pk_ff (by first | assumption | omega) ?_ | refine w_idxN eI_len (by assumption) (by assumption) (fun _ _ => ?_) | refine w_idxT eI_len (by assumption) (by omega) (by assumption) (fun _ _ => ?_)))
      exact hI n' _ _ hn' ⟨_, b, is, e0, e1, e4, e6, e7, e16, y1.trans x6, by omega, by omega, r6, b6, hnear.skip hdone, hVS', hit6⟩
    · have hnd : ¬ ∃ t ∈ dl, t.1 = y.1 := fun ⟨t, ht, he⟩ => hno t ht he
      refine w_some rfl (w_some rfl ?_)
      cases is with
      | false =>
        (repeat (with_reducible first | refine w_offP ?_ | refine w_nilc ?_ | refine w_rdP (by assumption) (by with_unfolding_all rfl) ?_ | refine w_rd1 (by assumption) (by with_unfolding_all rfl) ?_ | refine w_lss ?_ | refine w_leq ?_ | refine w_gtr ?_ | refine w_geq ?_ | refine w_eql ?_ | refine w_neq ?_ | refine w_lenSl ?_ | refine w_len (by assumption) ?_ | refine w_not ?_ | refine w_notb ?_ | refine c_t ?_ | refine c_f ?_ | refine gc_tt ?_ | refine gc_ft ?_ | refine gc_tf ?_ | refine gc_ff ?_ | refine gdc_tt ?_ | refine gdc_ft ?_ | refine gdc_tf ?_ | refine gdc_ff ?_ | refine gd_un ?_ | refine pk_t ?_ | refine pk_f ?_ | refine hist_nil ?_ | refine hist_same ?_ | refine read_nil ?_ | refine c_tt (by first | assumption | omega) ?_ | refine c_ff (by first | assumption | omega) ?_ | refine g_tt (by first | assumption | omega) ?_ | refine g_tf (by first | assumption | omega) ?_ | refine g_ft (by first | assumption | omega) ?_ | refine g_ff (by first | assumption | omega) ?_ | refine gd_tt (by first | assumption | omega) ?_ | refine gd_tf (by first | assumption | omega) ?_ | refine gd_ft (by first | assumption | omega) ?_ | refine gd_ff (by first | assumption | omega) ?_ | refine pk_tt (by first | assumption | omega) ?_ | refine pk_ff (by first | assumption | omega) ?_ | refine w_idxN eI_len (by assumption) (by assumption) (fun _ _ => ?_) | refine w_idxT eI_len (by assumption) (by omega) (by assumption) (fun _ _ => ?_)))
        refine w_rdPA g6 (Nat.le_refl 2) ?_
        refine w_stPA b6 rfl (Nat.le_refl 2) rfl ?_
        have hne : h1.length ≠ h5.length := by omega
        refine hI n' _ _ hn' ⟨_, y.1, true, e0, e1, e4, e6, rfl, e16, (y1.trans x6).set (by omega) _, by simp; omega, by simp; omega, ?_, get_set _ (by omega) _, hnear.first hnd, hVS', hit6.keep (get_ne (by omega) _) (get_ne (by omega) _)⟩
        rw [get_ne (by omega)]; exact r6
      | true =>
        rcases hnear with ⟨hq, _⟩ | ⟨_, n0, hb0, hb3⟩
        · cases hq
        have hSb : S (b, n0) := hVS _ hb0.1
        obtain ⟨⟨ys, yo⟩, yl0⟩ := y
        replace g6 : h6[h5.length]? = some (.row [.int .i64 ys, .bool yo] true) := g6
        (repeat (with_reducible first | refine w_offP ?_ | refine w_nilc ?_ | refine w_rdP (by assumption) (by with_unfolding_all rfl) ?_ | refine w_rd1 (by assumption) (by with_unfolding_all rfl) ?_ | refine w_lss ?_ | refine w_leq ?_ | refine w_gtr ?_ | refine w_geq ?_ | refine w_eql ?_ | refine w_neq ?_ | refine w_lenSl ?_ | refine w_len (by assumption) ?_ | refine w_not ?_ | refine w_notb ?_ | refine c_t ?_ | refine c_f ?_ | refine gc_tt ?_ | refine gc_ft ?_ | refine gc_tf ?_ | refine gc_ff ?_ | refine gdc_tt ?_ | refine gdc_ft ?_ | refine gdc_tf ?_ | refine gdc_ff ?_ | refine gd_un ?_ | refine pk_t ?_ | refine pk_f ?_ | refine hist_nil ?_ | refine hist_same ?_ | refine read_nil ?_ | refine c_tt (by first | assumption | omega) ?_ | refine c_ff (by first | assumption | omega) ?_ | refine g_tt (by first | assumption | omega) ?_ | refine g_tf (by first | assumption | omega) ?_ | refine g_ft (by first | assumption | omega) ?_ | refine g_ff (by first | assumption | omega) ?_ | refine gd_tt (by first | assumption | omega) ?_ | refine gd_tf (by first | assumption | omega) ?_ | refine gd_ft (by first | assumption | omega) ?_ | refine gd_ff (by first | assumption | omega) ?_ | refine pk_tt (by first | assumption | omega) ?_ | refine pk_ff (by first | assumption | omega) ?_ | refine w_idxN eI_len (by assumption) (by assumption) (fun _ _ => ?_) | refine w_idxT eI_len (by assumption) (by omega) (by assumption) (fun _ _ => ?_)))
        refine w_rdPA b6 (Nat.le_refl 2) ?_
        (repeat (with_reducible first | refine w_offP ?_ | refine w_nilc ?_ | refine w_rdP (by assumption) (by with_unfolding_all rfl) ?_ | refine w_rd1 (by assumption) (by with_unfolding_all rfl) ?_ | refine w_lss ?_ | refine w_leq ?_ | refine w_gtr ?_ | refine w_geq ?_ | refine w_eql ?_ | refine w_neq ?_ | refine w_lenSl ?_ | refine w_len (by assumption) ?_ | refine w_not ?_ | refine w_notb ?_ | refine c_t ?_ | refine c_f ?_ | refine gc_tt ?_ | refine gc_ft ?_ | refine gc_tf ?_ | refine gc_ff ?_ | refine gdc_tt ?_ | refine gdc_ft ?_ | refine gdc_tf ?_ | refine gdc_ff ?_ | refine gd_un ?_ | refine pk_t ?_ | refine pk_f ?_ | refine hist_nil ?_ | refine hist_same ?_ | refine read_nil ?_ | refine c_tt (by first | assumption | omega) ?_ | refine c_ff (by first | assumption | omega) ?_ | refine g_tt (by first | assumption | omega) ?_ | refine g_tf (by first | assumption | omega) ?_ | refine g_ft (by first | assumption | omega) ?_ | refine g_ff (by first | assumption | omega) ?_ | refine gd_tt (by first | assumption | omega) ?_ | refine gd_tf (by first | assumption | omega) ?_ | refine gd_ft (by first | assumption | omega) ?_ | refine gd_ff (by first | assumption | omega) ?_ | refine pk_tt (by first | assumption | omega) ?_ | refine pk_ff (by first | assumption | omega) ?_ | refine w_idxN eI_len (by assumption) (by assumption) (fun _ _ => ?_) | refine w_idxT eI_len (by assumption) (by omega) (by assumption) (fun _ _ => ?_)))
        refine long_at hit6 hu hSb ?_
        have hne : h1.length ≠ h5.length := by omega
        by_cases c1 : n0 < yl0
        · (repeat (with_reducible first | refine w_offP ?_ | refine w_nilc ?_ | refine w_rdP (by assumption) (by with_unfolding_all rfl) ?_ | refine w_rd1 (by assumption) (by with_unfolding_all rfl) ?_ | refine w_lss ?_ | refine w_leq ?_ | refine w_gtr ?_ | refine w_geq ?_ | refine w_eql ?_ | refine w_neq ?_ | refine w_lenSl ?_ | refine w_len (by assumption) ?_ | refine w_not ?_ | refine w_notb ?_ | refine c_t ?_ | refine c_f ?_ | refine gc_tt ?_ | refine gc_ft ?_ | refine gc_tf ?_ | refine gc_ff ?_ | refine gdc_tt ?_ | refine gdc_ft ?_ | refine gdc_tf ?_ | refine gdc_ff ?_ | refine gd_un ?_ | refine pk_t ?_ | refine pk_f ?_ | refine hist_nil ?_ | refine hist_same ?_ | refine read_nil ?_ | refine c_tt (by first | assumption | omega) ?_ | refine c_ff (by first | assumption | omega) ?_ | refine g_tt (by first | assumption | omega) ?_ | refine g_tf (by first | assumption | omega) ?_ | refine g_ft (by first | assumption | omega) ?_ | refine g_ff (by first | assumption | omega) ?_ | refine gd_tt (by first | assumption | omega) ?_ | refine gd_tf (by first | assumption | omega) ?_ | refine gd_ft (by first | assumption | omega) ?_ | refine gd_ff (by first | assumption | omega) ?_ | refine pk_tt (by first | assumption | omega) ?_ | refine pk_ff (by first | assumption | omega) ?_ | refine w_idxN eI_len (by assumption) (by assumption) (fun _ _ => ?_) | refine w_idxT eI_len (by assumption) (by omega) (by assumption) (fun _ _ => ?_)))
          exact hI n' _ _ hn' ⟨_, b, true, e0, e1, e4, e6, e7, e16, y1.trans x6, by omega, by omega, r6, b6, .keep hb0 hb3 (by simp only [closer]; omega), hVS', hit6⟩
        · by_cases c2 : yl0 < n0
          · (repeat (with_reducible first | refine w_offP ?_ | refine w_nilc ?_ | refine w_rdP (by assumption) (by with_unfolding_all rfl) ?_ | refine w_rd1 (by assumption) (by with_unfolding_all rfl) ?_ | refine w_lss ?_ | refine w_leq ?_ | refine w_gtr ?_ | refine w_geq ?_ | refine w_eql ?_ | refine w_neq ?_ | refine w_lenSl ?_ | refine w_len (by assumption) ?_ | refine w_not ?_ | refine w_notb ?_ | refine c_t ?_ | refine c_f ?_ | refine gc_tt ?_ | refine gc_ft ?_ | refine gc_tf ?_ | refine gc_ff ?_ | refine gdc_tt ?_ | refine gdc_ft ?_ | refine gdc_tf ?_ | refine gdc_ff ?_ | refine gd_un ?_ | refine pk_t ?_ | refine pk_f ?_ | refine hist_nil ?_ | refine hist_same ?_ | refine read_nil ?_ | refine c_tt (by first | assumption | omega) ?_ | refine c_ff (by first | assumption | omega) ?_ | refine g_tt (by first | assumption | omega) ?_ | refine g_tf (by first | assumption | omega) ?_ | refine g_ft (by first | assumption | omega) ?_ | refine g_ff (by first | assumption | omega) ?_ | refine gd_tt (by first | assumption | omega) ?_ | refine gd_tf (by first | assumption | omega) ?_ | refine gd_ft (by first | assumption | omega) ?_ | refine gd_ff (by first | assumption | omega) ?_ | refine pk_tt (by first | assumption | omega) ?_ | refine pk_ff (by first | assumption | omega) ?_ | refine w_idxN eI_len (by assumption) (by assumption) (fun _ _ => ?_) | refine w_idxT eI_len (by assumption) (by omega) (by assumption) (fun _ _ => ?_)))
            refine w_rdPA b6 (Nat.le_refl 2) ?_
            (repeat (with_reducible first | refine w_offP ?_ | refine w_nilc ?_ | refine w_rdP (by assumption) (by with_unfolding_all rfl) ?_ | refine w_rd1 (by assumption) (by with_unfolding_all rfl) ?_ | refine w_lss ?_ | refine w_leq ?_ | refine w_gtr ?_ | refine w_geq ?_ | refine w_eql ?_ | refine w_neq ?_ | refine w_lenSl ?_ | refine w_len (by assumption) ?_ | refine w_not ?_ | refine w_notb ?_ | refine c_t ?_ | refine c_f ?_ | refine gc_tt ?_ | refine gc_ft ?_ | refine gc_tf ?_ | refine gc_ff ?_ | refine gdc_tt ?_ | refine gdc_ft ?_ | refine gdc_tf ?_ | refine gdc_ff ?_ | refine gd_un ?_ | refine pk_t ?_ | refine pk_f ?_ | refine hist_nil ?_ | refine hist_same ?_ | refine read_nil ?_ | refine c_tt (by first | assumption | omega) ?_ | refine c_ff (by first | assumption | omega) ?_ | refine g_tt (by first | assumption | omega) ?_ | refine g_tf (by first | assumption | omega) ?_ | refine g_ft (by first | assumption | omega) ?_ | refine g_ff (by first | assumption | omega) ?_ | refine gd_tt (by first | assumption | omega) ?_ | refine gd_tf (by first | assumption | omega) ?_ | refine gd_ft (by first | assumption | omega) ?_ | refine gd_ff (by first | assumption | omega) ?_ | refine pk_tt (by first | assumption | omega) ?_ | refine pk_ff (by first | assumption | omega) ?_ | refine w_idxN eI_len (by assumption) (by assumption) (fun _ _ => ?_) | refine w_idxT eI_len (by assumption) (by omega) (by assumption) (fun _ _ => ?_)))
            refine long_at hit6 hu hSb ?_
            (repeat (with_reducible first | refine w_offP ?_ | refine w_nilc ?_ | refine w_rdP (by assumption) (by with_unfolding_all rfl) ?_ | refine w_rd1 (by assumption) (by with_unfolding_all rfl) ?_ | refine w_lss ?_ | refine w_leq ?_ | refine w_gtr ?_ | refine w_geq ?_ | refine w_eql ?_ | refine w_neq ?_ | refine w_lenSl ?_ | refine w_len (by assumption) ?_ | refine w_not ?_ | refine w_notb ?_ | refine c_t ?_ | refine c_f ?_ | refine gc_tt ?_ | refine gc_ft ?_ | refine gc_tf ?_ | refine gc_ff ?_ | refine gdc_tt ?_ | refine gdc_ft ?_ | refine gdc_tf ?_ | refine gdc_ff ?_ | refine gd_un ?_ | refine pk_t ?_ | refine pk_f ?_ | refine hist_nil ?_ | refine hist_same ?_ | refine read_nil ?_ | refine c_tt (by first | assumption | omega) ?_ | refine c_ff (by first | assumption | omega) ?_ | refine g_tt (by first | assumption | omega) ?_ | refine g_tf (by first | assumption | omega) ?_ | refine g_ft (by first | assumption | omega) ?_ | refine g_ff (by first | assumption | omega) ?_ | refine gd_tt (by first | assumption | omega) ?_ | refine gd_tf (by first | assumption | omega) ?_ | refine gd_ft (by first | assumption | omega) ?_ | refine gd_ff (by first | assumption | omega) ?_ | refine pk_tt (by first | assumption | omega) ?_ | refine pk_ff (by first | assumption | omega) ?_ | refine w_idxN eI_len (by assumption) (by assumption) (fun _ _ => ?_) | refine w_idxT eI_len (by assumption) (by omega) (by assumption) (fun _ _ => ?_)))
            refine w_rdPA g6 (Nat.le_refl 2) ?_
            refine w_stPA b6 rfl (Nat.le_refl 2) rfl ?_
            refine hI n' _ _ hn' ⟨_, (ys, yo), true, e0, e1, e4, e6, rfl, e16, (y1.trans x6).set (by omega) _, by simp; omega, by simp; omega, ?_, get_set _ (by omega) _, .turn hb3 hnd (by simp only [closer]; omega), hVS', hit6.keep (get_ne (by omega) _) (get_ne (by omega) _)⟩
            rw [get_ne (by omega)]; exact r6
          · obtain rfl : yl0 = n0 := by omega
            (repeat (with_reducible first | refine w_offP ?_ | refine w_nilc ?_ | refine w_rdP (by assumption) (by with_unfolding_all rfl) ?_ | refine w_rd1 (by assumption) (by with_unfolding_all rfl) ?_ | refine w_lss ?_ | refine w_leq ?_ | refine w_gtr ?_ | refine w_geq ?_ | refine w_eql ?_ | refine w_neq ?_ | refine w_lenSl ?_ | refine w_len (by assumption) ?_ | refine w_not ?_ | refine w_notb ?_ | refine c_t ?_ | refine c_f ?_ | refine gc_tt ?_ | refine gc_ft ?_ | refine gc_tf ?_ | refine gc_ff ?_ | refine gdc_tt ?_ | refine gdc_ft ?_ | refine gdc_tf ?_ | refine gdc_ff ?_ | refine gd_un ?_ | refine pk_t ?_ | refine pk_f ?_ | refine hist_nil ?_ | refine hist_same ?_ | refine read_nil ?_ | refine c_tt (by first | assumption | omega) ?_ | refine c_ff (by first | assumption | omega) ?_ | refine g_tt (by first | assumption | omega) ?_ | refine g_tf (by first | assumption | omega) ?_ | refine g_ft (by first | assumption | omega) ?_ | refine g_ff (by first | assumption | omega) ?_ | refine gd_tt (by first | assumption | omega) ?_ | refine gd_tf (by first | assumption | omega) ?_ | refine gd_ft (by first | assumption | omega) ?_ | refine gd_ff (by first | assumption | omega) ?_ | refine pk_tt (by first | assumption | omega) ?_ | refine pk_ff (by first | assumption | omega) ?_ | refine w_idxN eI_len (by assumption) (by assumption) (fun _ _ => ?_) | refine w_idxT eI_len (by assumption) (by omega) (by assumption) (fun _ _ => ?_)))
            refine w_rdPA b6 (Nat.le_refl 2) ?_
            (repeat (with_reducible first | refine w_offP ?_ | refine w_nilc ?_ | refine w_rdP (by assumption) (by with_unfolding_all rfl) ?_ | refine w_rd1 (by assumption) (by with_unfolding_all rfl) ?_ | refine w_lss ?_ | refine w_leq ?_ | refine w_gtr ?_ | refine w_geq ?_ | refine w_eql ?_ | refine w_neq ?_ | refine w_lenSl ?_ | refine w_len (by assumption) ?_ | refine w_not ?_ | refine w_notb ?_ | refine c_t ?_ | refine c_f ?_ | refine gc_tt ?_ | refine gc_ft ?_ | refine gc_tf ?_ | refine gc_ff ?_ | refine gdc_tt ?_ | refine gdc_ft ?_ | refine gdc_tf ?_ | refine gdc_ff ?_ | refine gd_un ?_ | refine pk_t ?_ | refine pk_f ?_ | refine hist_nil ?_ | refine hist_same ?_ | refine read_nil ?_ | refine c_tt (by first | assumption | omega) ?_ | refine c_ff (by first | assumption | omega) ?_ | refine g_tt (by first | assumption | omega) ?_ | refine g_tf (by first | assumption | omega) ?_ | refine g_ft (by first | assumption | omega) ?_ | refine g_ff (by first | assumption | omega) ?_ | refine gd_tt (by first | assumption | omega) ?_ | refine gd_tf (by first | assumption | omega) ?_ | refine gd_ft (by first | assumption | omega) ?_ | refine gd_ff (by first | assumption | omega) ?_ | refine pk_tt (by first | assumption | omega) ?_ | refine pk_ff (by first | assumption | omega) ?_ | refine w_idxN eI_len (by assumption) (by assumption) (fun _ _ => ?_) | refine w_idxT eI_len (by assumption) (by omega) (by assumption) (fun _ _ => ?_)))
            refine long_at hit6 hu hSb ?_
            by_cases c3 : b.1 < ys
            · (repeat (with_reducible first | refine w_offP ?_ | refine w_nilc ?_ | refine w_rdP (by assumption) (by with_unfolding_all rfl) ?_ | refine w_rd1 (by assumption) (by with_unfolding_all rfl) ?_ | refine w_lss ?_ | refine w_leq ?_ | refine w_gtr ?_ | refine w_geq ?_ | refine w_eql ?_ | refine w_neq ?_ | refine w_lenSl ?_ | refine w_len (by assumption) ?_ | refine w_not ?_ | refine w_notb ?_ | refine c_t ?_ | refine c_f ?_ | refine gc_tt ?_ | refine gc_ft ?_ | refine gc_tf ?_ | refine gc_ff ?_ | refine gdc_tt ?_ | refine gdc_ft ?_ | refine gdc_tf ?_ | refine gdc_ff ?_ | refine gd_un ?_ | refine pk_t ?_ | refine pk_f ?_ | refine hist_nil ?_ | refine hist_same ?_ | refine read_nil ?_ | refine c_tt (by first | assumption | omega) ?_ | refine c_ff (by first | assumption | omega) ?_ | refine g_tt (by first | assumption | omega) ?_ | refine g_tf (by first | assumption | omega) ?_ | refine g_ft (by first | assumption | omega) ?_ | refine g_ff (by first | assumption | omega) ?_ | refine gd_tt (by first | assumption | omega) ?_ | refine gd_tf (by first | assumption | omega) ?_ | refine gd_ft (by first | assumption | omega) ?_ | refine gd_ff (by first | assumption | omega) ?_ | refine pk_tt (by first | assumption | omega) ?_ | refine pk_ff (by first | assumption | omega) ?_ | refine w_idxN eI_len (by assumption) (by assumption) (fun _ _ => ?_) | refine w_idxT eI_len (by assumption) (by omega) (by assumption) (fun _ _ => ?_)))
              exact hI n' _ _ hn' ⟨_, b, true, e0, e1, e4, e6, e7, e16, y1.trans x6, by omega, by omega, r6, b6, .keep hb0 hb3 (by simp only [closer]; omega), hVS', hit6⟩
            · by_cases c4 : ys < b.1
              · (repeat (with_reducible first | refine w_offP ?_ | refine w_nilc ?_ | refine w_rdP (by assumption) (by with_unfolding_all rfl) ?_ | refine w_rd1 (by assumption) (by with_unfolding_all rfl) ?_ | refine w_lss ?_ | refine w_leq ?_ | refine w_gtr ?_ | refine w_geq ?_ | refine w_eql ?_ | refine w_neq ?_ | refine w_lenSl ?_ | refine w_len (by assumption) ?_ | refine w_not ?_ | refine w_notb ?_ | refine c_t ?_ | refine c_f ?_ | refine gc_tt ?_ | refine gc_ft ?_ | refine gc_tf ?_ | refine gc_ff ?_ | refine gdc_tt ?_ | refine gdc_ft ?_ | refine gdc_tf ?_ | refine gdc_ff ?_ | refine gd_un ?_ | refine pk_t ?_ | refine pk_f ?_ | refine hist_nil ?_ | refine hist_same ?_ | refine read_nil ?_ | refine c_tt (by first | assumption | omega) ?_ | refine c_ff (by first | assumption | omega) ?_ | refine g_tt (by first | assumption | omega) ?_ | refine g_tf (by first | assumption | omega) ?_ | refine g_ft (by first | assumption | omega) ?_ | refine g_ff (by first | assumption | omega) ?_ | refine gd_tt (by first | assumption | omega) ?_ | refine gd_tf (by first | assumption | omega) ?_ | refine gd_ft (by first | assumption | omega) ?_ | refine gd_ff (by first | assumption | omega) ?_ | refine pk_tt (by first | assumption | omega) ?_ | refine pk_ff (by first | assumption | omega) ?_ | refine w_idxN eI_len (by assumption) (by assumption) (fun _ _ => ?_) | refine w_idxT eI_len (by assumption) (by omega) (by assumption) (fun _ _ => ?_)))
                refine w_rdPA g6 (Nat.le_refl 2) ?_
                refine w_stPA b6 rfl (Nat.le_refl 2) rfl ?_
                refine hI n' _ _ hn' ⟨_, (ys, yo), true, e0, e1, e4, e6, rfl, e16, (y1.trans x6).set (by omega) _, by simp; omega, by simp; omega, ?_, get_set _ (by omega) _, .turn hb3 hnd (.inr ⟨rfl, .inl c4⟩), hVS', hit6.keep (get_ne (by omega) _) (get_ne (by omega) _)⟩
                rw [get_ne (by omega)]; exact r6
              · obtain rfl : ys = b.1 := by omega
                cases yo with
                | true =>
                  (repeat (with_reducible first | refine w_offP ?_ | refine w_nilc ?_ | refine w_rdP (by assumption) (by with_unfolding_all rfl) ?_ | refine w_rd1 (by assumption) (by with_unfolding_all rfl) ?_ | refine w_lss ?_ | refine w_leq ?_ | refine w_gtr ?_ | refine w_geq ?_ | refine w_eql ?_ | refine w_neq ?_ | refine w_lenSl ?_ | refine w_len (by assumption) ?_ | refine w_not ?_ | refine w_notb ?_ | refine c_t ?_ | refine c_f ?_ | refine gc_tt ?_ | refine gc_ft ?_ | refine gc_tf ?_ | refine gc_ff ?_ | refine gdc_tt ?_ | refine gdc_ft ?_ | refine gdc_tf ?_ | refine gdc_ff ?_ | refine gd_un ?_ | refine pk_t ?_ | refine pk_f ?_ | refine hist_nil ?_ | refine hist_same ?_ | refine read_nil ?_ | refine c_tt (by first | assumption | omega) ?_ | refine c_ff (by first | assumption | omega) ?_ | refine g_tt (by first | assumption | omega) ?_ | refine g_tf (by first | assumption | omega) ?_ | refine g_ft (by first | assumption | omega) ?_ | refine g_ff (by first | assumption | omega) ?_ | refine gd_tt (by first | assumption | omega) ?_ | refine gd_tf (by first | assumption | omega) ?_ | refine gd_ft (by first | assumption | omega) ?_ | refine gd_ff (by first | assumption | omega) ?_ | refine pk_tt (by first | assumption | omega) ?_ | refine pk_ff (by first | assumption | omega) ?_ | refine w_idxN eI_len (by assumption) (by assumption) (fun _ _ => ?_) | refine w_idxT eI_len (by assumption) (by omega) (by assumption) (fun _ _ => ?_)))
                  exact hI n' _ _ hn' ⟨_, b, true, e0, e1, e4, e6, e7, e16, y1.trans x6, by omega, by omega, r6, b6, .keep hb0 hb3 (by simp only [closer]; simp), hVS', hit6⟩
                | false =>
                  have hbo : b.2 = true := by
                    cases hb2 : b.2 with
                    | true => rfl
                    | false =>
                      exfalso
                      have : ((b.1, false), yl0) = (b, yl0) := by rw [← hb2]
                      exact hny (this ▸ hb0.1)
                  (repeat (with_reducible first | refine w_offP ?_ | refine w_nilc ?_ | refine w_rdP (by assumption) (by with_unfolding_all rfl) ?_ | refine w_rd1 (by assumption) (by with_unfolding_all rfl) ?_ | refine w_lss ?_ | refine w_leq ?_ | refine w_gtr ?_ | refine w_geq ?_ | refine w_eql ?_ | refine w_neq ?_ | refine w_lenSl ?_ | refine w_len (by assumption) ?_ | refine w_not ?_ | refine w_notb ?_ | refine c_t ?_ | refine c_f ?_ | refine gc_tt ?_ | refine gc_ft ?_ | refine gc_tf ?_ | refine gc_ff ?_ | refine gdc_tt ?_ | refine gdc_ft ?_ | refine gdc_tf ?_ | refine gdc_ff ?_ | refine gd_un ?_ | refine pk_t ?_ | refine pk_f ?_ | refine hist_nil ?_ | refine hist_same ?_ | refine read_nil ?_ | refine c_tt (by first | assumption | omega) ?_ | refine c_ff (by first | assumption | omega) ?_ | refine g_tt (by first | assumption | omega) ?_ | refine g_tf (by first | assumption | omega) ?_ | refine g_ft (by first | assumption | omega) ?_ | refine g_ff (by first | assumption | omega) ?_ | refine gd_tt (by first | assumption | omega) ?_ | refine gd_tf (by first | assumption | omega) ?_ | refine gd_ft (by first | assumption | omega) ?_ | refine gd_ff (by first | assumption | omega) ?_ | refine pk_tt (by first | assumption | omega) ?_ | refine pk_ff (by first | assumption | omega) ?_ | refine w_idxN eI_len (by assumption) (by assumption) (fun _ _ => ?_) | refine w_idxT eI_len (by assumption) (by omega) (by assumption) (fun _ _ => ?_)))
                  refine w_rdPA g6 (Nat.le_refl 2) ?_
                  refine w_stPA b6 rfl (Nat.le_refl 2) rfl ?_
                  refine hI n' _ _ hn' ⟨_, (b.1, false), true, e0, e1, e4, e6, rfl, e16, (y1.trans x6).set (by omega) _, by simp; omega, by simp; omega, ?_, get_set _ (by omega) _, .turn hb3 hnd (by simp only [closer]; simp [hbo]), hVS', hit6.keep (get_ne (by omega) _) (get_ne (by omega) _)⟩
                  rw [get_ne (by omega)]; exact r6
  · refine w_some rfl (c_f ?_)
    refine w_rdPA hbest (Nat.le_refl 2) ?_
    refine w_stPA hres rfl (by decide) rfl ?_
    have hz : (h4.set h.length (.row [.int .i64 b.1, .bool b.2] true))[h.length]? = some (.row [.int .i64 b.1, .bool b.2] true) := get_set _ (by omega) _
    have hlen' : (h4.set h.length (.row [.int .i64 b.1, .bool b.2] true)).length = h4.length := by simp
    have hx' : Ex h (h4.set h.length (.row [.int .i64 b.1, .bool b.2] true)) := hx.set (Nat.le_refl _) _
    have hz : ∀ g : AH, g = h4.set h.length (.row [.int .i64 b.1, .bool b.2] true) → g[h.length]? = some (.row [.int .i64 b.1, .bool b.2] true) ∧ Ex h g ∧ g.length = h4.length := fun g hg => hg ▸ ⟨hz, hx', hlen'⟩
    refine w_some (v := [sp b, .bool is]) ?_ ?_
    · rw [res115]
      have : rdRow true 2 (.pointer (some ⟨h.length, 0, none⟩)) (h4.set h.length (.row [.int .i64 b.1, .bool b.2] true)) = some (sp b) := hopt (w_rdPA (hz _ rfl).1 (Nat.le_refl 2) rfl)
      show (match rdRow true 2 (e 4) (h4.set h.length (.row [.int .i64 b.1, .bool b.2] true)) with
        | some v => some [v, .bool is]
        | none => none) = some [sp b, .bool is]
      rw [e4, this]
    · obtain ⟨q1, q2, q3⟩ := hz _ rfl
      refine ⟨q2.len, Nat.le_trans (Nat.le_of_eq q3) (by omega), ?_⟩
      have hkill : killF h.length (m + 3) (h4.set h.length (.row [.int .i64 b.1, .bool b.2] true)) = reserve (m + 3) h := by
        rw [reserve_eq]
        unfold killF
        congr 1
        apply List.ext_getElem?
        intro i
        rw [List.getElem?_take]
        by_cases hi : i < h.length
        · rw [if_pos hi, q2.get i hi]
        · rw [if_neg hi]
          exact (List.getElem?_eq_none (by omega : h.length ≤ i)).symm
      show K (.tuple #[sp b, .bool is]) (killF h.length (m + 3) (h4.set h.length (.row [.int .i64 b.1, .bool b.2] true)))
      rw [hkill]
      refine k b is (hnear.congr fun x => ?_)
      exact hall x
end Go.Proofs.YtdlbiliolbdbmaaGreat.W
end

section
/- Top's laws: runs in which the nearest spot is known. Conditions: none. -/
namespace Go.Proofs.YtdlbiliolbdbmaaGreat.W
open Go Go.AM
set_option linter.unusedVariables false
set_option maxRecDepth 100000
theorem closer_total {x y : SpotL} (h1 : ¬ closer x y) (h2 : ¬ closer y x) : x = y := by
  obtain ⟨⟨x1, x2⟩, x3⟩ := x
  obtain ⟨⟨y1, y2⟩, y3⟩ := y
  simp only [closer] at h1 h2
  have e3 : x3 = y3 := by omega
  subst e3
  have e1 : x1 = y1 := by
    simp at h1 h2
    omega
  subst e1
  cases x2 <;> cases y2 <;> simp at h1 h2 ⊢
theorem NearAt.uniq {Dn : Spot → Prop} {S : SpotL → Prop} {b b' : Spot} {is is' : Bool} (h : NearAt Dn S b is) (h' : NearAt Dn S b' is') : b = b' ∧ is = is' := by
  rcases h with ⟨rfl, rfl, h3⟩ | ⟨rfl, n, h2, h3⟩
  · rcases h' with ⟨rfl, rfl, g3⟩ | ⟨rfl, n, g2, g3⟩
    · exact ⟨rfl, rfl⟩
    · exact absurd g2 (h3 _)
  · rcases h' with ⟨rfl, rfl, g3⟩ | ⟨rfl, n', g2, g3⟩
    · exact absurd h2 (g3 _)
    · have := closer_total (g3 _ h2) (h3 _ g2)
      cases this
      exact ⟨rfl, rfl⟩
def closerB (x y : SpotL) : Bool := decide (x.2 < y.2) || (decide (x.2 = y.2) && (decide (x.1.1 < y.1.1) || (decide (x.1.1 = y.1.1) && (!x.1.2 && y.1.2))))
theorem closerB_iff {x y : SpotL} : closerB x y = true ↔ closer x y := by
  simp [closerB, closer]
def doneB (ds : List (MEnt Spot)) (x : Spot) : Bool := ds.any fun t => decide (t.1 = x)
theorem doneB_iff {ds : List (MEnt Spot)} {x : Spot} : doneB ds x = true ↔ ∃ t ∈ ds, t.1 = x := by
  simp [doneB, List.any_eq_true]
def nearL (ds : List (MEnt Spot)) : List SpotL → Option SpotL → Option SpotL
  | [], c => c
  | y :: r, c => cond (doneB ds y.1) (nearL ds r c) (match c with
    | none => nearL ds r (some y)
    | some x => cond (closerB y x) (nearL ds r (some y)) (nearL ds r (some x)))
theorem nearL_cons (ds : List (MEnt Spot)) (y : SpotL) (r : List SpotL) (c : Option SpotL) : nearL ds (y :: r) c = cond (doneB ds y.1) (nearL ds r c) (match c with
    | none => nearL ds r (some y)
    | some x => cond (closerB y x) (nearL ds r (some y)) (nearL ds r (some x))) := by cases c <;> rfl
def NearC (Dn : Spot → Prop) (S : SpotL → Prop) : Option SpotL → Prop
  | none => ∀ x, ¬ notDone Dn S x
  | some b => notDone Dn S b ∧ ∀ x, notDone Dn S x → ¬ closer x b
theorem NearC.at {Dn : Spot → Prop} {S : SpotL → Prop} {c : Option SpotL} (h : NearC Dn S c) : NearAt Dn S ((c.map (·.1)).getD (0, false)) c.isSome := by
  cases c with
  | none => exact .inl ⟨rfl, rfl, h⟩
  | some b => exact .inr ⟨rfl, b.2, h.1, h.2⟩
theorem nearL_ok (ds : List (MEnt Spot)) : ∀ (r : List SpotL) (c : Option SpotL) (S : SpotL → Prop), NearC (fun x => ∃ t ∈ ds, t.1 = x) S c → NearC (fun x => ∃ t ∈ ds, t.1 = x) (fun x => S x ∨ x ∈ r) (nearL ds r c)
  | [], c, S, h => by
    have : (fun x => S x ∨ x ∈ ([] : List SpotL)) = S := funext fun x => by simp
    rw [this]
    exact h
  | y :: r, c, S, h => by
    have hS : (fun x => S x ∨ x ∈ y :: r) = fun x => (S x ∨ x = y) ∨ x ∈ r := funext fun x => by simp [or_assoc]
    rw [hS, nearL_cons]
    have go : ∀ c', NearC (fun x => ∃ t ∈ ds, t.1 = x) (fun x => S x ∨ x = y) c' → NearC (fun x => ∃ t ∈ ds, t.1 = x) (fun x => (S x ∨ x = y) ∨ x ∈ r) (nearL ds r c') := fun c' hc => nearL_ok ds r c' _ hc
    cases hd : doneB ds y.1 with
    | true =>
      rw [_root_.cond_true]
      apply go
      have hd' := doneB_iff.1 hd
      have key : ∀ x, notDone (fun x => ∃ t ∈ ds, t.1 = x) (fun x => S x ∨ x = y) x ↔ notDone (fun x => ∃ t ∈ ds, t.1 = x) S x := fun x => ⟨fun ⟨h1, h2⟩ => ⟨h1.resolve_right (fun e => h2 (e ▸ hd')), h2⟩, fun ⟨h1, h2⟩ => ⟨.inl h1, h2⟩⟩
      cases c with
      | none => exact fun x hx => h x ((key x).1 hx)
      | some b => exact ⟨(key b).2 h.1, fun x hx => h.2 x ((key x).1 hx)⟩
    | false =>
      rw [_root_.cond_false]
      have hd' : ¬ ∃ t ∈ ds, t.1 = y.1 := fun hq => by rw [doneB_iff.2 hq] at hd; cases hd
      cases c with
      | none =>
        apply go
        refine ⟨⟨.inr rfl, hd'⟩, fun x hx hc => ?_⟩
        rcases hx.1 with h1 | rfl
        · exact h x ⟨h1, hx.2⟩
        · exact closer_irrefl _ hc
      | some b =>
        dsimp only
        cases hb : closerB y b with
        | true =>
          rw [_root_.cond_true]
          apply go
          have hyb := closerB_iff.1 hb
          refine ⟨⟨.inr rfl, hd'⟩, fun x hx hc => ?_⟩
          rcases hx.1 with h1 | rfl
          · refine h.2 x ⟨h1, hx.2⟩ ?_
            obtain ⟨⟨x1, x2⟩, x3⟩ := x
            obtain ⟨⟨y1, y2⟩, y3⟩ := y
            obtain ⟨⟨b1, b2⟩, b3⟩ := b
            simp only [closer] at hc hyb ⊢
            cases x2 <;> cases y2 <;> cases b2 <;> simp at hc hyb ⊢ <;> omega
          · exact closer_irrefl _ hc
        | false =>
          rw [_root_.cond_false]
          apply go
          refine ⟨⟨.inl h.1.1, h.1.2⟩, fun x hx hc => ?_⟩
          rcases hx.1 with h1 | rfl
          · exact h.2 x ⟨h1, hx.2⟩ hc
          · have := closerB_iff.2 hc
            rw [hb] at this
            cases this
def decSp : Value → Option Spot
  | .agg a => match a.toList with
    | [.int .i64 n, .bool b] => some (n, b)
    | _ => none
  | _ => none
theorem decSp_sound {v : Value} {x : Spot} (h : decSp v = some x) : v = sp x := by
  unfold decSp at h
  split at h
  · rename_i a
    split at h
    · rename_i n b hl
      cases h
      unfold sp
      congr 1
      exact Array.toList_inj.1 hl
    · cases h
  · cases h
def decE : List Ent → Option (List (SpotL × Nat))
  | [] => some []
  | e :: r => match decSp e.1, e.2.1, decE r with
    | some x, .int .i64 n, some l => some (((x, n), e.2.2) :: l)
    | _, _, _ => none
theorem decE_sound : ∀ {es : List Ent} {l : List (SpotL × Nat)}, decE es = some l → es = l.map fun t => (spK t.1, spV t.1, t.2)
  | [], l, h => by cases h; rfl
  | e :: r, l, h => by
    unfold decE at h
    split at h
    · rename_i x n l' h1 h2 h3
      cases h
      rw [decE_sound h3]
      obtain ⟨a, b, c⟩ := e
      simp only at h1 h2
      rw [decSp_sound h1, h2]
      rfl
    · cases h
def decD : List Ent → Option (List (MEnt Spot))
  | [] => some []
  | e :: r => match decSp e.1, decD r with
    | some x, some l => some ((x, e.2) :: l)
    | _, _ => none
theorem decD_sound : ∀ {es : List Ent} {l : List (MEnt Spot)}, decD es = some l → es = encE sp l
  | [], l, h => by cases h; rfl
  | e :: r, l, h => by
    unfold decD at h
    split at h
    · rename_i x l' h1 h3
      cases h
      rw [decD_sound h3]
      obtain ⟨a, b⟩ := e
      simp only at h1
      rw [decSp_sound h1]
      rfl
    · cases h
def wfE (ck : Nat) : List (SpotL × Nat) → Bool
  | [] => true
  | t :: r => Nat.blt t.2 ck && (r.all (fun u => !Nat.beq t.2 u.2 && !decide (t.1.1 = u.1.1)) && wfE ck r)
theorem wfE_sound {ck : Nat} : ∀ {l : List (SpotL × Nat)}, wfE ck l = true → (∀ t ∈ l, t.2 < ck) ∧ l.Pairwise fun t u => t.2 ≠ u.2 ∧ t.1.1 ≠ u.1.1
  | [], _ => ⟨fun t h => (by cases h), .nil⟩
  | t :: r, h => by
    simp only [wfE, Bool.and_eq_true, List.all_eq_true] at h
    obtain ⟨h1, h2, h3⟩ := h
    obtain ⟨g1, g2⟩ := wfE_sound h3
    refine ⟨fun u hu => ?_, .cons (fun u hu => ?_) g2⟩
    · rcases List.mem_cons.1 hu with rfl | hu
      · exact Nat.le_of_ble_eq_true h1
      · exact g1 u hu
    · have := h2 u hu
      simp only [Bool.and_eq_true, Bool.not_eq_true', decide_eq_false_iff_not] at this
      refine ⟨fun e => ?_, this.2⟩
      rw [e] at this
      simp at this
theorem pw_eq {l : List (SpotL × Nat)} (h : l.Pairwise fun t u => t.2 ≠ u.2 ∧ t.1.1 ≠ u.1.1) : ∀ t ∈ l, ∀ u ∈ l, (t.2 = u.2 ∨ t.1.1 = u.1.1) → t = u := by
  intro t ht u hu he
  obtain ⟨i, hi, rfl⟩ := List.mem_iff_getElem.1 ht
  obtain ⟨j, hj, rfl⟩ := List.mem_iff_getElem.1 hu
  rcases Nat.lt_trichotomy i j with hlt | heq | hlt
  · have := List.pairwise_iff_getElem.1 h i j hi hj hlt
    rcases he with he | he
    · exact absurd he this.1
    · exact absurd he this.2
  · subst heq; rfl
  · have := List.pairwise_iff_getElem.1 h j i hj hi hlt
    rcases he with he | he
    · exact absurd he.symm this.1
    · exact absurd he.symm this.2
def nearB : List Value → HS → KB → Bool := fun args s k => match args with
  | [.pointer (some ⟨p, 0, none⟩), .map (some d)] => match s.lookF p, s.lookF d with
    | some (.row [_, .map (some l), _] _), some (.map ds _) => match s.lookF l with
      | some (.map es ck) => match decE es, decD ds with
        | some le, some ld => wfE ck le && reserveB (le.length + 3) s fun t => match nearL ld (le.map (·.1)) none with
            | none => k (.tuple #[sp (0, false), .bool false]) t
            | some b => k (.tuple #[sp b.1, .bool true]) t
        | _, _ => false
      | _ => false
    | _, _ => false
  | _ => false
theorem nearB_ok {args : List Value} {s : HS} {k : KB} {h : AH} {K : Value → AH → Prop} (R : RepH s h) (hk : KOK k K) (hb : nearB args s k = true) : callW Tryz.prog 115 args h K := by
  unfold nearB at hb
  split at hb
  · rename_i p d
    split at hb
    · rename_i t0 l b0 w ds dck hp hd
      split at hb
      · rename_i es ck hl
        split at hb
        · rename_i le ld he hde
          rw [Bool.and_eq_true] at hb
          obtain ⟨hw, hb⟩ := hb
          rw [R.lf] at hp hd hl
          have hes := decE_sound he
          have hds := decD_sound hde
          subst hes hds
          obtain ⟨w1, w2⟩ := wfE_sound hw
          have hpw := pw_eq w2
          have hM : MapV spK spV h l (fun x => ∃ n, (x, n) ∈ le) le.length := ⟨le, ck, hl, fun x => Iff.rfl, w1, fun t ht u hu e => hpw t ht u hu (.inl e), fun t ht u hu e => hpw t ht u hu (.inr (by rw [e])), rfl⟩
          refine near115 hp hM (fun x y hx hy e => ?_) hd fun b is hn => ?_
          · obtain ⟨n, hx⟩ := hx
            obtain ⟨n', hy⟩ := hy
            have := hpw _ hx _ hy (.inr e)
            cases this
            rfl
          · have hfold := (nearL_ok ld (le.map (·.1)) none (fun _ => False) fun x hx => hx.1).at
            have hS : (fun x => False ∨ x ∈ le.map (·.1)) = fun x => ∃ n, (x, n) ∈ le := by
              funext x
              simp
            rw [hS] at hfold
            obtain ⟨e1, e2⟩ := hn.uniq hfold
            refine reserveB_ok (K := fun g => K (.tuple #[sp b, .bool is]) g) (fun t g R' hh => ?_) _ R hb
            cases hc : nearL ld (le.map (·.1)) none with
            | none =>
              rw [hc] at hh e1 e2
              have e1 : b = (0, false) := e1
              have e2 : is = false := e2
              subst e1 e2
              exact hk _ _ _ R' hh
            | some c =>
              rw [hc] at hh e1 e2
              have e1 : b = c.1 := e1
              have e2 : is = true := e2
              subst e1 e2
              exact hk _ _ _ R' hh
        · cases hb
      · cases hb
    · cases hb
  · cases hb
end Go.Proofs.YtdlbiliolbdbmaaGreat.W
end

section
/- Top's laws: two small numbers laid into one, as Go's model has it. Conditions: none. -/
namespace Go.Proofs.YtdlbiliolbdbmaaGreat.W
open Go Go.AM Go.Proofs Go.RowKit
set_option maxRecDepth 100000
theorem pack_kit (w : World) : Calls Tryz.prog 25 #[.int .i64 0, .int .i64 1] w fun e w' => e = .returned (.int .u64 1) ∧ w' = w := by
  go_enter Tryz.func25, Tryz.ntmps25
  go_wp2
  go_ret
  exact ⟨rfl, rfl⟩
theorem pack25 {h : AH} {K : Value → AH → Prop} (k : K (.int .u64 1) h) : callW Tryz.prog 25 [.int .i64 0, .int .i64 1] h K := by
  refine callW_step (.inl (.inr ⟨(· = .int .u64 1), ⟨⟨_, _, Tryz.func25, rfl, rfl⟩, ?_, ⟨_, rfl⟩, ?_, fun w => ?_⟩, ?_⟩))
  · intro a ha
    rcases List.mem_cons.1 ha with rfl | ha
    · rfl
    · rw [List.mem_singleton.1 ha]; rfl
  · rintro v rfl; rfl
  · refine (pack_kit w).mono ?_
    rintro e w' ⟨rfl, rfl⟩
    exact ⟨⟨_, rfl, rfl⟩, Below.refl _ _⟩
  · rintro v rfl; exact k
def packB : List Value → HS → KB → Bool := fun args s k => match args with
  | [.int .i64 0, .int .i64 1] => k (.int .u64 1) s
  | _ => false
theorem packB_ok {args : List Value} {s : HS} {k : KB} {h : AH} {K : Value → AH → Prop} (R : RepH s h) (hk : KOK k K) (hb : packB args s k = true) : callW Tryz.prog 25 args h K := by
  unfold packB at hb
  split at hb
  · exact pack25 (hk _ _ _ R hb)
  · cases hb
def orcT : OrcX := fun f => cond (Nat.beq f 104) (some ixB) (cond (Nat.beq f 115) (some nearB) (cond (Nat.beq f 25) (some packB) none))
theorem orcT_ok : OrcXOK Tryz.prog orcT := by
  intro f X hX
  unfold orcT at hX
  by_cases h1 : f = 104
  · subst h1
    obtain rfl := Option.some.inj (hX : some ixB = some X)
    exact fun args s k h K R hk hb => ixB_ok R hk hb
  · rw [show Nat.beq f 104 = false from by
      cases hq : Nat.beq f 104 with
      | false => rfl
      | true => exact absurd (Nat.eq_of_beq_eq_true hq) h1] at hX
    by_cases h2 : f = 115
    · subst h2
      obtain rfl := Option.some.inj (hX : some nearB = some X)
      exact fun args s k h K R hk hb => nearB_ok R hk hb
    · rw [show Nat.beq f 115 = false from by
        cases hq : Nat.beq f 115 with
        | false => rfl
        | true => exact absurd (Nat.eq_of_beq_eq_true hq) h2] at hX
      by_cases h3 : f = 25
      · subst h3
        obtain rfl := Option.some.inj (hX : some packB = some X)
        exact fun args s k h K R hk hb => packB_ok R hk hb
      · rw [show Nat.beq f 25 = false from by
          cases hq : Nat.beq f 25 with
          | false => rfl
          | true => exact absurd (Nat.eq_of_beq_eq_true hq) h3] at hX
        cases hX
end Go.Proofs.YtdlbiliolbdbmaaGreat.W
end
