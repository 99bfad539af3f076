/- Parts of a proof, joined by a program. Conditions: none. -/
import Derived.Test.YtnpbehfhncbjfaaRB3
import Derived.Test.YtnpbehfhncbjfaaRS0
import Derived.Test.YtnpbehfhncbjfaaRA2
import Derived.Test.YtnpbehfhncbjfaaRS1

section
/- Fold's laws: the code's Small. Conditions: none. -/
namespace Go.Proofs.Ytnpbehfhncbjfaa.W
open Go Go.AM FoldPM
set_option linter.unusedVariables false
set_option maxRecDepth 100000
theorem Valid.inEl {m : Mo} (v : Valid m) {p : Nat} (hp : p < m.pm.n) {l : List Int} (hl : m.In[p]? = some l) : l.length ≤ 20 ∧ ∀ x ∈ l, 0 ≤ x ∧ x.toNat < m.pm.n := by
  have h := (v.st p hp).1 _ l (v.ofAt hp) hl
  refine ⟨by have := h.1; have := v.pl.2; omega, fun x hx => ?_⟩
  obtain ⟨i, hi⟩ := List.getElem?_of_mem hx
  have g := h.2 i x hi
  exact ⟨g.1, by show x.toNat < m.Of.length; have := g.1; have := g.2.1; omega⟩
theorem Valid.lowEl {m : Mo} (v : Valid m) {p : Nat} (hp : p < m.pm.n) {l : List Int} (hl : m.Low[p]? = some l) : l.length ≤ 20 ∧ ∀ x ∈ l, 0 ≤ x ∧ x.toNat < m.pm.n := by
  obtain ⟨lo, re, h1, h2, hc⟩ := v.rows hp
  rw [hl] at h1
  cases h1
  have h := hc _ l re (v.ofAt hp) hl h2
  by_cases h0 : m.pm.of p = 0
  · have h := (h.1 h0).2
    refine ⟨by have := h.1; have := v.cl.2; omega, fun x hx => ?_⟩
    obtain ⟨i, hi⟩ := List.getElem?_of_mem hx
    have g := h.2 i x hi
    exact ⟨g.1, by show x.toNat < m.Of.length; have := g.1; have := g.2.1; omega⟩
  · have := List.eq_nil_of_length_eq_zero (h.2 h0).1
    subst this
    exact ⟨Nat.zero_le _, fun x hx => by cases hx⟩
theorem Valid.enEl {m : Mo} (v : Valid m) : m.En.length ≤ 21 ∧ ∀ x ∈ m.En, 0 ≤ x ∧ x.toNat < m.pm.n := by
  refine ⟨by have := v.k2; omega, fun x hx => ?_⟩
  obtain ⟨i, hi⟩ := List.getElem?_of_mem hx
  have g := v.en i x hi
  exact ⟨g.1, by show x.toNat < m.Of.length; have := g.1; have := g.2.1; omega⟩
theorem Valid.retEl {m : Mo} (v : Valid m) {p : Nat} (hp : p < m.pm.n) {r : List (List Int)} (hr : m.Ret[p]? = some r) : r.length ≤ 20 ∧ ∀ l ∈ r, l.length = m.pm.n ∧ ∀ x ∈ l, 0 ≤ x ∧ x.toNat < m.pm.n := by
  obtain ⟨lo, re, h1, h2, hc⟩ := v.rows hp
  rw [hr] at h2
  cases h2
  have h := hc _ lo r (v.ofAt hp) h1 hr
  by_cases h0 : m.pm.of p = 0
  · have := List.eq_nil_of_length_eq_zero (h.1 h0).1
    subst this
    exact ⟨Nat.zero_le _, fun x hx => by cases hx⟩
  · have h := (h.2 h0).2
    refine ⟨by have := h.1; have := v.cl.2; omega, fun l hl => ?_⟩
    obtain ⟨j, hj⟩ := List.getElem?_of_mem hl
    have g := h.2 j l hj
    refine ⟨g.1, fun x hx => ?_⟩
    obtain ⟨i, hi⟩ := List.getElem?_of_mem hx
    obtain ⟨c, _, gx⟩ := g.2 i x hi
    exact ⟨gx.1, by show x.toNat < m.Of.length; have := gx.1; have := gx.2.1; omega⟩
theorem Part.keep {h h' : AH} {X C : Nat} {u : MoV} {m : Mo} {vis vc : Value} {c : List Int} {cnt : Nat} (p : Part h X C u m vis vc c cnt) (hX : h'[X]? = h[X]?) (hC : h'[C]? = h[C]?) : Part h' X C u m vis vc c cnt :=
  ⟨hX.trans p.row, p.cls.mono (fun _ _ h => h) fun j hj hf => by have : j = C := hf; rw [this]; exact hC, p.ne⟩
theorem lr1 (h : AH) : (reserve 1 h).length = h.length + 1 := by rw [reserve_one]; simp
def SmW (h h' : AH) (u : MoV) (s : Mo) : Prop :=
  RowW h' (sv u.vo) ∧ (∀ j, onId (sv u.vo) j → h.length ≤ j) ∧ (∀ j, onId (sv u.vi) j → h.length ≤ j ∧ ¬ onId (sv u.vo) j) ∧ ∃ vals, Sl 1 h' (sv u.vi) s.In.length vals ∧ ∀ (i : Nat) (l : List Int), s.In[i]? = some l → ∃ w, vals[i]? = some w ∧ Ints h' w l ∧ RowW h' w ∧ ∀ j, onId w j → h.length ≤ j ∧ ¬ onId (sv u.vi) j
theorem small18W {h : AH} {u : MoV} {m : Mo} {K : Value → AH → Prop} (mh : MoH h u m) (v : Valid m)
    (k : ∀ h' u' c cnt f, Ex h h' → Canon m.pm.n (Rch m.pm) (EE m.pm) c cnt → (∀ d, d < cnt → Fst c d (f d) ∧ f d < m.pm.n) → MoH h' u' (sm m c cnt f) → SmW h h' u' (sm m c cnt f) → K (.tuple #[.agg (moRow u' (sm m c cnt f)).toArray, .int .i64 0]) h') : callW Try.prog 18 [.agg (moRow u m).toArray] h K := by
  have ok := v.ok
  have n1 := ok.n1
  have n2 := v.n2
  have hnn : m.pm.n = m.Of.length := rfl
  have hn60 : m.pm.n ≤ 60 := by omega
  refine c18 ?_
  unfold s18
  refine n_boxv rfl fun h1 x1 l1 g1 => n_rowv fun h2 x2 l2 g2 => ?_
  have g1' : h1[h.length]? = some (.row (moRow u m) true) := g1
  have gb2 := x2.some g1'
  refine w_rdPA gb2 (Nat.le_refl 8) ?_
  refine check15 (mh.ex (x1.trans x2)) (fun nv => absurd v nv) fun _ h3 x3 => w_neq (c_ff (by decide) ?_)
  have x03 := (x1.trans x2).trans x3
  have gb3 := x3.some gb2
  have gR3 := x3.some g2
  refine w_rdPA gb3 (Nat.le_refl 8) ?_
  refine classes38 v (mh.ex x03) fun h5 X C vis vc c cnt x5 hX hC lC Pa Ca => ?_
  have lX := lt_of_get Pa.row
  have hcl := Ca.len
  have cn := Ca.le
  refine n_var rfl rfl rfl fun h7 x7 l7 g7 => ?_
  have gP : h7[h5.length]? = some (.row [.pointer (some ⟨X, 0, none⟩)] true) := g7
  have Pa7 := Pa.ex x7
  refine w_rdP gP rfl (w_nilc (w_offP (w_rdP Pa7.row (v := .int .i64 (cnt : Nat)) rfl ?_)))
  refine w_mk1 (by decide) (by omega) ?_
  refine n_newv fun h8 x8 l8 g8 => ?_
  have gF8 : h8[h7.length]? = some (.row (flat eI (List.replicate cnt 0)) true) := by rw [← repL_zero]; exact g8
  have x58 := x7.trans x8
  have x08 := x03.trans (x5.trans x58)
  have gb8 := (x5.trans x58).some gb3
  have gR8 := (x5.trans x58).some gR3
  have gP8 := x8.some gP
  have Pa8 := Pa7.ex x8
  have m8 := mh.ex x08
  refine w_offP (w_rdP gb8 (v := sv u.vo) rfl (w_len m8.of (w_sub (by omega) (by omega) ?_)))
  refine loopE_intro (fun mm e h' => ∃ (i : Nat) (fl : List Int), i ≤ m.pm.n ∧ mm = i ∧ e 1 = .pointer (some ⟨h.length, 0, none⟩) ∧ e 2 = .pointer (some ⟨h1.length, 0, none⟩) ∧ e 5 = .pointer (some ⟨h5.length, 0, none⟩) ∧ e 6 = .slice (some ⟨h7.length, 0, none⟩) cnt cnt ∧ e 7 = .int .i64 ((i : Int) - 1) ∧
      Exx h7.length h8 h' ∧ h'[h7.length]? = some (.row (flat eI fl) true) ∧ fl.length = cnt ∧ ∀ d, d < cnt → (∃ q : Nat, i ≤ q ∧ c[q]? = some (d : Int)) → ∃ p0 : Nat, fl[d]? = some (p0 : Int) ∧ i ≤ p0 ∧ c[p0]? = some (d : Int) ∧ ∀ q : Nat, i ≤ q → q < p0 → c[q]? ≠ some (d : Int)) m.pm.n
    ⟨m.pm.n, _, Nat.le_refl _, rfl, rfl, rfl, rfl, rfl, rfl, Exx.refl _ _, gF8, List.length_replicate, fun d hd ⟨q, h1, h2⟩ => by have := (List.getElem?_eq_some_iff.1 h2).1; omega⟩ ?_
  rintro J mm e hA ⟨i, fl, hi, hmm, e1, e2, e5, e6, e7, xA, gF, lfl, hfl⟩ ih
  rw [e7, e5, e6, e1]
  have nF : ∀ j, j ≤ h7.length → j ≠ h7.length → hA[j]? = h8[j]? := fun j hj hne => xA.get j (by omega) hne
  have gPA : hA[h5.length]? = some (.row [.pointer (some ⟨X, 0, none⟩)] true) := xA.some gP8 (by omega)
  have PaA : Part hA X C u m vis vc c cnt := Pa8.keep (nF _ (by omega) (by omega)) (nF _ (by omega) (by omega))
  refine w_geq (c_dec (fun q => ?_) (fun q => ?_))
  · obtain ⟨p, rfl⟩ : ∃ p, i = p + 1 := ⟨i - 1, by omega⟩
    have ep : (((p + 1 : Nat) : Int)) - 1 = ((p : Nat) : Int) := by omega
    rw [ep]
    refine w_rdP gPA rfl (w_nilc (w_offP (w_rdP PaA.row (v := vc) rfl ?_)))
    obtain ⟨x, hx⟩ := getElem?_of_lt (l := c) (i := p) (by omega)
    refine w_idxN eI_len PaA.cls.sl hx fun z hz => w_rd1 hz rfl (w_geq (c_dec (fun q1 => ?_) (fun q1 => ?_)))
    · have rp : Rch m.pm p := by
        by_cases r : Rch m.pm p
        · exact r
        · have := Ca.un p (by omega) r
          rw [hx] at this
          cases this
          omega
      obtain ⟨d, hd, hdx⟩ := Ca.re p (by omega) rp
      rw [hx] at hdx
      cases hdx
      refine w_ix hd (w_stP gF (by rw [flat_eI_len]; omega) rfl rfl ?_)
      rw [flat_eI_set]
      refine w_sub (by omega) (by omega) ?_
      refine ih p _ _ (by omega) ⟨p, fl.set d (p : Int), by omega, rfl, e1, e2, e5, e6, rfl, xA.set _, get_set _ (lt_of_get gF) _, by rw [List.length_set]; exact lfl, fun d' hd' ⟨q, h1, h2⟩ => ?_⟩
      by_cases ed : d' = d
      · subst ed
        exact ⟨p, List.getElem?_set_self (by omega), Nat.le_refl _, hx, fun q' h3 h4 => by omega⟩
      · have hq : q ≠ p := fun e => by
          subst e
          rw [hx] at h2
          injection h2 with h2
          omega
        obtain ⟨p0, a1, a2, a3, a4⟩ := hfl d' hd' ⟨q, by omega, h2⟩
        refine ⟨p0, by rw [List.getElem?_set_ne (Ne.symm ed)]; exact a1, by omega, a3, fun q' h3 h4 => ?_⟩
        by_cases eq : q' = p
        · subst eq
          rw [hx]
          intro hh
          injection hh with hh
          omega
        · exact a4 q' (by omega) h4
    · refine w_sub (by omega) (by omega) ?_
      refine ih p _ _ (by omega) ⟨p, fl, by omega, rfl, e1, e2, e5, e6, rfl, xA, gF, lfl, fun d' hd' ⟨q, h1, h2⟩ => ?_⟩
      have hq : q ≠ p := fun e => by
        subst e
        rw [hx] at h2
        injection h2 with h2
        omega
      obtain ⟨p0, a1, a2, a3, a4⟩ := hfl d' hd' ⟨q, by omega, h2⟩
      refine ⟨p0, a1, by omega, a3, fun q' h3 h4 => ?_⟩
      by_cases eq : q' = p
      · subst eq
        rw [hx]
        intro hh
        injection hh with hh
        omega
      · exact a4 q' (by omega) h4
  · obtain ⟨f, hf⟩ : ∃ f : Nat → Nat, ∀ d, d < cnt → fl[d]? = some ((f d : Nat) : Int) ∧ Fst c d (f d) ∧ f d < m.pm.n := by
      refine ⟨fun d => (fl.getD d 0).toNat, fun d hd => ?_⟩
      obtain ⟨p, hp, hpd⟩ := Ca.all d hd
      obtain ⟨p0, a1, a2, a3, a4⟩ := hfl d hd ⟨p, by omega, hpd⟩
      have e : (fl.getD d 0).toNat = p0 := by rw [getD_some a1]; rfl
      dsimp only
      rw [e]
      exact ⟨a1, ⟨a3, fun q hq => a4 q (by omega) hq⟩, by have := (List.getElem?_eq_some_iff.1 a3).1; omega⟩
    clear ih hfl
    have xA8 : Ex h5 hA := Exx.base x58 xA (by have := x7.len; omega)
    have x0A : Ex h hA := (x03.trans x5).trans xA8
    have gbA : hA[h.length]? = some (.row (moRow u m) true) := (x5.trans xA8).some gb3
    have gRA : hA[h1.length]? = some (.row z8 true) := (x5.trans xA8).some gR3
    have mA := mh.ex x0A
    have lA := xA.len
    have lF := lt_of_get gF
    have xr := Ex.res hA
    have lr : (reserve 1 hA).length = hA.length + 1 := by rw [reserve_one]; simp
    refine w_offP (w_rdP (xr.some gbA) (v := .int .i64 m.pl) rfl (w_offP (w_rdP (xr.some gbA) (v := .int .i64 m.cl) rfl (w_offP (w_rdP (xr.some gbA) (v := sv u.ve) rfl ?_)))))
    refine to39 (mA.ex xr).en (by have := v.enEl.1; omega) (xr.some gPA) (PaA.ex xr) (fun x hx => by have := v.enEl.2 x hx; rw [hcl]; exact this) fun v61 h11 x11 i61 on61 => ?_
    obtain ⟨a61, n61, c61, rfl⟩ := Sl.isSl i61
    refine ⟨ptr_id (x11.get _ (by have := lt_of_get gbA; omega)), ptr_id (x11.get _ (by have := lt_of_get gbA; omega)), ?_⟩
    refine w_some (v := .agg #[.int .i64 m.pl, .int .i64 m.cl, .slice none 0 0, .slice a61 n61 c61, .slice none 0 0, .slice none 0 0, .slice none 0 0, .slice none 0 0]) rfl ?_
    have gd : (reserve 1 hA)[hA.length]? = some .dead := by rw [reserve_one]; exact get_new _ _
    refine n_slot ?_
    have lT := lt_of_get (x11.some gd)
    refine w_stPA (get_set _ lT _) rfl (Nat.le_refl 8) rfl ?_
    have gT : ((h11.set hA.length (.row [(.int .i64 0), (.int .i64 0), (.slice none 0 0), (.slice none 0 0), (.slice none 0 0), (.slice none 0 0), (.slice none 0 0), (.slice none 0 0)] true)).set hA.length (.row (spliceL [(.int .i64 0), (.int .i64 0), (.slice none 0 0), (.slice none 0 0), (.slice none 0 0), (.slice none 0 0), (.slice none 0 0), (.slice none 0 0)] 0 (cellsL (.agg #[.int .i64 m.pl, .int .i64 m.cl, .slice none 0 0, .slice a61 n61 c61, .slice none 0 0, .slice none 0 0, .slice none 0 0, .slice none 0 0]))) true))[hA.length]? = some (.row [.int .i64 m.pl, .int .i64 m.cl, .slice none 0 0, .slice a61 n61 c61, .slice none 0 0, .slice none 0 0, .slice none 0 0, .slice none 0 0] true) := get_set _ (by rw [List.length_set]; exact lT) _
    have xT : Ex hA ((h11.set hA.length (.row [(.int .i64 0), (.int .i64 0), (.slice none 0 0), (.slice none 0 0), (.slice none 0 0), (.slice none 0 0), (.slice none 0 0), (.slice none 0 0)] true)).set hA.length (.row (spliceL [(.int .i64 0), (.int .i64 0), (.slice none 0 0), (.slice none 0 0), (.slice none 0 0), (.slice none 0 0), (.slice none 0 0), (.slice none 0 0)] 0 (cellsL (.agg #[.int .i64 m.pl, .int .i64 m.cl, .slice none 0 0, .slice a61 n61 c61, .slice none 0 0, .slice none 0 0, .slice none 0 0, .slice none 0 0]))) true)) := ((xr.trans x11).set (Nat.le_refl _) _).set (Nat.le_refl _) _
    have kT : ∀ j, j ≠ hA.length → ((h11.set hA.length (.row [(.int .i64 0), (.int .i64 0), (.slice none 0 0), (.slice none 0 0), (.slice none 0 0), (.slice none 0 0), (.slice none 0 0), (.slice none 0 0)] true)).set hA.length (.row (spliceL [(.int .i64 0), (.int .i64 0), (.slice none 0 0), (.slice none 0 0), (.slice none 0 0), (.slice none 0 0), (.slice none 0 0), (.slice none 0 0)] 0 (cellsL (.agg #[.int .i64 m.pl, .int .i64 m.cl, .slice none 0 0, .slice a61 n61 c61, .slice none 0 0, .slice none 0 0, .slice none 0 0, .slice none 0 0]))) true))[j]? = h11[j]? := fun j hj => (get_ne (Ne.symm hj) _).trans (get_ne (Ne.symm hj) _)
    have lTT : ((h11.set hA.length (.row [(.int .i64 0), (.int .i64 0), (.slice none 0 0), (.slice none 0 0), (.slice none 0 0), (.slice none 0 0), (.slice none 0 0), (.slice none 0 0)] true)).set hA.length (.row (spliceL [(.int .i64 0), (.int .i64 0), (.slice none 0 0), (.slice none 0 0), (.slice none 0 0), (.slice none 0 0), (.slice none 0 0), (.slice none 0 0)] 0 (cellsL (.agg #[.int .i64 m.pl, .int .i64 m.cl, .slice none 0 0, .slice a61 n61 c61, .slice none 0 0, .slice none 0 0, .slice none 0 0, .slice none 0 0]))) true)).length = h11.length := by rw [List.length_set, List.length_set]
    generalize (h11.set hA.length (.row [(.int .i64 0), (.int .i64 0), (.slice none 0 0), (.slice none 0 0), (.slice none 0 0), (.slice none 0 0), (.slice none 0 0), (.slice none 0 0)] true)).set hA.length (.row (spliceL [(.int .i64 0), (.int .i64 0), (.slice none 0 0), (.slice none 0 0), (.slice none 0 0), (.slice none 0 0), (.slice none 0 0), (.slice none 0 0)] 0 (cellsL (.agg #[.int .i64 m.pl, .int .i64 m.cl, .slice none 0 0, .slice a61 n61 c61, .slice none 0 0, .slice none 0 0, .slice none 0 0, .slice none 0 0]))) true) = hT at gT xT kT lTT ⊢
    let v61 : Value := .slice a61 n61 c61
    have S0 : SmI hA hT hA.length (.int .i64 m.pl, .int .i64 m.cl) (.slice a61 n61 c61) (m.En.map (cOf c)) wnil (fun _ => []) (fun j => onId (.slice a61 n61 c61) j) [] [] [] [] [] [] [] :=
      ⟨xT, rfl, gT, ⟨SL.nil _ _, fun j hj => ⟨by have := (on61 j hj).1; omega, by rw [lTT]; exact (on61 j hj).2, fun _ _ hh => hh.elim⟩⟩, Sl.keepOn i61 fun j hj => kT j (by have := (on61 j hj).1; omega), fun j hj => hj, rfl, rfl, RowsZ.nil _ _, RowsZ.nil _ _, RetsZ.nil _ _, RowsZ.nil _ _, rfl, fun _ h => by cases h⟩
    refine w_lenSl ?_
    refine loopE_intro (fun mm e' h' => ∃ (d : Nat) (vv : Nat → Value) (cs : Nat → List Value) (Z : Nat → Prop) (a5 : List (List Int)) (a6 : List Int), d ≤ cnt ∧ mm = cnt - d ∧ e' 1 = .pointer (some ⟨h.length, 0, none⟩) ∧ e' 2 = .pointer (some ⟨h1.length, 0, none⟩) ∧ e' 5 = .pointer (some ⟨h5.length, 0, none⟩) ∧ e' 6 = .slice (some ⟨h7.length, 0, none⟩) cnt cnt ∧
        e' 9 = .func (.func 39) #[] #[.pointer (some ⟨h5.length, 0, none⟩)] ∧ e' 10 = .pointer (some ⟨hA.length, 0, none⟩) ∧ e' 63 = .slice (some ⟨h7.length, 0, none⟩) cnt cnt ∧ e' 64 = .int .i64 (cnt : Nat) ∧ e' 65 = .int .i64 (d : Nat) ∧
        SmI hA h' hA.length (.int .i64 m.pl, .int .i64 m.cl) (.slice a61 n61 c61) (m.En.map (cOf c)) vv cs Z (smOf m f d) (smFi m f d) (smIn m c f d) (smLow m c f d) (smRet m c cnt f d) a5 a6) cnt
      ⟨0, wnil, fun _ => [], _, [], [], Nat.zero_le _, rfl, e1, e2, e5, e6, rfl, rfl, rfl, rfl, rfl, S0⟩ ?_
    clear e1 e2 e5 e6 e7 hmm q hi S0 gT xT kT lTT lT x11 on61 i61 gd
    clear e mm J i hT h11
    rintro J mm e h14 ⟨d, vv, cs, Z, a5, a6, hd, hmm, e1, e2, e5, e6, e9, e10, e63, e64, e65, S⟩ ih
    rw [e63, e64, e65, e10, e1, e9]
    have slF : ∀ {h' : AH}, Ex hA h' → Ints h' (.slice (some ⟨h7.length, 0, none⟩) cnt cnt) fl := fun x => slI (x.some gF) lfl (by omega)
    refine w_lss (c_dec (fun q => ?_) (fun q => ?_))
    · have hdc : d < cnt := by omega
      obtain ⟨fd, fst, fdn⟩ := hf d hdc
      obtain ⟨li, hli⟩ := getElem?_of_lt (l := m.In) (i := f d) (by have := v.li; show f d < m.In.length; rw [this]; exact fdn)
      obtain ⟨lo, hlo⟩ := getElem?_of_lt (l := m.Low) (i := f d) (by have := v.ll; show f d < m.Low.length; rw [this]; exact fdn)
      obtain ⟨re, hre⟩ := getElem?_of_lt (l := m.Ret) (i := f d) (by have := v.lr; show f d < m.Ret.length; rw [this]; exact fdn)
      refine w_idxN eI_len (slF S.ex) fd fun z hz => w_rd1 hz rfl ?_
      have dd : ∀ (h : AH), (reserve 1 h)[h.length]? = some .dead := fun h => by rw [reserve_one]; exact get_new _ _
      have S1 := S.exx (Ex.res h14)
      have bA1 := S1.ex.some gbA
      have nz : ∀ {h : AH} {vv : Nat → Value} {cs : Nat → List Value} {Z : Nat → Prop}, SMs h hA.length vv cs Z → ¬ Z h.length := fun s hz => by have := (s.z _ hz).2.1; omega
      refine w_offP (w_rdP S1.box rfl (w_offP (w_rdP bA1 (v := sv u.vo) rfl (w_idxN eI_len (mA.ex S1.ex).of (v.ofAt fdn) fun z hz => w_rd1 hz rfl ?_))))
      refine S1.app0 S.lt (dd h14) (nz S.s) (by unfold smOf; simp; omega) fun c1 j1 v1 q1 h17 l17 S2 => ?_
      have S3 := S2.exx (Ex.res h17)
      refine w_offP (w_rdP S3.box rfl (w_offP (w_rdP (S3.ex.some gbA) (v := sv u.vf) rfl (w_idxN eBo_len (mA.ex S3.ex).fi (v.fiAt fdn) fun z hz => w_rd1 hz rfl ?_))))
      refine S3.app1 S2.lt (dd h17) (nz S2.s) (by unfold smFi; simp; omega) fun c2 j2 v2 q2 h20 l20 S4 => ?_
      have S5 := S4.exx (Ex.res h20)
      obtain ⟨vin, sin, rin⟩ := (mA.ex S5.ex).inn
      obtain ⟨win, hwin, iin⟩ := rin _ li hli
      refine w_offP (w_rdP S5.box rfl (w_offP (w_rdP (S5.ex.some gbA) (v := sv u.vi) rfl (idxV sin hwin fun z hz => w_rd1 hz rfl ?_))))
      have eln := v.inEl fdn hli
      refine to39W iin (by omega) (S5.ex.some gPA) (PaA.ex S5.ex) (fun x hx => by have := eln.2 x hx; rw [hcl]; exact this) fun w97 h21 x21 i97 on97 w97w => ?_
      refine ⟨ptr_id (x21.get _ (by have := S5.lt; exact this)), ?_⟩
      have S6 := S5.addZ x21 on97
      refine S6.app2 i97 w97w (fun j hj => .inr hj) S4.lt (x21.some (dd h20)) (fun hz => hz.elim (nz S4.s) fun hh => by have := (on97 _ hh).1; rw [lr1] at this; omega) (by unfold smIn; simp; omega) fun c3 j3 v3 q3 h24 l24 S7 => ?_
      have S8 := S7.exx (Ex.res h24)
      obtain ⟨vlo, slo, rlo⟩ := (mA.ex S8.ex).low
      obtain ⟨wlo, hwlo, ilo⟩ := rlo _ lo hlo
      refine w_offP (w_rdP S8.box rfl (w_offP (w_rdP (S8.ex.some gbA) (v := sv u.vl) rfl (idxV slo hwlo fun z hz => w_rd1 hz rfl ?_))))
      have ell := v.lowEl fdn hlo
      refine to39 ilo (by omega) (S8.ex.some gPA) (PaA.ex S8.ex) (fun x hx => by have := ell.2 x hx; rw [hcl]; exact this) fun w109 h25 x25 i109 on109 => ?_
      refine ⟨ptr_id (x25.get _ (by have := S8.lt; exact this)), ?_⟩
      have S9 := S8.addZ x25 on109
      refine S9.app3 i109 (fun j hj => .inr hj) S7.lt (x25.some (dd h24)) (fun hz => hz.elim (nz S7.s) fun hh => by have := (on109 _ hh).1; rw [lr1] at this; omega) (by unfold smLow; simp; omega) fun c4 j4 v4 q4 h28 l28 S10 => ?_
      have elr := v.retEl fdn hre
      have elr1 := elr.1
      obtain ⟨vre, sre, rre⟩ := mA.ret
      obtain ⟨wre, hwre, vsr, svr, rvr⟩ := rre _ re hre
      refine w_offP (w_rdP (S10.ex.some gbA) (v := sv u.vr) rfl (idxV (sre.ex S10.ex) hwre fun z hz => w_rd1 hz rfl (w_len svr ?_)))
      have S11 := S10.reset5
      have t0 : smOf m f (d + 1) = smOf m f d ++ [m.pm.of (f d)] := range_succ _ d
      have t1 : smFi m f (d + 1) = smFi m f d ++ [m.pm.fi (f d)] := range_succ _ d
      have t2 : smIn m c f (d + 1) = smIn m c f d ++ [li.map (cOf c)] := by
        have : (m.In.getD (f d) []) = li := getD_of hli
        rw [← this]; exact range_succ _ d
      have t3 : smLow m c f (d + 1) = smLow m c f d ++ [lo.map (cOf c)] := by
        have : (m.Low.getD (f d) []) = lo := getD_of hlo
        rw [← this]; exact range_succ _ d
      rw [← t0, ← t1, ← t2, ← t3] at S11
      refine loopE_intro (fun mm e' h' => ∃ (j : Nat) (vv : Nat → Value) (cs : Nat → List Value) (Z : Nat → Prop) (a6 : List Int), j ≤ re.length ∧ mm = re.length - j ∧ e' 1 = .pointer (some ⟨h.length, 0, none⟩) ∧ e' 2 = .pointer (some ⟨h1.length, 0, none⟩) ∧ e' 5 = .pointer (some ⟨h5.length, 0, none⟩) ∧ e' 6 = .slice (some ⟨h7.length, 0, none⟩) cnt cnt ∧
          e' 9 = .func (.func 39) #[] #[.pointer (some ⟨h5.length, 0, none⟩)] ∧ e' 10 = .pointer (some ⟨hA.length, 0, none⟩) ∧ e' 63 = .slice (some ⟨h7.length, 0, none⟩) cnt cnt ∧ e' 64 = .int .i64 (cnt : Nat) ∧ e' 65 = .int .i64 (d : Nat) ∧ e' 13 = vv 5 ∧ e' 117 = wre ∧ e' 118 = .int .i64 (re.length : Nat) ∧ e' 119 = .int .i64 (j : Nat) ∧
          SmI hA h' hA.length (.int .i64 m.pl, .int .i64 m.cl) (.slice a61 n61 c61) (m.En.map (cOf c)) vv cs Z (smOf m f (d + 1)) (smFi m f (d + 1)) (smIn m c f (d + 1)) (smLow m c f (d + 1)) (smRet m c cnt f d) ((re.take j).map fun l => smRow c f l cnt) a6) re.length
        ⟨0, _, _, _, a6, Nat.zero_le _, rfl, e1, e2, e5, e6, e9, e10, e63, e64, e65, ?_, rfl, rfl, rfl, S11⟩ ?_
      · exact rfl
      clear S11
      have S10ex := S10.ex
      clear S10 S9 S8 S7 S6 S5 S4 S3 S2 S1 S hz x25 on109 ilo hwlo rlo slo x21 on97 iin hwin rin sin bA1 l28 l24 l20 l17 i109 i97
      clear e1 e2 e5 e6 e9 e10 e63 e64 e65 q
      rintro I2 mm2 e2v h29 ⟨j, vv2, cs2, Z2, a62, hj, hmm2, f1, f2, f5, f6, f9, f10, f63, f64, f65, f13, f117, f118, f119, T0⟩ ih2
      rw [f117, f118, f119, f6, f10]
      refine w_lss (c_dec (fun q2 => ?_) (fun q2 => ?_))
      · obtain ⟨l, hl⟩ := getElem?_of_lt (l := re) (i := j) (by omega)
        obtain ⟨w, hw, iw⟩ := rvr j l hl
        have ell2 := elr.2 l (List.mem_of_getElem? hl)
        refine idxV (svr.ex T0.ex) hw fun z hz => w_rd1 hz rfl (w_lenSl ?_)
        refine loopE_intro (fun mm e' h' => ∃ (k : Nat) (vv : Nat → Value) (cs : Nat → List Value) (Z : Nat → Prop), k ≤ cnt ∧ mm = cnt - k ∧ e' 1 = .pointer (some ⟨h.length, 0, none⟩) ∧ e' 2 = .pointer (some ⟨h1.length, 0, none⟩) ∧ e' 5 = .pointer (some ⟨h5.length, 0, none⟩) ∧ e' 6 = .slice (some ⟨h7.length, 0, none⟩) cnt cnt ∧
            e' 9 = .func (.func 39) #[] #[.pointer (some ⟨h5.length, 0, none⟩)] ∧ e' 10 = .pointer (some ⟨hA.length, 0, none⟩) ∧ e' 63 = .slice (some ⟨h7.length, 0, none⟩) cnt cnt ∧ e' 64 = .int .i64 (cnt : Nat) ∧ e' 65 = .int .i64 (d : Nat) ∧ e' 13 = vv 5 ∧ e' 117 = wre ∧ e' 118 = .int .i64 (re.length : Nat) ∧ e' 119 = .int .i64 (j : Nat) ∧
            e' 15 = w ∧ e' 16 = vv 6 ∧ e' 123 = .slice (some ⟨h7.length, 0, none⟩) cnt cnt ∧ e' 124 = .int .i64 (cnt : Nat) ∧ e' 125 = .int .i64 (k : Nat) ∧
            SmI hA h' hA.length (.int .i64 m.pl, .int .i64 m.cl) (.slice a61 n61 c61) (m.En.map (cOf c)) vv cs Z (smOf m f (d + 1)) (smFi m f (d + 1)) (smIn m c f (d + 1)) (smLow m c f (d + 1)) (smRet m c cnt f d) ((re.take j).map fun l => smRow c f l cnt) (smRow c f l k)) cnt
          ⟨0, _, _, _, Nat.zero_le _, rfl, f1, f2, f5, f6, f9, f10, f63, f64, f65, ?_, f117, f118, f119, rfl, ?_, rfl, rfl, rfl, T0.reset6⟩ ?_
        · exact f13
        · exact rfl
        have T0ex := T0.ex
        clear f1 f2 f5 f6 f9 f10 f63 f64 f65 f13 f117 f118 f119 T0 hz
        rintro I3 mm3 e3v h30 ⟨kk, vv3, cs3, Z3, hk, hmm3, g1, g2, g5, g6, g9, g10, g63, g64, g65, g13, g117, g118, g119, g15, g16, g123, g124, g125, U⟩ ih3
        rw [g123, g124, g125, g5, g15, g16]
        refine w_lss (c_dec (fun q3 => ?_) (fun q3 => ?_))
        · obtain ⟨fk, _, fkn⟩ := hf kk (by omega)
          refine w_idxN eI_len (slF U.ex) fk fun z hz => w_rd1 hz rfl ?_
          have U1 := U.exx (Ex.res h30)
          have PaU := PaA.ex U1.ex
          obtain ⟨t, ht⟩ := getElem?_of_lt (l := l) (i := f kk) (by rw [ell2.1]; exact fkn)
          have tn := ell2.2 t (List.mem_of_getElem? ht)
          obtain ⟨y, hy⟩ := getElem?_of_lt (l := c) (i := t.toNat) (by omega)
          refine w_rdP (U1.ex.some gPA) rfl (w_nilc (w_offP (w_rdP PaU.row (v := vc) rfl ?_)))
          refine w_idxN eI_len (Sl.ex iw U1.ex) ht fun z hz => w_rd1 hz rfl (w_idxT eI_len PaU.cls.sl tn.1 hy fun z hz => w_rd1 hz rfl ?_)
          refine U1.app6 U.lt (dd h30) (nz U.s) (by unfold smRow; simp; omega) fun c9 j9 v9 h32 l32 U2 => ?_
          refine w_add (by omega) (by omega) ?_
          have er : smRow c f l (kk + 1) = smRow c f l kk ++ [y] := by
            have : cOf c (l.getD (f kk) 0) = y := by rw [getD_some ht]; exact getD_some hy
            rw [← this]; exact range_succ _ kk
          rw [← er] at U2
          refine ih3 (cnt - (kk + 1)) _ _ (by omega) ⟨kk + 1, _, _, _, by omega, rfl, g1, g2, g5, g6, g9, g10, g63, g64, g65, ?_, g117, g118, g119, g15, ?_, g123, g124, rfl, U2⟩
          · exact g13
          · exact rfl
        · have ek : kk = cnt := by omega
          subst ek
          have o6 := (U.s.sl.own 6 (by decide)).sl
          rw [U.c6, flat_eI_len] at o6
          refine clone40 o6 (by unfold smRow; simp; omega) fun v145 h33 x33 i145 on145 => ?_
          have U3 := U.addZ x33 on145
          rw [g13]
          refine U3.app5 (l := smRow c f l kk) i145 (fun j hj => .inr hj) (by rw [List.length_map, List.length_take]; omega) fun c7 j7 v7 h35 l35 U4 => ?_
          rw [g119]
          refine w_add (by omega) (by omega) ?_
          have er : (re.take (j + 1)).map (fun l => smRow c f l kk) = (re.take j).map (fun l => smRow c f l kk) ++ [smRow c f l kk] := by
            rw [take_succ_get hl, List.map_append]; rfl
          rw [← er] at U4
          refine ih2 (re.length - (j + 1)) _ _ (by omega) ⟨j + 1, _, _, _, _, by omega, rfl, g1, g2, g5, g6, g9, g10, g63, g64, g65, ?_, g117, g118, rfl, U4⟩
          exact rfl
      · have ej : re.take j = re := List.take_of_length_le (by omega)
        rw [ej] at T0
        have T1 := T0.exx (Ex.res h29)
        refine w_offP (w_rdP T1.box rfl ?_)
        have o5 := (T1.s.sl.own 5 (by decide)).sl
        rw [f13]
        have lc5 := T1.c5.1
        refine clone41 o5 (by rw [lc5, List.length_map]; omega) fun v152 h36 x36 i152 on152 => ?_
        refine ⟨ptr_id (x36.get _ (by have := T1.lt; exact this)), ?_⟩
        have T2 := T1.addZ x36 on152
        rw [lc5] at i152
        refine T2.app4 i152 (fun j hj => .inr hj) T2.c5 T0.lt (x36.some (dd h29)) (fun hz => hz.elim (nz T0.s) fun hh => by have := (on152 _ hh).1; rw [lr1] at this; omega) (by unfold smRet; simp; omega) fun c8 j8 v8 q8 h39 l39 T3 => ?_
        rw [f65]
        refine w_add (by omega) (by omega) ?_
        have er : smRet m c cnt f (d + 1) = smRet m c cnt f d ++ [re.map fun l => smRow c f l cnt] := by
          have : (m.Ret.getD (f d) []) = re := getD_of hre
          rw [← this]; exact range_succ _ d
        rw [← er] at T3
        exact ih (cnt - (d + 1)) _ _ (by omega) ⟨d + 1, _, _, _, _, _, by omega, rfl, f1, f2, f5, f6, f9, f10, f63, f64, rfl, T3⟩
    · have ed : d = cnt := by omega
      subst ed
      have l14 := S.lt
      rw [e2]
      let F : Nat → Prop := fun j => j = hA.length
      have s0 := (S.s.sl.own 0 (by decide)).sl
      have s1 := (S.s.sl.own 1 (by decide)).sl
      have s2 := (S.s.sl.own 2 (by decide)).sl
      have s3 := (S.s.sl.own 3 (by decide)).sl
      have s4 := (S.s.sl.own 4 (by decide)).sl
      have z0 : (cs 0).length = d := by rw [S.c0, flat_eI_len]; unfold smOf; simp
      have z1 : (cs 1).length = d := by rw [S.c1, flat_eBo_len]; unfold smFi; simp
      have z2 : (cs 2).length = d := by rw [S.c2.1]; unfold smIn; simp
      have z3 : (cs 3).length = d := by rw [S.c3.1]; unfold smLow; simp
      have z4 : (cs 4).length = d := by rw [S.c4.1]; unfold smRet; simp
      rw [z0] at s0
      rw [z1] at s1
      rw [z2] at s2
      rw [z3] at s3
      rw [z4] at s4
      refine w_offP (w_rdP S.box rfl (clone40W s0 (by omega) fun v159 h40 x40 i159 on159 w159 => ?_))
      refine w_offP ⟨ptr_id (x40.get _ l14), w_rdP (x40.some S.box) rfl (clone42 (s1.ex x40) (by omega) fun v162 h41 x41 i162 on162 => ?_)⟩
      obtain ⟨p0, q0, r0, rfl⟩ := Sl.isSl i159
      obtain ⟨p1, q1, r1, rfl⟩ := Sl.isSl i162
      have x1441 := x40.trans x41
      have g41 := x1441.some S.box
      have l41 := lt_of_get g41
      refine w_offP (w_stP g41 (by show 0 + 2 < 8; omega) rfl rfl ?_)
      have g42 : (h41.set hA.length (.row (([.int .i64 m.pl, .int .i64 m.cl, vv 0, .slice a61 n61 c61, vv 1, vv 2, vv 3, vv 4] : List Value).set (0 + 2) (.slice p0 q0 r0)) true))[hA.length]? = some (.row [.int .i64 m.pl, .int .i64 m.cl, .slice p0 q0 r0, .slice a61 n61 c61, vv 1, vv 2, vv 3, vv 4] true) := get_set _ l41 _
      have x42 : ExF F h41 (h41.set hA.length (.row (([.int .i64 m.pl, .int .i64 m.cl, vv 0, .slice a61 n61 c61, vv 1, vv 2, vv 3, vv 4] : List Value).set (0 + 2) (.slice p0 q0 r0)) true)) := (ExF.refl F h41).set rfl _
      have l42 : (h41.set hA.length (.row (([.int .i64 m.pl, .int .i64 m.cl, vv 0, .slice a61 n61 c61, vv 1, vv 2, vv 3, vv 4] : List Value).set (0 + 2) (.slice p0 q0 r0)) true)).length = h41.length := List.length_set
      show optW (pOff 4 (.pointer (some ⟨hA.length, 0, none⟩))) fun v164 => optW (pStore 1 v164 (.slice p1 q1 r1) (h41.set hA.length (.row (([.int .i64 m.pl, .int .i64 m.cl, vv 0, .slice a61 n61 c61, vv 1, vv 2, vv 3, vv 4] : List Value).set (0 + 2) (.slice p0 q0 r0)) true))) _
      generalize h41.set hA.length (.row (([.int .i64 m.pl, .int .i64 m.cl, vv 0, .slice a61 n61 c61, vv 1, vv 2, vv 3, vv 4] : List Value).set (0 + 2) (.slice p0 q0 r0)) true) = h42 at g42 x42 l42 ⊢
      refine w_offP (w_stP g42 (by show 0 + 4 < 8; omega) rfl rfl ?_)
      have g43 : (h42.set hA.length (.row (([.int .i64 m.pl, .int .i64 m.cl, .slice p0 q0 r0, .slice a61 n61 c61, vv 1, vv 2, vv 3, vv 4] : List Value).set (0 + 4) (.slice p1 q1 r1)) true))[hA.length]? = some (.row [.int .i64 m.pl, .int .i64 m.cl, .slice p0 q0 r0, .slice a61 n61 c61, .slice p1 q1 r1, vv 2, vv 3, vv 4] true) := get_set _ (by omega) _
      have x43 : ExF F h41 (h42.set hA.length (.row (([.int .i64 m.pl, .int .i64 m.cl, .slice p0 q0 r0, .slice a61 n61 c61, vv 1, vv 2, vv 3, vv 4] : List Value).set (0 + 4) (.slice p1 q1 r1)) true)) := x42.set rfl _
      generalize h42.set hA.length (.row (([.int .i64 m.pl, .int .i64 m.cl, .slice p0 q0 r0, .slice a61 n61 c61, vv 1, vv 2, vv 3, vv 4] : List Value).set (0 + 4) (.slice p1 q1 r1)) true) = h43 at g43 x43 ⊢
      have x1443 : ExF F h14 h43 := (ExF.ex x1441).trans x43
      have nS : ∀ (i : Nat) {n : Nat} {cs' : List Value} {h' : AH}, i < 11 → Sl 1 h14 (vv i) n cs' → ExF F h14 h' → Sl 1 h' (vv i) n cs' := fun i n cs' h' hi sl y => sl.keepOn fun j hj => y.get j (S.s.sl.on hi hj).2 fun e => by have := (S.s.sl.on hi hj).1; have : j = hA.length := e; omega
      have l43 := lt_of_get g43
      refine w_offP (w_rdP g43 rfl (clone41 (nS 2 (by decide) s2 x1443) (by omega) fun v167 h44 x44 i167 on167 => ?_))
      have x1444 := x1443.trans (.ex x44)
      refine w_offP ⟨ptr_id (x44.get _ l43), w_rdP (x44.some g43) rfl (clone41 (nS 3 (by decide) s3 x1444) (by omega) fun v170 h45 x45 i170 on170 => ?_)⟩
      have x1445 := x1444.trans (.ex x45)
      refine w_offP ⟨ptr_id (x45.get _ (x44.lt l43)), ptr_id (x44.get _ l43), w_rdP (x45.some (x44.some g43)) rfl (clone43 (nS 4 (by decide) s4 x1445) (by omega) fun v173 h46 x46 i173 on173 => ?_)⟩
      obtain ⟨p2, q2, r2, rfl⟩ := Sl.isSl i167
      obtain ⟨p3, q3, r3, rfl⟩ := Sl.isSl i170
      obtain ⟨p4, q4, r4, rfl⟩ := Sl.isSl i173
      have x4346 := (x44.trans x45).trans x46
      have g46 := x4346.some g43
      have l46 := lt_of_get g46
      refine w_offP (w_stP g46 (by show 0 + 5 < 8; omega) rfl rfl ?_)
      have g47 : (h46.set hA.length (.row (([.int .i64 m.pl, .int .i64 m.cl, .slice p0 q0 r0, .slice a61 n61 c61, .slice p1 q1 r1, vv 2, vv 3, vv 4] : List Value).set (0 + 5) (.slice p2 q2 r2)) true))[hA.length]? = some (.row [.int .i64 m.pl, .int .i64 m.cl, .slice p0 q0 r0, .slice a61 n61 c61, .slice p1 q1 r1, .slice p2 q2 r2, vv 3, vv 4] true) := get_set _ l46 _
      have x47 : ExF F h46 (h46.set hA.length (.row (([.int .i64 m.pl, .int .i64 m.cl, .slice p0 q0 r0, .slice a61 n61 c61, .slice p1 q1 r1, vv 2, vv 3, vv 4] : List Value).set (0 + 5) (.slice p2 q2 r2)) true)) := (ExF.refl F h46).set rfl _
      generalize h46.set hA.length (.row (([.int .i64 m.pl, .int .i64 m.cl, .slice p0 q0 r0, .slice a61 n61 c61, .slice p1 q1 r1, vv 2, vv 3, vv 4] : List Value).set (0 + 5) (.slice p2 q2 r2)) true) = h47 at g47 x47 ⊢
      refine w_offP (w_stP g47 (by show 0 + 6 < 8; omega) rfl rfl ?_)
      have g48 : (h47.set hA.length (.row (([.int .i64 m.pl, .int .i64 m.cl, .slice p0 q0 r0, .slice a61 n61 c61, .slice p1 q1 r1, .slice p2 q2 r2, vv 3, vv 4] : List Value).set (0 + 6) (.slice p3 q3 r3)) true))[hA.length]? = some (.row [.int .i64 m.pl, .int .i64 m.cl, .slice p0 q0 r0, .slice a61 n61 c61, .slice p1 q1 r1, .slice p2 q2 r2, .slice p3 q3 r3, vv 4] true) := get_set _ (lt_of_get g47) _
      have x48 : ExF F h46 (h47.set hA.length (.row (([.int .i64 m.pl, .int .i64 m.cl, .slice p0 q0 r0, .slice a61 n61 c61, .slice p1 q1 r1, .slice p2 q2 r2, vv 3, vv 4] : List Value).set (0 + 6) (.slice p3 q3 r3)) true)) := x47.set rfl _
      generalize h47.set hA.length (.row (([.int .i64 m.pl, .int .i64 m.cl, .slice p0 q0 r0, .slice a61 n61 c61, .slice p1 q1 r1, .slice p2 q2 r2, vv 3, vv 4] : List Value).set (0 + 6) (.slice p3 q3 r3)) true) = h48 at g48 x48 ⊢
      refine w_offP (w_stP g48 (by show 0 + 7 < 8; omega) rfl rfl ?_)
      have g49 : (h48.set hA.length (.row (([.int .i64 m.pl, .int .i64 m.cl, .slice p0 q0 r0, .slice a61 n61 c61, .slice p1 q1 r1, .slice p2 q2 r2, .slice p3 q3 r3, vv 4] : List Value).set (0 + 7) (.slice p4 q4 r4)) true))[hA.length]? = some (.row [.int .i64 m.pl, .int .i64 m.cl, .slice p0 q0 r0, .slice a61 n61 c61, .slice p1 q1 r1, .slice p2 q2 r2, .slice p3 q3 r3, .slice p4 q4 r4] true) := get_set _ (lt_of_get g48) _
      have x49 : ExF F h46 (h48.set hA.length (.row (([.int .i64 m.pl, .int .i64 m.cl, .slice p0 q0 r0, .slice a61 n61 c61, .slice p1 q1 r1, .slice p2 q2 r2, .slice p3 q3 r3, vv 4] : List Value).set (0 + 7) (.slice p4 q4 r4)) true)) := x48.set rfl _
      generalize h48.set hA.length (.row (([.int .i64 m.pl, .int .i64 m.cl, .slice p0 q0 r0, .slice a61 n61 c61, .slice p1 q1 r1, .slice p2 q2 r2, .slice p3 q3 r3, vv 4] : List Value).set (0 + 7) (.slice p4 q4 r4)) true) = h49 at g49 x49 ⊢
      refine w_rdPA g49 (Nat.le_refl 8) ?_
      have x1449 : ExF F h14 h49 := (x1443.trans (.ex x4346)).trans x49
      have lR := lt_of_get gRA
      have gR49 : h49[h1.length]? = some (.row z8 true) := x1449.some (S.ex.some gRA) (by show ¬ h1.length = hA.length; omega)
      refine w_stPA gR49 rfl (Nat.le_refl 8) rfl ?_
      let u' : MoV := ⟨(p0, q0, r0), (a61, n61, c61), (p1, q1, r1), (p2, q2, r2), (p3, q3, r3), (p4, q4, r4)⟩
      have lR49 := lt_of_get gR49
      have gF50 : (h49.set h1.length (.row (spliceL z8 0 (cellsL (.agg ((List.drop 0 [Value.int .i64 m.pl, .int .i64 m.cl, .slice p0 q0 r0, .slice a61 n61 c61, .slice p1 q1 r1, .slice p2 q2 r2, .slice p3 q3 r3, .slice p4 q4 r4]).take 8).toArray))) true))[h1.length]? = some (.row (moRow u' (sm m c d f)) true) := get_set _ lR49 _
      rw [res18]
      refine w_some (v := [.agg (moRow u' (sm m c d f)).toArray, .int .i64 0]) ?_ ?_
      · show Option.map (fun v => [v, Value.int .i64 0]) (rdRow true 8 (e 2) _) = _
        rw [e2]
        have e := hopt (o := rdRow true 8 (.pointer (some ⟨h1.length, 0, none⟩)) _) (w_rdPA gF50 (Nat.le_refl 8) rfl)
        rw [e]
        rfl
      · -- all that was told stays
        have kR : ∀ (h0 : AH) (j : Nat), ExF F h0 h49 → h14.length ≤ h0.length → hA.length < j → j < h0.length → (h49.set h1.length (.row (spliceL z8 0 (cellsL (.agg ((List.drop 0 [Value.int .i64 m.pl, .int .i64 m.cl, .slice p0 q0 r0, .slice a61 n61 c61, .slice p1 q1 r1, .slice p2 q2 r2, .slice p3 q3 r3, .slice p4 q4 r4]).take 8).toArray))) true))[j]? = h0[j]? := fun h0 j y l0 h1' h2' => (get_ne (by omega) _).trans (y.get j h2' fun e => by have : j = hA.length := e; omega)
        have y40 : ExF F h40 h49 := (((ExF.ex x41).trans x43).trans (.ex x4346)).trans x49
        have y41 : ExF F h41 h49 := (x43.trans (.ex x4346)).trans x49
        have y44 : ExF F h44 h49 := (ExF.ex (x45.trans x46)).trans x49
        have y45 : ExF F h45 h49 := (ExF.ex x46).trans x49
        have l1443 := x1443.len
        have l1444 := x1444.len
        have l1445 := x1445.len
        have l1441 := x1441.len
        have l1440 := x40.len
        have l46' := x46.len
        have o0 := i159.keepOn fun j hj => kR h40 j y40 l1440 (by have := (on159 j hj).1; omega) (on159 j hj).2
        have o1 := i162.keepOn fun j hj => kR h41 j y41 l1441 (by have := (on162 j hj).1; omega) (on162 j hj).2
        have o2 := i167.keepOn fun j hj => kR h44 j y44 l1444 (by have := (on167 j hj).1; omega) (on167 j hj).2
        have o3 := i170.keepOn fun j hj => kR h45 j y45 l1445 (by have := (on170 j hj).1; omega) (on170 j hj).2
        have o4 := i173.keepOn fun j hj => kR h46 j x49 (by omega) (by have := (on173 j hj).1; omega) (on173 j hj).2
        have kZ : ∀ j, Z j → (h49.set h1.length (.row (spliceL z8 0 (cellsL (.agg ((List.drop 0 [Value.int .i64 m.pl, .int .i64 m.cl, .slice p0 q0 r0, .slice a61 n61 c61, .slice p1 q1 r1, .slice p2 q2 r2, .slice p3 q3 r3, .slice p4 q4 r4]).take 8).toArray))) true))[j]? = h14[j]? := fun j hj => kR h14 j x1449 (Nat.le_refl _) (S.s.z j hj).1 (S.s.z j hj).2.1
        have c2' := S.c2.to (fun _ h => h) kZ
        have c3' := S.c3.to (fun _ h => h) kZ
        have c4' := S.c4.to (fun _ h => h) kZ
        have en' := Sl.keepOn S.en fun j hj => kZ j (S.ez j hj)
        have ll : ∀ {α : Type} (g : Nat → α), ((List.range d).map g).length = d := fun g => by simp
        have x050 : Ex h (h49.set h1.length (.row (spliceL z8 0 (cellsL (.agg ((List.drop 0 [Value.int .i64 m.pl, .int .i64 m.cl, .slice p0 q0 r0, .slice a61 n61 c61, .slice p1 q1 r1, .slice p2 q2 r2, .slice p3 q3 r3, .slice p4 q4 r4]).take 8).toArray))) true)) := (ExF.base (x0A.trans S.ex) x1449 fun j hj => by have : j = hA.length := hj; have := x0A.len; omega).set (by omega) _
        rw [S.c0] at o0
        rw [S.c1] at o1
        have l4043 : h40.length ≤ h43.length := Nat.le_trans x41.len x43.len
        have lhA := x0A.len
        have sw : SmW h (h49.set h1.length (.row (spliceL z8 0 (cellsL (.agg ((List.drop 0 [Value.int .i64 m.pl, .int .i64 m.cl, .slice p0 q0 r0, .slice a61 n61 c61, .slice p1 q1 r1, .slice p2 q2 r2, .slice p3 q3 r3, .slice p4 q4 r4]).take 8).toArray))) true)) u' (sm m c d f) := by
          refine ⟨w159.keep fun j hj => kR h40 j y40 l1440 (by have := (on159 j hj).1; omega) (on159 j hj).2, fun j hj => by have := (on159 j hj).1; omega, fun j hj => ⟨by have := (on167 j hj).1; omega, fun hh => by have := (on167 j hj).1; have := (on159 j hh).2; omega⟩, cs 2, ?_, fun i l hl => ?_⟩
          · show Sl 1 _ (.slice p2 q2 r2) (smIn m c f d).length _
            rw [show (smIn m c f d).length = d from ll _]
            exact o2
          · obtain ⟨w, w1, w2, w3⟩ := c2'.2 i l hl
            have hw := S.w2to kZ (fun _ h => h) w (List.mem_of_getElem? w1)
            exact ⟨w, w1, w2, hw.1, fun j hj => ⟨by have := (S.s.z j (w3 j hj)).1; omega, fun hh => by have := (S.s.z j (w3 j hj)).2.1; have := (on167 j hh).1; omega⟩⟩
        refine k _ u' c d f x050 Ca (fun d' hd' => (hf d' hd').2) ⟨?_, en', ?_, ?_, ?_, ?_, ?_, ?_, ?_, ?_, ?_⟩ sw
        · show Sl 1 _ (.slice p0 q0 r0) (smOf m f d).length _
          rw [show (smOf m f d).length = d from ll _]
          exact o0
        · show Sl 1 _ (.slice p1 q1 r1) (smFi m f d).length _
          rw [show (smFi m f d).length = d from ll _]
          exact o1
        · exact c2'.rows (by rw [show (smIn m c f d).length = d from ll _]; exact o2)
        · exact c3'.rows (by rw [show (smLow m c f d).length = d from ll _]; exact o3)
        · exact c4'.rets (by rw [show (smRet m c d f d).length = d from ll _]; exact o4)
        · show (smOf m f d).length ≤ 1000
          rw [show (smOf m f d).length = d from ll _]; omega
        · show (m.En.map (cOf c)).length ≤ 1000
          rw [List.length_map]
          have := v.enEl.1; omega
        · intro l hl
          obtain ⟨e', he, rfl⟩ := List.mem_map.1 hl
          rw [List.length_map]
          have := hf e' (List.mem_range.1 he)
          obtain ⟨li, hli⟩ := getElem?_of_lt (l := m.In) (i := f e') (by have h1 := v.li; show f e' < m.In.length; rw [h1]; exact this.2.2)
          rw [getD_of hli]
          have := (v.inEl this.2.2 hli).1; omega
        · intro l hl
          obtain ⟨e', he, rfl⟩ := List.mem_map.1 hl
          rw [List.length_map]
          have := hf e' (List.mem_range.1 he)
          obtain ⟨li, hli⟩ := getElem?_of_lt (l := m.Low) (i := f e') (by have h1 := v.ll; show f e' < m.Low.length; rw [h1]; exact this.2.2)
          rw [getD_of hli]
          have := (v.lowEl this.2.2 hli).1; omega
        · intro r hr
          obtain ⟨e', he, rfl⟩ := List.mem_map.1 hr
          have := hf e' (List.mem_range.1 he)
          obtain ⟨li, hli⟩ := getElem?_of_lt (l := m.Ret) (i := f e') (by have h1 := v.lr; show f e' < m.Ret.length; rw [h1]; exact this.2.2)
          rw [getD_of hli, List.length_map]
          refine ⟨by have := (v.retEl this.2.2 hli).1; omega, fun l hl => ?_⟩
          obtain ⟨l', _, rfl⟩ := List.mem_map.1 hl
          rw [show (smRow c f l' d).length = d from ll _]; omega
theorem small18 {h : AH} {u : MoV} {m : Mo} {K : Value → AH → Prop} (mh : MoH h u m) (v : Valid m)
    (k : ∀ h' u' c cnt f, Ex h h' → Canon m.pm.n (Rch m.pm) (EE m.pm) c cnt → (∀ d, d < cnt → Fst c d (f d) ∧ f d < m.pm.n) → MoH h' u' (sm m c cnt f) → K (.tuple #[.agg (moRow u' (sm m c cnt f)).toArray, .int .i64 0]) h') : callW Try.prog 18 [.agg (moRow u m).toArray] h K :=
  small18W mh v fun h' u' c cnt f x C hf ms _ => k h' u' c cnt f x C hf ms
end Go.Proofs.Ytnpbehfhncbjfaa.W
end

section
/- Fold's laws: the small machine, plain: it may be, it is the machine of the classes, small again it is itself. Conditions: none. -/
namespace Go.Proofs.Ytnpbehfhncbjfaa.W
open Go Go.AM FoldPM
set_option linter.unusedVariables false
set_option maxRecDepth 100000
section
variable {m : Mo} {c : List Int} {cnt : Nat} {f : Nat → Nat}
end
end Go.Proofs.Ytnpbehfhncbjfaa.W
end

section
/- FoldReaches' walk. Conditions: none. -/
namespace Go.Proofs.Ytnpbehfhncbjfaa.W
open Go Go.AM FoldPM
set_option linter.unusedVariables false
set_option maxRecDepth 100000
theorem bo0 (a b : Bool) : pBin Try.prog .neq 4 (.bool a) (.bool b) = some (.bool (!(a == b))) ∧ pBin Try.prog .eql 4 (.bool a) (.bool b) = some (.bool (a == b)) := ⟨by kernel_rfl, by kernel_rfl⟩
theorem w_neqBo {a b : Bool} {K : Value → Prop} (k : K (.bool (!(a == b)))) : optW (pBin Try.prog .neq 4 (.bool a) (.bool b)) K := w_some (bo0 a b).1 k
end Go.Proofs.Ytnpbehfhncbjfaa.W
end

section
/- FoldApart's walk. Conditions: none. -/
namespace Go.Proofs.Ytnpbehfhncbjfaa.W
open Go Go.AM FoldPM
set_option linter.unusedVariables false
set_option maxRecDepth 100000
theorem reserve_two (h : AH) : reserve 2 h = (h ++ [.dead]) ++ [.dead] := rfl
theorem res2 (h : AH) : Ex h (reserve 2 h) ∧ (reserve 2 h).length = h.length + 2 ∧ (reserve 2 h)[h.length]? = some .dead ∧ (reserve 2 h)[h.length + 1]? = some .dead := by
  have e : (h ++ [AObj.dead]).length = h.length + 1 := by simp
  rw [reserve_two]
  refine ⟨(Ex.app _ _).trans (.app _ _), by simp, (Ex.app (h ++ [AObj.dead]) [AObj.dead]).some (get_new _ _), ?_⟩
  have := get_new (h ++ [AObj.dead]) AObj.dead
  rw [e] at this
  exact this
def Mo.at (m : Mo) (x : Nat) : Mo := { m with En := m.En.set 0 (x : Int) }
end Go.Proofs.Ytnpbehfhncbjfaa.W
end

section
/- Fold's laws: a machine with each state twice, under way: steps. Conditions: none. -/
namespace Go.Proofs.Ytnpbehfhncbjfaa.W
open Go Go.AM FoldPM
set_option linter.unusedVariables false
set_option maxRecDepth 100000
theorem SMs.appX {hk : AH} {T r i : Nat} {v : Nat → Value} {cs : Nat → List Value} {Z : Nat → Prop} {x z w : Value} {Q : List Value → Nat → AH → Value → AH → Prop} (s : SMs hk T v cs Z) (hi : i < 11) (hT : T < r) (hr : hk[r]? = some .dead) (hz : ¬ Z r) (hw : w = v i) (hx : cellsL x = [x]) (h1 : x.oneCell' = true) (hn : (cs i).length ≤ 1000)
    (k : ∀ c j h15 v' h', (∀ j, j ≤ T → h15[j]? = hk[j]?) → SMs h' T (updV v i v') (updC cs i (cs i ++ [x])) Z → (∃ a n c, v' = .slice a n c) → hk.length ≤ h'.length → (∀ j, j ≤ T → h'[j]? = hk[j]?) → (∀ j, Z j → h'[j]? = hk[j]?) → (∀ j, j ≠ r → hk[j]? = some .dead → h'[j]? = some .dead) → Q c j h15 v' h') :
    optW (bldSl 1 [z] 1 [(0, x)]) fun c => newW (some r) (.row c true) hk fun j h15 => appSl 1 w (.slice (some ⟨j, 0, none⟩) 1 1) h15 fun v' h' => Q c j h15 v' h' := by
  subst hw
  refine bldT rfl (by decide) (by rw [hx]; rfl) (by rw [hx]; simp [h1]) (n_slot ?_)
  rw [hx]
  have lr := lt_of_get hr
  have nd : ∀ {d}, hk[d]? = some .dead → ∀ i, i < 11 → ¬ onId (v i) d := fun {d} hd i hi hh => by
    obtain ⟨_, ⟨hv, _⟩ | ⟨id, c, _, hv, g, _⟩⟩ := s.sl.own i hi
    · rw [hv] at hh; exact hh
    · rw [hv] at hh
      have : id = d := hh
      subst this
      rw [hd] at g
      cases g
  have nr := nd hr
  have s1 : SL (hk.set r (.row [x] true)) T v cs := ⟨fun i hi => (s.sl.own i hi).mono (fun _ _ h => h) fun j hj _ => get_ne (by intro e; subst e; exact nr i hi hj) _, s.sl.ap⟩
  refine s1.app i hi (get_set _ lr _) (by rw [List.length_set]; omega) nr (by have := bigR; omega) fun v' h' a1 a2 a3 a4 a5 => ?_
  rw [List.length_set] at a3 a4 a5
  obtain ⟨ad, nd', cd, ev⟩ : ∃ a n c, v' = .slice a n c := by
    have := (a1.own i hi)
    unfold updV at this
    rw [if_pos rfl] at this
    obtain ⟨a, n, c, e⟩ := Sl.isSl this.sl
    exact ⟨a, n, c, e⟩
  have hZ : ∀ j, Z j → h'[j]? = hk[j]? := fun j hj => by
    have := s.z j hj
    rw [a4 j this.2.1 this.2.2]
    exact get_ne (by intro e; subst e; exact hz hj) _
  refine k _ _ _ v' h' (fun j hj => get_ne (by omega) _) ⟨a1, fun j hj => ⟨(s.z j hj).1, by have := (s.z j hj).2.1; omega, fun b hb hh => ?_⟩⟩ ⟨ad, nd', cd, ev⟩ a3 (fun j hj => by rw [a2 j hj]; exact get_ne (by omega) _) hZ fun j hj hd => ?_
  · unfold updV at hh
    by_cases e : b = i
    · rw [if_pos e] at hh
      rcases a5 j hh with h | h
      · exact (s.z j hj).2.2 i hi h
      · have := (s.z j hj).2.1; omega
    · rw [if_neg e] at hh
      exact (s.z j hj).2.2 b hb hh
  · rw [a4 j (lt_of_get hd) (nd hd), get_ne (Ne.symm hj)]
    exact hd
theorem SMs.freeze {h : AH} {T : Nat} {v : Nat → Value} {cs : Nat → List Value} {Z : Nat → Prop} (s : SMs h T v cs Z) (i : Nat) (hi : i < 11) : SMs h T (updV v i (.slice none 0 0)) (updC cs i []) (fun j => Z j ∨ onId (v i) j) := by
  refine ⟨s.sl.reset i, fun j hj => ?_⟩
  rcases hj with hj | hj
  · exact (s.reset i).z j hj
  · have := s.sl.on hi hj
    refine ⟨this.1, this.2, fun b hb hh => ?_⟩
    unfold updV at hh
    by_cases e : b = i
    · rw [if_pos e] at hh; exact hh
    · rw [if_neg e] at hh; exact s.sl.ap i b hi hb (fun e' => e e'.symm) j hj hh
structure Tw (hA h : AH) (T : Nat) (pc : Value × Value) (vo ve vf : Value) (oo : List Int) (ff : List Bool) (v : Nat → Value) (cs : Nat → List Value) (Z : Nat → Prop) (a0 a1 : List (List Int)) (a2 : List (List (List Int))) (a3 a4 : List Int) (a5 : List (List Int)) (a6 : List Int) : Prop where
  ex : Ex hA h
  tl : hA.length ≤ T
  box : h[T]? = some (.row [pc.1, pc.2, vo, ve, vf, v 0, v 1, v 2] true)
  s : SMs h T v cs Z
  eo : Ints h vo oo
  ef : SlT 1 eBo h vf ff
  zo : ∀ j, onId vo j → Z j
  zf : ∀ j, onId vf j → Z j
  c0 : RowsZ h Z (cs 0) a0
  c1 : RowsZ h Z (cs 1) a1
  c2 : RetsZ h Z (cs 2) a2
  c3 : cs 3 = flat eI a3
  c4 : cs 4 = flat eI a4
  c5 : RowsZ h Z (cs 5) a5
  c6 : cs 6 = flat eI a6
section
variable {hA h : AH} {T : Nat} {pc : Value × Value} {vo ve vf : Value} {oo : List Int} {ff : List Bool} {v : Nat → Value} {cs : Nat → List Value} {Z : Nat → Prop} {a0 a1 : List (List Int)} {a2 : List (List (List Int))} {a3 a4 : List Int} {a5 : List (List Int)} {a6 : List Int}
theorem Tw.lt (s : Tw hA h T pc vo ve vf oo ff v cs Z a0 a1 a2 a3 a4 a5 a6) : T < h.length := lt_of_get s.box
theorem Tw.after {h' : AH} {Z' : Nat → Prop} {v' : Nat → Value} {cs' : Nat → List Value} (s : Tw hA h T pc vo ve vf oo ff v cs Z a0 a1 a2 a3 a4 a5 a6) (l : h.length ≤ h'.length) (hT : ∀ j, j < T → h'[j]? = h[j]?) (hZ : ∀ j, Z j → h'[j]? = h[j]?) (zz : ∀ j, Z j → Z' j) :
    Ex hA h' ∧ Ints h' vo oo ∧ SlT 1 eBo h' vf ff ∧ RowsZ h' Z' (cs 0) a0 ∧ RowsZ h' Z' (cs 1) a1 ∧ RetsZ h' Z' (cs 2) a2 ∧ RowsZ h' Z' (cs 5) a5 :=
  ⟨s.ex.below l fun j hj => hT j (by have := s.tl; omega), Sl.keepOn s.eo fun j hj => hZ j (s.zo j hj), Sl.keepOn s.ef fun j hj => hZ j (s.zf j hj), s.c0.to zz hZ, s.c1.to zz hZ, s.c2.to zz hZ, s.c5.to zz hZ⟩
theorem Tw.exx {h' : AH} (s : Tw hA h T pc vo ve vf oo ff v cs Z a0 a1 a2 a3 a4 a5 a6) (x : Ex h h') : Tw hA h' T pc vo ve vf oo ff v cs Z a0 a1 a2 a3 a4 a5 a6 := by
  obtain ⟨y0, y1, y2, y3, y4, y5, y6⟩ := s.after (v' := v) (cs' := cs) (Z' := Z) x.len (fun j hj => x.get j (by have := s.lt; omega)) (fun j hj => x.get j (s.s.z j hj).2.1) fun _ h => h
  exact ⟨y0, s.tl, x.some s.box, s.s.ex x, y1, y2, s.zo, s.zf, y3, y4, y5, s.c3, s.c4, y6, s.c6⟩
theorem Tw.reset5 (s : Tw hA h T pc vo ve vf oo ff v cs Z a0 a1 a2 a3 a4 a5 a6) : Tw hA h T pc vo ve vf oo ff (updV v 5 (.slice none 0 0)) (updC cs 5 []) Z a0 a1 a2 a3 a4 [] a6 :=
  ⟨s.ex, s.tl, s.box, s.s.reset 5, s.eo, s.ef, s.zo, s.zf, s.c0, s.c1, s.c2, s.c3, s.c4, RowsZ.nil _ _, s.c6⟩
theorem Tw.reset6 (s : Tw hA h T pc vo ve vf oo ff v cs Z a0 a1 a2 a3 a4 a5 a6) : Tw hA h T pc vo ve vf oo ff (updV v 6 (.slice none 0 0)) (updC cs 6 []) Z a0 a1 a2 a3 a4 a5 [] :=
  ⟨s.ex, s.tl, s.box, s.s.reset 6, s.eo, s.ef, s.zo, s.zf, s.c0, s.c1, s.c2, s.c3, s.c4, s.c5, rfl⟩
variable {z : Value} {r : Nat} {Q' : List Value → Nat → Value → AH → Prop}
theorem dead1 (h : AH) : (reserve 1 h)[h.length]? = some .dead := by rw [reserve_one]; exact get_new _ _
theorem Tw.app3 {x : Int} (s : Tw hA h T pc vo ve vf oo ff v cs Z a0 a1 a2 a3 a4 a5 a6) (hn : a3.length ≤ 1000)
    (k : ∀ c j v' h', Tw hA h' T pc vo ve vf oo ff (updV v 3 v') (updC cs 3 (cs 3 ++ [.int .i64 x])) Z a0 a1 a2 (a3 ++ [x]) a4 a5 a6 → Q' c j v' h') :
    optW (bldSl 1 [z] 1 [(0, .int .i64 x)]) fun c => newW none (.row c true) h fun j h15 => appSl 1 (v 3) (.slice (some ⟨j, 0, none⟩) 1 1) h15 fun v' h' => Q' c j v' h' := by
  have sr := s.exx (Ex.res h)
  have key := sr.s.app (i := 3) (r := h.length) (z := z) (x := .int .i64 x) (w := v 3) (Q := Q') (by decide) s.lt (dead1 h) (fun hz => by have := (s.s.z _ hz).2.1; omega) rfl rfl rfl (by rw [s.c3, flat_eI_len]; exact hn) fun c j v' h' s' _ l hTs hZs => by
    obtain ⟨y0, y1, y2, y3, y4, y5, y6⟩ := sr.after (v' := v) (cs' := cs) (Z' := Z) l (fun j hj => hTs j (by omega)) hZs fun _ h => h
    exact k _ _ _ _ ⟨y0, s.tl, (hTs _ (Nat.le_refl _)).trans sr.box, s', y1, y2, s.zo, s.zf, y3, y4, y5, by show cs 3 ++ [_] = _; rw [s.c3, flat_append]; rfl, s.c4, y6, s.c6⟩
  exact optW_mono (fun c hc => n_unres hc) key
theorem Tw.app4 {x : Int} (s : Tw hA h T pc vo ve vf oo ff v cs Z a0 a1 a2 a3 a4 a5 a6) (hn : a4.length ≤ 1000)
    (k : ∀ c j v' h', Tw hA h' T pc vo ve vf oo ff (updV v 4 v') (updC cs 4 (cs 4 ++ [.int .i64 x])) Z a0 a1 a2 a3 (a4 ++ [x]) a5 a6 → Q' c j v' h') :
    optW (bldSl 1 [z] 1 [(0, .int .i64 x)]) fun c => newW none (.row c true) h fun j h15 => appSl 1 (v 4) (.slice (some ⟨j, 0, none⟩) 1 1) h15 fun v' h' => Q' c j v' h' := by
  have sr := s.exx (Ex.res h)
  have key := sr.s.app (i := 4) (r := h.length) (z := z) (x := .int .i64 x) (w := v 4) (Q := Q') (by decide) s.lt (dead1 h) (fun hz => by have := (s.s.z _ hz).2.1; omega) rfl rfl rfl (by rw [s.c4, flat_eI_len]; exact hn) fun c j v' h' s' _ l hTs hZs => by
    obtain ⟨y0, y1, y2, y3, y4, y5, y6⟩ := sr.after (v' := v) (cs' := cs) (Z' := Z) l (fun j hj => hTs j (by omega)) hZs fun _ h => h
    exact k _ _ _ _ ⟨y0, s.tl, (hTs _ (Nat.le_refl _)).trans sr.box, s', y1, y2, s.zo, s.zf, y3, y4, y5, s.c3, by show cs 4 ++ [_] = _; rw [s.c4, flat_append]; rfl, y6, s.c6⟩
  exact optW_mono (fun c hc => n_unres hc) key
theorem Tw.app6 {x : Int} (s : Tw hA h T pc vo ve vf oo ff v cs Z a0 a1 a2 a3 a4 a5 a6) (hn : a6.length ≤ 1000)
    (k : ∀ c j v' h', Tw hA h' T pc vo ve vf oo ff (updV v 6 v') (updC cs 6 (cs 6 ++ [.int .i64 x])) Z a0 a1 a2 a3 a4 a5 (a6 ++ [x]) → Q' c j v' h') :
    optW (bldSl 1 [z] 1 [(0, .int .i64 x)]) fun c => newW (some h.length) (.row c true) (reserve 1 h) fun j h15 => appSl 1 (v 6) (.slice (some ⟨j, 0, none⟩) 1 1) h15 fun v' h' => Q' c j v' h' := by
  have sr := s.exx (Ex.res h)
  refine sr.s.app (i := 6) (by decide) s.lt (dead1 h) (fun hz => by have := (s.s.z _ hz).2.1; omega) rfl rfl rfl (by rw [s.c6, flat_eI_len]; exact hn) fun c j v' h' s' _ l hTs hZs => ?_
  obtain ⟨y0, y1, y2, y3, y4, y5, y6⟩ := sr.after (v' := v) (cs' := cs) (Z' := Z) l (fun j hj => hTs j (by omega)) hZs fun _ h => h
  exact k _ _ _ _ ⟨y0, s.tl, (hTs _ (Nat.le_refl _)).trans sr.box, s', y1, y2, s.zo, s.zf, y3, y4, y5, s.c3, s.c4, y6, by show cs 6 ++ [_] = _; rw [s.c6, flat_append]; rfl⟩
theorem Tw.app5 (s : Tw hA h T pc vo ve vf oo ff v cs Z a0 a1 a2 a3 a4 a5 a6) (hn : a5.length ≤ 1000)
    (k : ∀ c j v' h' Z' V C, V 5 = v' → V 0 = v 0 → V 1 = v 1 → V 2 = v 2 → V 3 = v 3 → V 4 = v 4 → Tw hA h' T pc vo ve vf oo ff V C Z' a0 a1 a2 a3 a4 (a5 ++ [a6]) [] → Q' c j v' h') :
    optW (bldSl 1 [z] 1 [(0, v 6)]) fun c => newW none (.row c true) h fun j h15 => appSl 1 (v 5) (.slice (some ⟨j, 0, none⟩) 1 1) h15 fun v' h' => Q' c j v' h' := by
  have sr := s.exx (Ex.res h)
  have i6 : Ints (reserve 1 h) (v 6) a6 := by
    have := (sr.s.sl.own 6 (by decide)).sl
    rw [s.c6] at this
    unfold Ints SlT
    rw [flat_eI_len] at this
    exact this
  obtain ⟨ad, nd, cd, ev⟩ := Sl.isSl i6
  have sf := sr.s.freeze 6 (by decide)
  have key := sf.app (i := 5) (r := h.length) (z := z) (x := v 6) (w := v 5) (Q := Q') (by decide) s.lt (dead1 h) (fun hz => by
      rcases hz with hz | hz
      · have := (s.s.z _ hz).2.1; omega
      · have := (s.s.sl.on (by decide) hz).2; omega) rfl (by rw [ev]; rfl) (by rw [ev]; rfl) (by show (cs 5).length ≤ 1000; rw [s.c5.1]; exact hn) fun c j v' h' s' _ l hTs hZs => by
    obtain ⟨y0, y1, y2, y3, y4, y5, y6⟩ := sr.after (v' := v) (cs' := cs) (Z' := fun j => Z j ∨ onId (v 6) j) l (fun j hj => hTs j (by omega)) (fun j hj => hZs j (.inl hj)) fun _ h => .inl h
    refine k c j v' h' (fun j => Z j ∨ onId (v 6) j) (updV (updV v 6 (.slice none 0 0)) 5 v') (updC (updC cs 6 []) 5 (updC cs 6 [] 5 ++ [v 6])) rfl rfl rfl rfl rfl rfl ⟨y0, s.tl, (hTs _ (Nat.le_refl _)).trans sr.box, s', y1, y2, fun j hj => .inl (s.zo j hj), fun j hj => .inl (s.zf j hj), y3, y4, y5, s.c3, s.c4, ?_, rfl⟩
    exact y6.snoc (Sl.keepOn i6 fun j hj => hZs j (.inr hj)) fun j hj => .inr hj
  exact optW_mono (fun c hc => n_unres hc) key
end
end Go.Proofs.Ytnpbehfhncbjfaa.W
end

section
/- Fold's laws: two machines are told the same; FoldSmall's walk. Conditions: none. -/
namespace Go.Proofs.Ytnpbehfhncbjfaa.W
open Go Go.AM FoldPM
set_option linter.unusedVariables false
set_option maxRecDepth 100000
theorem ints23 {h : AH} {v w : Value} {l : List Int} {K : Value → AH → Prop} (hv : Ints h v l) (hw : Ints h w l) (sz : l.length ≤ 100000) (k : K (.bool true) h) : callW Try.prog 23 [v, w] h K := by
  refine c23 ?_
  unfold s23
  refine w_len hv (w_len hw (w_neq (c_ff (by omega) ?_)))
  refine loopE_intro (fun mm e h' => ∃ i : Nat, i ≤ l.length ∧ mm = l.length - i ∧ e 0 = v ∧ e 1 = w ∧ e 5 = .int .i64 (i : Nat) ∧ h = h') l.length
    ⟨0, Nat.zero_le _, rfl, rfl, rfl, rfl, rfl⟩ ?_
  rintro I mm e h' ⟨i, hi, hmm, e0, e1, e5, rfl⟩ ih
  rw [e0, e1, e5]
  refine w_len hv (w_lss (c_dec (fun q => ?_) (fun q => k)))
  obtain ⟨x, hx⟩ := getElem?_of_lt (l := l) (i := i) (by omega)
  refine w_idxN eI_len hv hx fun z hz => w_rd1 hz rfl (w_idxN eI_len hw hx fun z hz => w_rd1 hz rfl (w_neq (c_ff (by omega) (w_add (by omega) (by omega) ?_))))
  exact ih (l.length - (i + 1)) _ _ (by omega) ⟨i + 1, by omega, rfl, e0, e1, rfl, rfl⟩
theorem rows47 {h : AH} {v w : Value} {l : List (List Int)} {K : Value → AH → Prop} (hv : RowsR h v l) (hw : RowsR h w l) (sz : l.length ≤ 1000) (szl : ∀ r ∈ l, r.length ≤ 1000) (k : K (.bool true) h) : callW Try.prog 47 [v, w] h K := by
  obtain ⟨vs, sv', rv⟩ := hv
  obtain ⟨ws, sw, rw_⟩ := hw
  refine c47 ?_
  unfold s47
  refine w_len sv' (w_len sw (w_neq (c_ff (by omega) ?_)))
  refine loopE_intro (fun mm e h' => ∃ i : Nat, i ≤ l.length ∧ mm = l.length - i ∧ e 0 = v ∧ e 1 = w ∧ e 5 = .int .i64 (i : Nat) ∧ h = h') l.length
    ⟨0, Nat.zero_le _, rfl, rfl, rfl, rfl, rfl⟩ ?_
  rintro I mm e h' ⟨i, hi, hmm, e0, e1, e5, rfl⟩ ih
  rw [e0, e1, e5]
  refine w_len sv' (w_lss (c_dec (fun q => ?_) (fun q => k)))
  obtain ⟨r, hr⟩ := getElem?_of_lt (l := l) (i := i) (by omega)
  obtain ⟨a, ha, ia⟩ := rv i r hr
  obtain ⟨b, hb, ib⟩ := rw_ i r hr
  refine idxV sv' ha fun z hz => w_rd1 hz rfl (idxV sw hb fun z hz => w_rd1 hz rfl ?_)
  refine ints23 ia ib (by have := szl r (List.mem_of_getElem? hr); omega) (w_notb (c_f (w_add (by omega) (by omega) ?_)))
  exact ih (l.length - (i + 1)) _ _ (by omega) ⟨i + 1, by omega, rfl, e0, e1, rfl, rfl⟩
theorem same26 {h : AH} {u u' : MoV} {m : Mo} {K : Value → AH → Prop} (mh : MoH h u m) (mh' : MoH h u' m) (szI : m.In.length ≤ 1000) (szL : m.Low.length ≤ 1000) (szR : m.Ret.length ≤ 1000) (szF : m.Fi.length ≤ 1000) (k : ∀ h', Ex h h' → K (.bool true) h') : callW Try.prog 26 [.agg (moRow u m).toArray, .agg (moRow u' m).toArray] h K := by
  refine c26 ?_
  unfold s26
  refine n_boxv rfl fun h1 x1 l1 g1 => n_boxv rfl fun h2 x2 l2 g2 => ?_
  have ga : h2[h.length]? = some (.row (moRow u m) true) := x2.some g1
  have gb : h2[h1.length]? = some (.row (moRow u' m) true) := g2
  have x02 := x1.trans x2
  have ma := mh.ex x02
  have mb := mh'.ex x02
  obtain ⟨ra, sa, va⟩ := ma.ret
  obtain ⟨rb, sb, vb⟩ := mb.ret
  have nq : ∀ {a : Int}, ¬ ¬ a = a := fun h => h rfl
  refine w_offP (w_rdP ga (v := .int .i64 m.pl) rfl (w_offP (w_rdP gb (v := .int .i64 m.pl) rfl (w_neq ?_))))
  refine g_ff nq (w_offP (g_ff nq (w_rdP ga (v := .int .i64 m.cl) rfl (g_ff nq (w_offP (g_ff nq (w_rdP gb (v := .int .i64 m.cl) rfl (g_ff nq (w_neq (pk_ff nq ?_))))))))))
  refine g_ff nq (w_offP (g_ff nq (w_rdP ga (v := sv u.vo) rfl (g_ff nq (w_offP (g_ff nq (w_rdP gb (v := sv u'.vo) rfl (g_ff nq (ints23 ma.of mb.of (by have := ma.szO; omega) (g_ff nq (w_notb (pk_ff nq ?_))))))))))))
  refine gc_ff (w_offP (gc_ff (w_rdP ga (v := sv u.ve) rfl (gc_ff (w_offP (gc_ff (w_rdP gb (v := sv u'.ve) rfl (gc_ff (ints23 ma.en mb.en (by have := ma.szE; omega) (gc_ff (w_notb (pk_f ?_))))))))))))
  refine gc_ff (w_offP (gc_ff (w_rdP ga (v := sv u.vf) rfl (gc_ff (w_len ma.fi (gc_ff (w_offP (gc_ff (w_rdP gb (v := sv u'.vf) rfl (gc_ff (w_len mb.fi (gc_ff (w_neq (pk_f ?_))))))))))))))
  refine g_ff nq (w_offP (g_ff nq (w_rdP ga (v := sv u.vi) rfl (g_ff nq (w_offP (g_ff nq (w_rdP gb (v := sv u'.vi) rfl (g_ff nq (rows47 ma.inn mb.inn szI ma.szI (g_ff nq (w_notb (pk_ff nq ?_))))))))))))
  refine gc_ff (w_offP (gc_ff (w_rdP ga (v := sv u.vl) rfl (gc_ff (w_offP (gc_ff (w_rdP gb (v := sv u'.vl) rfl (gc_ff (rows47 ma.low mb.low szL ma.szL (gc_ff (w_notb (pk_f ?_))))))))))))
  refine gc_ff (w_offP (gc_ff (w_rdP ga (v := sv u.vr) rfl (gc_ff (w_len sa (gc_ff (w_offP (gc_ff (w_rdP gb (v := sv u'.vr) rfl (gc_ff (w_len sb (gc_ff (w_neq (pk_f (c_ff nq ?_)))))))))))))))
  refine loopE_intro (fun mm e h' => ∃ i : Nat, i ≤ m.Fi.length ∧ mm = m.Fi.length - i ∧ e 2 = .pointer (some ⟨h.length, 0, none⟩) ∧ e 3 = .pointer (some ⟨h1.length, 0, none⟩) ∧ e 5 = .int .i64 (i : Nat) ∧ h2 = h') m.Fi.length
    ⟨0, Nat.zero_le _, rfl, rfl, rfl, rfl, rfl⟩ ?_
  rintro I mm e h' ⟨i, hi, hmm, e2, e3, e5, rfl⟩ ih
  rw [e2, e3, e5]
  refine w_offP (w_rdP ga (v := sv u.vf) rfl (w_len ma.fi (w_lss (c_dec (fun q => ?_) (fun q => ?_)))))
  · obtain ⟨b, hb⟩ := getElem?_of_lt (l := m.Fi) (i := i) (by omega)
    refine w_offP (w_rdP ga (v := sv u.vf) rfl (w_idxN eBo_len ma.fi hb fun z hz => w_rd1 hz rfl (w_offP (w_rdP gb (v := sv u'.vf) rfl (w_idxN eBo_len mb.fi hb fun z hz => w_rd1 hz rfl (w_neqBo ?_))))))
    have e5 : (!(b == b)) = false := by simp
    rw [e5]
    refine c_f (w_add (by omega) (by omega) ?_)
    exact ih (m.Fi.length - (i + 1)) _ _ (by omega) ⟨i + 1, by omega, rfl, e2, e3, rfl, rfl⟩
  · clear ih
    refine loopE_intro (fun mm e h' => ∃ i : Nat, i ≤ m.Ret.length ∧ mm = m.Ret.length - i ∧ e 2 = .pointer (some ⟨h.length, 0, none⟩) ∧ e 3 = .pointer (some ⟨h1.length, 0, none⟩) ∧ e 6 = .int .i64 (i : Nat) ∧ h2 = h') m.Ret.length
      ⟨0, Nat.zero_le _, rfl, e2, e3, rfl, rfl⟩ ?_
    clear e2 e3 e5 hmm q hi
    clear e mm I i
    rintro I mm e h' ⟨i, hi, hmm, e2, e3, e6, rfl⟩ ih
    rw [e2, e3, e6]
    refine w_offP (w_rdP ga (v := sv u.vr) rfl (w_len sa (w_lss (c_dec (fun q => ?_) (fun q => k _ x02)))))
    obtain ⟨r, hr⟩ := getElem?_of_lt (l := m.Ret) (i := i) (by omega)
    obtain ⟨a, ha, ra'⟩ := va i r hr
    obtain ⟨b, hb, rb'⟩ := vb i r hr
    have sz := ma.szR r (List.mem_of_getElem? hr)
    refine w_offP (w_rdP ga (v := sv u.vr) rfl (idxV sa ha fun z hz => w_rd1 hz rfl (w_offP (w_rdP gb (v := sv u'.vr) rfl (idxV sb hb fun z hz => w_rd1 hz rfl ?_)))))
    refine rows47 ra' rb' sz.1 sz.2 (w_notb (c_f (w_add (by omega) (by omega) ?_)))
    exact ih (m.Ret.length - (i + 1)) _ _ (by omega) ⟨i + 1, by omega, rfl, e2, e3, rfl, rfl⟩
end Go.Proofs.Ytnpbehfhncbjfaa.W
end

section
/- Fold's laws: the document's Takes. Conditions: none. -/
namespace Go.Proofs.Ytnpbehfhncbjfaa.W
open Go Go.AM FoldPM
set_option linter.unusedVariables false
set_option maxRecDepth 100000
end Go.Proofs.Ytnpbehfhncbjfaa.W
end

section
/- Fold's laws: the document's Reached. Conditions: none. -/
namespace Go.Proofs.Ytnpbehfhncbjfaa.W
open Go Go.AM FoldPM
set_option linter.unusedVariables false
set_option maxRecDepth 100000
def SuccIn (M : PM) (bl : List Bool) (L : List Int) (p : Nat) : Prop := (∀ i, i < M.pl → ((M.inn p i : Nat) : Int) ∈ L) ∧ (M.of p = 0 → ∀ j, j < M.cl → ((M.low p j : Nat) : Int) ∈ L) ∧ (M.of p ≠ 0 → ∀ j, j < M.cl → ∀ q : Nat, bl[q]? = some true → ((M.ret p j q : Nat) : Int) ∈ L)
theorem SuccIn.mono {M : PM} {bl : List Bool} {L L' : List Int} {p : Nat} (s : SuccIn M bl L p) (h : ∀ x ∈ L, x ∈ L') : SuccIn M bl L' p := ⟨fun i hi => h _ (s.1 i hi), fun h0 j hj => h _ (s.2.1 h0 j hj), fun h0 j hj q hq => h _ (s.2.2 h0 j hj q hq)⟩
def AllR (M : PM) (L : List Int) : Prop := ∀ x ∈ L, ∃ q : Nat, x = (q : Nat) ∧ q < M.n ∧ Rch M q
theorem AllR.app {M : PM} {L L' : List Int} (a : AllR M L) (b : AllR M L') : AllR M (L ++ L') := fun x hx => (List.mem_append.1 hx).elim (a x) (b x)
set_option maxHeartbeats 1000000 in
theorem reached21 {h : AH} {u : MoV} {m : Mo} {K : Value → AH → Prop} (mh : MoH h u m) (v : Valid m)
    (kt : ∀ h' I bl, Ex h h' → h.length ≤ I → h'[I]? = some (.row (flat eBo bl) true) → bl.length = m.pm.n → (∀ x : Nat, bl[x]? = some true ↔ Rch m.pm x) → K (.slice (some ⟨I, 0, none⟩) m.pm.n m.pm.n) h') : callW Try.prog 21 [.agg (moRow u m).toArray] h K := by
  refine c21 ?_
  unfold s21
  refine n_boxv rfl fun h1 x1 l1 g1 => ?_
  have g2 : h1[h.length]? = some (.row (moRow u m) true) := g1
  have ok := v.ok
  have m2 := mh.ex x1
  have n2 := v.n2
  have k2 := v.k2
  have pl2 := v.pl.2
  have cl2 := v.cl.2
  have hpl : ((m.pm.pl : Nat) : Int) = m.pl := Int.toNat_of_nonneg v.pl.1
  have hcl : ((m.pm.cl : Nat) : Int) = m.cl := Int.toNat_of_nonneg v.cl.1
  have hnn : m.pm.n = m.Of.length := rfl
  have hkk : m.pm.k = m.En.length := rfl
  refine w_offP (w_rdP g2 (v := sv u.vo) rfl (w_len m2.of (w_mk1 (by decide) (by omega) ?_)))
  refine n_newv fun h3 x3 l3 g3 => ?_
  have g3' : h3[h1.length]? = some (.row (flat eBo (List.replicate m.pm.n false)) true) := by rw [← repL_false]; exact g3
  have en1 := m2.en
  refine loopE_intro (fun mm e h' => ∃ (i : Nat) (bl : List Bool), i ≤ m.pm.k ∧ mm = m.pm.k - i ∧ e 1 = .pointer (some ⟨h.length, 0, none⟩) ∧ e 3 = .slice (some ⟨h1.length, 0, none⟩) m.pm.n m.pm.n ∧ e 4 = .int .i64 (i : Nat) ∧
      Ex h1 h' ∧ h'[h1.length]? = some (.row (flat eBo bl) true) ∧ RS m.pm bl bl ∧ ∀ c, c < i → bl[m.pm.en c]? = some true) m.pm.k
    ⟨0, _, Nat.zero_le _, rfl, rfl, rfl, rfl, x3, g3', ⟨List.length_replicate, fun _ h => h, fun x hx => by rw [List.getElem?_replicate] at hx; split at hx <;> simp at hx⟩, fun c hc => by omega⟩ ?_
  rintro J mm e h4 ⟨i, bl, hi, hmm, e1, e3, e4, x4, hI, rs, hall⟩ ih
  rw [e1, e3, e4]
  refine w_offP (w_rdP (x4.some g2) (v := sv u.ve) rfl (w_len en1 (w_lss (c_dec (fun q => ?_) (fun q => ?_)))))
  · have hx := v.enAt (c := i) (by omega)
    refine w_offP (w_rdP (x4.some g2) (v := sv u.ve) rfl (w_idxN eI_len (m2.ex x4).en hx.1 fun z hz => w_rd1 hz rfl (w_ix hx.2.1 (w_stP hI (by rw [flat_eBo_len, rs.len]; exact hx.2.1) rfl rfl ?_))))
    rw [flat_eBo_set]
    refine w_add (by omega) (by omega) ?_
    have rs' := rs.set (q := m.pm.en i) (.en (by omega))
    refine ih (m.pm.k - (i + 1)) _ _ (by omega) ⟨i + 1, bl.set (m.pm.en i) true, by omega, rfl, e1, e3, rfl, x4.set (Nat.le_refl _) _, get_set _ (lt_of_get hI) _, ⟨rs'.len, fun _ h => h, rs'.so⟩, fun c hc => ?_⟩
    by_cases ec : c = i
    · subst ec; rw [List.getElem?_set_self (by rw [rs.len]; exact hx.2.1)]
    · exact set_up (hall c (by omega))
  · have hall' : ∀ c, c < m.pm.k → bl[m.pm.en c]? = some true := fun c hc => hall c (by omega)
    clear ih hall
    refine loopE_intro (fun mm e h' => ∃ (again : Bool) (bl : List Bool), mm = (if again = true then m.pm.n + 1 - bl.countP id else 0) ∧ e 1 = .pointer (some ⟨h.length, 0, none⟩) ∧ e 3 = .slice (some ⟨h1.length, 0, none⟩) m.pm.n m.pm.n ∧ e 5 = .bool again ∧
        Ex h1 h' ∧ h'[h1.length]? = some (.row (flat eBo bl) true) ∧ RS m.pm bl bl ∧ (∀ c, c < m.pm.k → bl[m.pm.en c]? = some true) ∧ (again = false → Full m.pm bl)) (m.pm.n + 1 - bl.countP id)
      ⟨true, bl, rfl, e1, e3, rfl, x4, hI, rs, hall', fun h => by cases h⟩ ?_
    clear e1 e3 e4 hmm hi q x4 hI rs hall'
    clear e J mm i bl h4
    rintro J mm e h4 ⟨again, bl, hmm, e1, e3, e5, x4, hI, rs, hen, hfc⟩ ih
    rw [e5]
    cases again with
    | false =>
      rw [e3]
      refine c_f (kt _ _ bl (x1.trans x4) (by have := x1.len; omega) hI rs.len fun x => ⟨fun hx => rs.so x hx, fun hx => hfc rfl x hx⟩)
    | true =>
      refine c_t ?_
      rw [if_pos rfl] at hmm
      have cb : bl.countP id ≤ m.pm.n := by have := List.countP_le_length (p := id) (l := bl); have := rs.len; omega
      have lI := lt_of_get hI
      obtain ⟨vin, sin, rin⟩ := (m2.ex x4).inn
      obtain ⟨vlo, slo, rlo⟩ := (m2.ex x4).low
      obtain ⟨vre, sre, rre⟩ := (m2.ex x4).ret
      have g4 := x4.some g2
      refine loopE_intro (fun mm e' h' => ∃ (p : Nat) (L : List Int), p ≤ m.pm.n ∧ mm = m.pm.n - p ∧ e' 1 = .pointer (some ⟨h.length, 0, none⟩) ∧ e' 3 = .slice (some ⟨h1.length, 0, none⟩) m.pm.n m.pm.n ∧ e' 5 = .bool false ∧ e' 7 = .int .i64 (p : Nat) ∧ Ex h4 h' ∧ OwnG 1 (fun j => h4.length ≤ j) h' (e' 6) L.length (flat eI L) ∧ L.length ≤ p * 1300 ∧ AllR m.pm L ∧ ∀ p', p' < p → bl[p']? = some true → SuccIn m.pm bl L p') m.pm.n
        ⟨0, [], Nat.zero_le _, rfl, e1, e3, rfl, rfl, Ex.refl _, OwnG.nil _ _ _, Nat.zero_le _, fun x hx => (by cases hx), fun p' hp' => by omega⟩ ?_
      clear e1 e3 e5
      clear e
      rintro J2 mm2 e h6 ⟨p, L, hp, hmm2, e1, e3, e5, e7, x6, oL, lL, aL, sL⟩ ih2
      rw [e3, e7, e1]
      have gI6 := x6.some hI
      refine w_lenSl (w_lss (c_dec (fun q => ?_) (fun q => ?_)))
      · have hpn : p < m.pm.n := by omega
        obtain ⟨b, hb⟩ := getElem?_of_lt (l := bl) (i := p) (by rw [rs.len]; omega)
        refine w_ix hpn (w_rdP gI6 (flat_eBo_get hb) (w_notb ?_))
        cases b with
        | false =>
          refine c_t (w_add (by omega) (by omega) ?_)
          refine ih2 (m.pm.n - (p + 1)) _ _ (by omega) ⟨p + 1, L, by omega, rfl, e1, e3, e5, rfl, x6, oL, by omega, aL, fun p' hp' hb' => ?_⟩
          by_cases ep : p' = p
          · subst ep; rw [hb] at hb'; cases hb'
          · exact sL p' (by omega) hb'
        | true =>
          have rp := rs.so p hb
          obtain ⟨li, hli, lli, gin⟩ := v.inAt hpn
          obtain ⟨lo, hlo, lo1, lo2⟩ := v.lowAt hpn
          obtain ⟨re, hre, re1, re2⟩ := v.retAt hpn
          have eli := (v.inEl hpn hli).1
          have elo := (v.lowEl hpn hlo).1
          have ere := (v.retEl hpn hre).1
          obtain ⟨wi, hwi, ii⟩ := rin p li hli
          obtain ⟨wl, hwl, il⟩ := rlo p lo hlo
          obtain ⟨wr, hwr, vs, svs, rvs⟩ := rre p re hre
          refine c_f (w_offP (w_rdP (x6.some g4) (v := sv u.vi) rfl (idxV (sin.ex x6) hwi fun z hz => w_rd1 hz rfl ?_)))
          have ii6 := Sl.ex ii x6
          refine appSl_sl ii6 (app_g (by decide) oL (srcL_sl (by decide) ii6) (by rw [flat_eI_len]; omega) (by have := bigR; omega) fun v47 h7 a1 a2 a3 a4 => ?_)
          have x7 : Ex h4 h7 := x6.below a2 fun j hj => a3 j (by have := x6.len; omega) fun hh => by have := (oL.on hh).1; omega
          have o7 : OwnG 1 (fun j => h4.length ≤ j) h7 v47 (L ++ li).length (flat eI (L ++ li)) := by
            rw [List.length_append, flat_append]
            exact OwnG.mono a1 (fun j _ hj => hj.elim id fun e => by have := x6.len; show h4.length ≤ j; omega) fun _ _ _ => rfl
          have fr : h7[h.length]? = h6[h.length]? := (x7.get _ (by have := lt_of_get g4; omega)).trans (x6.get _ (by have := lt_of_get g4; omega)).symm
          refine w_offP ⟨ptr_id fr, w_rdP (x7.some g4) (v := sv u.vl) rfl (idxV slo hwl fun z hz => ⟨PtrTo.ids hz x6 x7, w_rd1 (hz.ex x7) rfl ?_⟩)⟩
          have il7 := Sl.ex il x7
          refine appSl_sl il7 (app_g (by decide) o7 (srcL_sl (by decide) il7) (by rw [flat_eI_len]; omega) (by have := bigR; rw [List.length_append]; omega) fun v53 h8 b1 b2 b3 b4 => ?_)
          have x8 : Ex h4 h8 := x7.below b2 fun j hj => b3 j (by have := x7.len; omega) fun hh => by have := (o7.on hh).1; omega
          have o8 : OwnG 1 (fun j => h4.length ≤ j) h8 v53 (L ++ li ++ lo).length (flat eI (L ++ li ++ lo)) := by
            rw [List.length_append, flat_append]
            exact OwnG.mono b1 (fun j _ hj => hj.elim id fun e => by have := x7.len; show h4.length ≤ j; omega) fun _ _ _ => rfl
          have aI : AllR m.pm li := fun x hx => by
            obtain ⟨i, hi⟩ := List.getElem?_of_mem hx
            have := gin i (by have := (List.getElem?_eq_some_iff.1 hi).1; omega)
            have e := this.1
            rw [hi] at e
            injection e with e
            exact ⟨_, e, this.2.1, .inn rp (by have := (List.getElem?_eq_some_iff.1 hi).1; omega)⟩
          have aO : AllR m.pm lo := fun x hx => by
            obtain ⟨i, hi⟩ := List.getElem?_of_mem hx
            have hl := (List.getElem?_eq_some_iff.1 hi).1
            by_cases h0 : m.pm.of p = 0
            · have hlen := (lo2 h0).1
              have := (lo2 h0).2 i (by omega)
              have e := this.1
              rw [hi] at e
              injection e with e
              exact ⟨_, e, this.2.1, .low rp h0 (by omega)⟩
            · rw [lo1 h0] at hl; simp at hl
          have aL8 : AllR m.pm (L ++ li ++ lo) := (aL.app aI).app aO
          have s1 : ∀ i, i < m.pm.pl → ((m.pm.inn p i : Nat) : Int) ∈ L ++ li ++ lo := fun i hi => by
            have := List.mem_of_getElem? (gin i hi).1
            simp [this]
          have s2 : m.pm.of p = 0 → ∀ j, j < m.pm.cl → ((m.pm.low p j : Nat) : Int) ∈ L ++ li ++ lo := fun h0 j hj => by
            have := List.mem_of_getElem? ((lo2 h0).2 j hj).1
            simp [this]
          have sup : ∀ x ∈ L, x ∈ L ++ li ++ lo := fun x hx => by simp [hx]
          have lL8 : (L ++ li ++ lo).length ≤ p * 1300 + 40 := by rw [List.length_append, List.length_append]; omega
          generalize L ++ li ++ lo = L8 at *
          refine loopE_intro (fun mm e' h' => ∃ (j : Nat) (L' : List Int), j ≤ re.length ∧ mm = re.length - j ∧ e' 1 = .pointer (some ⟨h.length, 0, none⟩) ∧ e' 3 = .slice (some ⟨h1.length, 0, none⟩) m.pm.n m.pm.n ∧ e' 5 = .bool false ∧ e' 7 = .int .i64 (p : Nat) ∧ e' 8 = .int .i64 (j : Nat) ∧ Ex h4 h' ∧ OwnG 1 (fun j => h4.length ≤ j) h' (e' 6) L'.length (flat eI L') ∧ L'.length ≤ p * 1300 + 40 + j * 60 ∧ AllR m.pm L' ∧ (∀ x ∈ L8, x ∈ L') ∧
              ∀ a, a < j → ∀ q : Nat, bl[q]? = some true → ((m.pm.ret p a q : Nat) : Int) ∈ L') re.length
            ⟨0, L8, Nat.zero_le _, rfl, e1, e3, e5, e7, rfl, x8, o8, by omega, aL8, fun _ h => h, fun a ha => by omega⟩ ?_
          clear e1 e3 e5 e7 a1 a2 a3 a4 b1 b2 b3 b4 o7 x7 il7 fr hz ii6
          rintro J3 mm3 e3v h9 ⟨j, L', hj, hmm3, e1, e3, e5, e7, e8, x9, o9, l9, a9, sub9, r9⟩ ih3
          rw [e1, e7, e8]
          refine w_offP (w_rdP (x9.some g4) (v := sv u.vr) rfl (idxV (sre.ex x9) hwr fun z hz => w_rd1 hz rfl (w_len svs (w_lss (c_dec (fun q2 => ?_) (fun q2 => ?_))))))
          · obtain ⟨l, hl⟩ := getElem?_of_lt (l := re) (i := j) (by omega)
            have h0 : m.pm.of p ≠ 0 := fun h0 => by rw [re1 h0] at hl; simp at hl
            have hjc : j < m.pm.cl := by have := (re2 h0).1; omega
            obtain ⟨l', hl', ll, gq⟩ := (re2 h0).2 j hjc
            rw [hl] at hl'
            cases hl'
            obtain ⟨w, hw, iw⟩ := rvs j l hl
            refine loopE_intro (fun mm e' h' => ∃ (q : Nat) (L2 : List Int), q ≤ m.pm.n ∧ mm = m.pm.n - q ∧ e' 1 = .pointer (some ⟨h.length, 0, none⟩) ∧ e' 3 = .slice (some ⟨h1.length, 0, none⟩) m.pm.n m.pm.n ∧ e' 5 = .bool false ∧ e' 7 = .int .i64 (p : Nat) ∧ e' 8 = .int .i64 (j : Nat) ∧ e' 9 = .int .i64 (q : Nat) ∧ Ex h4 h' ∧ OwnG 1 (fun j => h4.length ≤ j) h' (e' 6) L2.length (flat eI L2) ∧ L2.length ≤ p * 1300 + 40 + j * 60 + q ∧ AllR m.pm L2 ∧ (∀ x ∈ L', x ∈ L2) ∧
                ∀ a : Nat, a < q → bl[a]? = some true → ((m.pm.ret p j a : Nat) : Int) ∈ L2) m.pm.n
              ⟨0, L', Nat.zero_le _, rfl, e1, e3, e5, e7, e8, rfl, x9, o9, by omega, a9, fun _ h => h, fun a ha => by omega⟩ ?_
            clear hz
            rintro J4 mm4 e4v h10 ⟨q, L2, hq, hmm4, f1, f3, f5, f7, f8, f9, x10, o10, l10, a10, sub10, r10⟩ ih4
            rw [f3, f9, f1, f7, f8]
            refine w_lenSl (w_lss (c_dec (fun q3 => ?_) (fun q3 => ?_)))
            · have hqn : q < m.pm.n := by omega
              obtain ⟨b2, hb2⟩ := getElem?_of_lt (l := bl) (i := q) (by rw [rs.len]; omega)
              refine w_ix hqn (w_rdP (x10.some hI) (flat_eBo_get hb2) ?_)
              cases b2 with
              | true =>
                refine c_t (w_offP (w_rdP (x10.some g4) (v := sv u.vr) rfl (idxV (sre.ex x10) hwr fun z hz => w_rd1 hz rfl (idxV (svs.ex x10) hw fun z hz => w_rd1 hz rfl (w_idxN eI_len (Sl.ex iw x10) (gq q hqn).1 fun z hz => w_rd1 hz rfl ?_)))))
                refine bldT rfl (by decide) rfl rfl (n_newv fun h11 x11 l11 g11 => appSl_of ?_)
                have o11 := o10.mono (F' := fun j => h4.length ≤ j) (h' := h11) (fun _ _ h => h) fun j hj _ => x11.get j (o10.on hj).2
                refine app_g (by decide) o11 (srcL_new (n := 1) (s := 1) g11 (by decide) rfl) rfl (by have := bigR; omega) fun v87 h12 c1 c2 c3 c4 => ?_
                have x12 : Ex h4 h12 := (x10.trans x11).below c2 fun j hj => c3 j (by have := x10.len; have := x11.len; omega) fun hh => by have := (o11.on hh).1; omega
                refine w_add (by omega) (by omega) ?_
                refine ih4 (m.pm.n - (q + 1)) _ _ (by omega) ⟨q + 1, L2 ++ [((m.pm.ret p j q : Nat) : Int)], by omega, rfl, f1, f3, f5, f7, f8, rfl, x12, ?_, by rw [List.length_append]; simp; omega, a10.app ?_, fun x hx => by simp [sub10 x hx], fun a ha hb' => ?_⟩
                · show OwnG 1 (fun j => h4.length ≤ j) h12 v87 _ _
                  rw [List.length_append, flat_append]
                  exact OwnG.mono c1 (fun j _ hj => hj.elim id fun e => by have := x10.len; have := x11.len; show h4.length ≤ j; omega) fun _ _ _ => rfl
                · intro x hx
                  rw [List.mem_singleton.1 hx]
                  exact ⟨_, rfl, (gq q hqn).2.1, .ret rp (rs.so q hb2) h0 hjc⟩
                · by_cases ea : a = q
                  · subst ea; simp
                  · have := r10 a (by omega) hb'
                    simp [this]
              | false =>
                refine c_f (w_add (by omega) (by omega) ?_)
                refine ih4 (m.pm.n - (q + 1)) _ _ (by omega) ⟨q + 1, L2, by omega, rfl, f1, f3, f5, f7, f8, rfl, x10, o10, by omega, a10, sub10, fun a ha hb' => ?_⟩
                by_cases ea : a = q
                · subst ea; rw [hb2] at hb'; cases hb'
                · exact r10 a (by omega) hb'
            · refine w_add (by omega) (by omega) ?_
              refine ih3 (re.length - (j + 1)) _ _ (by omega) ⟨j + 1, L2, by omega, rfl, f1, f3, f5, f7, rfl, x10, o10, by omega, a10, fun x hx => sub10 x (sub9 x hx), fun a ha q' hq' => ?_⟩
              by_cases ea : a = j
              · subst ea
                exact r10 q' (by have := (List.getElem?_eq_some_iff.1 hq').1; have := rs.len; omega) hq'
              · exact sub10 _ (r9 a (by omega) q' hq')
          · have ej : j = re.length := by omega
            subst ej
            refine w_add (by omega) (by omega) ?_
            refine ih2 (m.pm.n - (p + 1)) _ _ (by omega) ⟨p + 1, L', by omega, rfl, e1, e3, e5, rfl, x9, o9, by omega, a9, fun p' hp' hb' => ?_⟩
            by_cases ep : p' = p
            · subst ep
              refine ⟨fun i hi => sub9 _ (s1 i hi), fun h0 j hj => sub9 _ (s2 h0 j hj), fun h0 j hj q' hq' => r9 j (by have := (re2 h0).1; omega) q' hq'⟩
            · exact (sL p' (by omega) hb').mono fun x hx => sub9 x (sup x hx)
      · -- they are laid
        have ep : p = m.pm.n := by omega
        subst ep
        have iL : Ints h6 (e 6) L := oL.sl
        refine loopE_intro (fun mm e' h' => ∃ (a : Nat) (b2 : List Bool) (again : Bool), a ≤ L.length ∧ mm = L.length - a ∧ e' 1 = .pointer (some ⟨h.length, 0, none⟩) ∧ e' 3 = .slice (some ⟨h1.length, 0, none⟩) m.pm.n m.pm.n ∧ e' 5 = .bool again ∧ e' 6 = e 6 ∧ e' 10 = .int .i64 (a : Nat) ∧ Exx h1.length h6 h' ∧ h'[h1.length]? = some (.row (flat eBo b2) true) ∧ RS m.pm bl b2 ∧ (again = false → b2 = bl) ∧ (again = true → b2 ≠ bl) ∧ (∀ (i q : Nat), i < a → L[i]? = some ((q : Nat) : Int) → b2[q]? = some true)) L.length
          ⟨0, bl, false, Nat.zero_le _, rfl, e1, e3, e5, rfl, rfl, Exx.refl _ _, gI6, rs, fun _ => rfl, fun h => (by cases h), fun i q hi => by omega⟩ ?_
        clear e5 e7 q
        rintro J3 mm3 e3v h13 ⟨a, b2, again, ha, hmm3, f1, f3, f5, f6, f10, x13, gI13, rs2, ag1, ag2, hb2⟩ ih3
        rw [f6, f10, f3]
        have iL13 : Ints h13 (e 6) L := (oL.mono (F' := fun _ => True) (h' := h13) (fun _ _ _ => trivial) fun j hj hf => x13.get j (oL.on hj).2 (by have := x4.len; have : h4.length ≤ j := hf; omega)).sl
        refine w_len iL13 (w_lss (c_dec (fun q => ?_) (fun q => ?_)))
        · obtain ⟨x, hx⟩ := getElem?_of_lt (l := L) (i := a) (by omega)
          obtain ⟨y, rfl, hy, ry⟩ := aL x (List.mem_of_getElem? hx)
          obtain ⟨b, hb⟩ := getElem?_of_lt (l := b2) (i := y) (by rw [rs2.len]; omega)
          refine w_idxN eI_len iL13 hx fun z hz => w_rd1 hz rfl (w_ix hy (w_rdP gI13 (flat_eBo_get hb) (w_notb ?_)))
          have lL' : L.length ≤ 100000 := by omega
          cases b with
          | false =>
            refine c_t (w_idxN eI_len iL13 hx fun z hz => w_rd1 hz rfl (w_ix hy (w_stP gI13 (by rw [flat_eBo_len, rs2.len]; exact hy) rfl rfl ?_)))
            rw [flat_eBo_set]
            refine w_add (by omega) (by omega) ?_
            have hset : (b2.set y true)[y]? = some true := List.getElem?_set_self (by rw [rs2.len]; exact hy)
            refine ih3 (L.length - (a + 1)) _ _ (by omega) ⟨a + 1, b2.set y true, true, by omega, rfl, f1, f3, rfl, f6, rfl, x13.set _, get_set _ (lt_of_get gI13) _, rs2.set ry, fun h => (by cases h), fun _ e => ?_, fun i q' hi hq' => ?_⟩
            · have : bl[y]? = some true := by rw [← e]; exact hset
              have := rs2.up y this
              rw [hb] at this
              cases this
            · by_cases ei : i = a
              · subst ei
                rw [hx] at hq'
                injection hq' with hq'
                have : q' = y := by omega
                subst this
                exact hset
              · exact set_up (hb2 i q' (by omega) hq')
          | true =>
            refine c_f (w_add (by omega) (by omega) ?_)
            refine ih3 (L.length - (a + 1)) _ _ (by omega) ⟨a + 1, b2, again, by omega, rfl, f1, f3, f5, f6, rfl, x13, gI13, rs2, ag1, ag2, fun i q' hi hq' => ?_⟩
            by_cases ei : i = a
            · subst ei
              rw [hx] at hq'
              injection hq' with hq'
              have : q' = y := by omega
              subst this
              exact hb
            · exact hb2 i q' (by omega) hq'
        · have x413 : Ex h1 h13 := Exx.base (x4.trans x6) x13 (Nat.le_refl _)
          have hin : ∀ q' : Nat, ((q' : Nat) : Int) ∈ L → b2[q']? = some true := fun q' hm => by
            obtain ⟨i, hi⟩ := List.getElem?_of_mem hm
            exact hb2 i q' (by have := (List.getElem?_eq_some_iff.1 hi).1; omega) hi
          refine ih (if again = true then m.pm.n + 1 - b2.countP id else 0) _ _ ?_ ⟨again, b2, rfl, f1, f3, f5, x413, gI13, ⟨rs2.len, fun _ h => h, rs2.so⟩, fun c hc => rs2.up _ (hen c hc), fun hf => ?_⟩
          · rw [hmm]
            cases again with
            | false => rw [if_neg (by decide)]; omega
            | true =>
              rw [if_pos rfl]
              have := cnt_lt bl b2 (by rw [rs2.len, rs.len]) rs2.up (fun e => ag2 rfl e.symm)
              omega
          · have eb := ag1 hf
            rw [eb] at hin ⊢
            exact full_of hen fun p' hp' => by
              have := sL p' (by have := (List.getElem?_eq_some_iff.1 hp').1; have := rs.len; omega) hp'
              exact ⟨fun i hi => hin _ (this.1 i hi), fun h0 j hj => hin _ (this.2.1 h0 j hj), fun h0 j hj q' hq' => hin _ (this.2.2 h0 j hj q' hq')⟩
end Go.Proofs.Ytnpbehfhncbjfaa.W
end

section
/- Fold's laws: the document's alike. Conditions: none. PRINTED by a program of one's own. -/
namespace Go.Proofs.Ytnpbehfhncbjfaa.W
open Go Go.AM FoldPM
set_option linter.unusedVariables false
set_option maxRecDepth 100000
theorem gd_un {b : Bool} {f : (Value → AH → HT → ST → Prop) → Prop} {h : AH} {H : HT} {S : ST} {K : Value → AH → HT → ST → Prop} (k : K undef h H S) : gopD (gB undef b) f h H S K := k
structure AL (M : PM) (c : List Int) (p q : Nat) : Prop where
  of : M.of p = M.of q
  fi : M.fi p = M.fi q
  cc : c.getD p 0 = c.getD q 0
  inn : ∀ i, i < M.pl → c.getD (M.inn p i) 0 = c.getD (M.inn q i) 0
  low : M.of p = 0 → ∀ j, j < M.cl → c.getD (M.low p j) 0 = c.getD (M.low q j) 0
  ret : ∀ x, Rch M x → ∀ j, j < M.cl → (M.of p ≠ 0 → c.getD (M.ret p j x) 0 = c.getD (M.ret q j x) 0) ∧ (M.of x ≠ 0 → c.getD (M.ret x j p) 0 = c.getD (M.ret x j q) 0)
theorem cget {c : List Int} {n x : Nat} (hc : c.length = n) (hx : x < n) : c[x]? = some (c.getD x 0) := by
  obtain ⟨y, hy⟩ := getElem?_of_lt (l := c) (i := x) (by omega)
  rw [getD_some hy, hy]
theorem isl {h : AH} {I n : Nat} {bl : List Bool} (g : h[I]? = some (.row (flat eBo bl) true)) (hbl : bl.length = n) (hn : n ≤ 60) : SlT 1 eBo h (.slice (some ⟨I, 0, none⟩) n n) bl := by
  have oc60 : (60 : Nat) < openCap := by decide
  exact ⟨by rw [flat_eBo_len]; omega, .inr ⟨I, 0, _, by rw [hbl], .inl ⟨by omega, by omega⟩, .inr ⟨_, _, g, by rw [flat_eBo_len]; omega, by rw [List.drop_zero, Nat.mul_one, ← flat_eBo_len, List.take_length]⟩⟩⟩
set_option maxHeartbeats 8000000 in
theorem alike46 {h : AH} {u : MoV} {m : Mo} {c : List Int} {bl : List Bool} {I p q : Nat} {vc : Value} {K : Value → AH → Prop} (mh : MoH h u m) (v : Valid m) (gI : h[I]? = some (.row (flat eBo bl) true)) (hbl : bl.length = m.pm.n) (hrch : ∀ x : Nat, bl[x]? = some true ↔ Rch m.pm x) (ic : Ints h vc c) (hc : c.length = m.pm.n) (rp : Rch m.pm p) (rq : Rch m.pm q)
    (kf : ¬ AL m.pm c p q → ∀ h', Ex h h' → K (.bool false) h') (kt : AL m.pm c p q → ∀ h', Ex h h' → K (.bool true) h') :
    callW Try.prog 46 [.agg (moRow u m).toArray, .slice (some ⟨I, 0, none⟩) m.pm.n m.pm.n, vc, .int .i64 (p : Nat), .int .i64 (q : Nat)] h K := by
  have ok := v.ok
  have n2 := v.n2
  have hnn : m.pm.n = m.Of.length := rfl
  have hpn := rp.lt ok
  have hqn := rq.lt ok
  have pl2 := v.pl.2
  have cl2 := v.cl.2
  have hpl : ((m.pm.pl : Nat) : Int) = m.pl := Int.toNat_of_nonneg v.pl.1
  have hcl : ((m.pm.cl : Nat) : Int) = m.cl := Int.toNat_of_nonneg v.cl.1
  refine c46 ?_
  unfold s46
  refine n_boxv rfl fun h1 x1 l1 g1 => ?_
  have g : h1[h.length]? = some (.row (moRow u m) true) := g1
  have m1 := mh.ex x1
  have ic1 := Sl.ex ic x1
  have gI1 := x1.some gI
  have sI := isl gI1 hbl (by omega)
  have of := m1.of
  have fi := m1.fi
  obtain ⟨vin, sin, rin⟩ := m1.inn
  obtain ⟨vlo, slo, rlo⟩ := m1.low
  obtain ⟨vre, sre, rre⟩ := m1.ret
  have kf : ¬ AL m.pm c p q → K (.bool false) h1 := fun n => kf n _ x1
  have kt : AL m.pm c p q → K (.bool true) h1 := fun n => kt n _ x1
  have cp := cget hc hpn
  have cq := cget hc hqn
  refine w_offP (w_rdP g (v := sv u.vo) rfl (w_idxN eI_len of (v.ofAt hpn) fun z hz => w_rd1 hz rfl (w_offP (w_rdP g (v := sv u.vo) rfl (w_idxN eI_len of (v.ofAt hqn) fun z hz => w_rd1 hz rfl (w_neq ?_))))))
  by_cases q1 : ¬ m.pm.of p = m.pm.of q
  · iterate 11 refine gd_ft q1 ?_
    refine pk_tt q1 ?_
    iterate 9 refine gdc_ft ?_
    exact pk_t (c_t (kf fun a => q1 a.of))
  refine gd_ff q1 (w_offP ?_)
  refine gd_ff q1 (hist_nil (w_rdP g (v := sv u.vf) rfl ?_))
  refine gd_ff q1 ?_
  refine gd_ff q1 (w_idxN eBo_len fi (v.fiAt hpn) fun z hz => ?_)
  refine gd_ff q1 (hist_nil (w_rd1 hz rfl ?_))
  refine gd_ff q1 (w_offP ?_)
  refine gd_ff q1 (hist_nil (w_rdP g (v := sv u.vf) rfl ?_))
  refine gd_ff q1 ?_
  refine gd_ff q1 (w_idxN eBo_len fi (v.fiAt hqn) fun z hz => ?_)
  refine gd_ff q1 (hist_nil (w_rd1 hz rfl ?_))
  refine gd_ff q1 (w_neqBo (pk_ff q1 ?_))
  by_cases q2 : m.pm.fi p = m.pm.fi q
  case neg =>
    have e : (!(m.pm.fi p == m.pm.fi q)) = true := by simp [q2]
    rw [e]
    iterate 9 refine gdc_ft ?_
    exact pk_t (c_t (kf fun a => q2 a.fi))
  have e2 : (!(m.pm.fi p == m.pm.fi q)) = false := by simp [q2]
  rw [e2]
  refine gdc_ff ?_
  refine gdc_ff ?_
  refine gdc_ff (w_idxN eI_len ic1 cp fun z hz => ?_)
  refine gdc_ff (hist_nil (w_rd1 hz rfl ?_))
  refine gdc_ff ?_
  refine gdc_ff ?_
  refine gdc_ff (w_idxN eI_len ic1 cq fun z hz => ?_)
  refine gdc_ff (hist_nil (w_rd1 hz rfl ?_))
  refine gdc_ff (w_neq (pk_f (c_dec (fun q3 => kf fun a => q3 a.cc) (fun q3 => ?_))))
  have eof := Decidable.not_not.1 q1
  have ec := Decidable.not_not.1 q3
  obtain ⟨lp, hlp, llp, gp⟩ := v.inAt hpn
  obtain ⟨lq, hlq, llq, gq⟩ := v.inAt hqn
  obtain ⟨wp, hwp, ip⟩ := rin p lp hlp
  obtain ⟨wq, hwq, iq⟩ := rin q lq hlq
  refine loopE_intro (fun mm e h' => ∃ i : Nat, i ≤ m.pm.pl ∧ mm = m.pm.pl - i ∧ e 1 = .slice (some ⟨I, 0, none⟩) m.pm.n m.pm.n ∧ e 2 = vc ∧ e 3 = .int .i64 (p : Nat) ∧ e 4 = .int .i64 (q : Nat) ∧ e 5 = .pointer (some ⟨h.length, 0, none⟩) ∧ e 11 = .int .i64 (i : Nat) ∧ h1 = h' ∧ ∀ i', i' < i → c.getD (m.pm.inn p i') 0 = c.getD (m.pm.inn q i') 0) m.pm.pl
    ⟨0, Nat.zero_le _, rfl, rfl, rfl, rfl, rfl, rfl, rfl, rfl, fun i hi => by omega⟩ ?_
  rintro J mm e h' ⟨i, hi, hmm, e1, e2, e3, e4, e5, e11, rfl, hin⟩ ih
  rw [e5, e11, e3, e4, e2]
  refine w_offP (w_rdP g (v := .int .i64 m.pl) rfl (w_lss (c_dec (fun q4 => ?_) (fun q4 => ?_))))
  · have hi' : i < m.pm.pl := by omega
    refine w_offP (w_rdP g (v := sv u.vi) rfl (idxV sin hwp fun z hz => w_rd1 hz rfl (w_idxN eI_len ip (gp i hi').1 fun z hz => w_rd1 hz rfl (w_idxN eI_len ic1 (cget hc (gp i hi').2.1) fun z hz => w_rd1 hz rfl ?_))))
    refine w_offP (w_rdP g (v := sv u.vi) rfl (idxV sin hwq fun z hz => w_rd1 hz rfl (w_idxN eI_len iq (gq i hi').1 fun z hz => w_rd1 hz rfl (w_idxN eI_len ic1 (cget hc (gq i hi').2.1) fun z hz => w_rd1 hz rfl ?_))))
    refine w_neq (c_dec (fun q5 => kf fun a => q5 (a.inn i hi')) (fun q5 => w_add (by omega) (by omega) ?_))
    exact ih (m.pm.pl - (i + 1)) _ _ (by omega) ⟨i + 1, by omega, rfl, e1, e2, e3, e4, e5, rfl, rfl, fun i' h2 => by
      by_cases ei : i' = i
      · subst ei; exact Decidable.not_not.1 q5
      · exact hin i' (by omega)⟩
  have hin' : ∀ i, i < m.pm.pl → c.getD (m.pm.inn p i) 0 = c.getD (m.pm.inn q i) 0 := fun i h2 => hin i (by omega)
  clear ih hin
  obtain ⟨op, hop, op1, op2⟩ := v.lowAt hpn
  obtain ⟨oq, hoq, oq1, oq2⟩ := v.lowAt hqn
  obtain ⟨xp, hxp, jp⟩ := rlo p op hop
  obtain ⟨xq, hxq, jq⟩ := rlo q oq hoq
  have lop : op.length ≤ 20 := (v.lowEl hpn hop).1
  refine loopE_intro (fun mm e h' => ∃ i : Nat, i ≤ op.length ∧ mm = op.length - i ∧ e 1 = .slice (some ⟨I, 0, none⟩) m.pm.n m.pm.n ∧ e 2 = vc ∧ e 3 = .int .i64 (p : Nat) ∧ e 4 = .int .i64 (q : Nat) ∧ e 5 = .pointer (some ⟨h.length, 0, none⟩) ∧ e 12 = .int .i64 (i : Nat) ∧ h1 = h' ∧ ∀ j, j < i → c.getD (m.pm.low p j) 0 = c.getD (m.pm.low q j) 0) op.length
    ⟨0, Nat.zero_le _, rfl, e1, e2, e3, e4, e5, rfl, rfl, fun i hi => by omega⟩ ?_
  clear e1 e2 e3 e4 e5 e11 hmm hi q4
  clear e J mm i
  rintro J mm e h' ⟨i, hi, hmm, e1, e2, e3, e4, e5, e12, rfl, hlo⟩ ih
  rw [e5, e12, e3, e4, e2]
  refine w_offP (w_rdP g (v := sv u.vl) rfl (idxV slo hxp fun z hz => w_rd1 hz rfl (w_len jp (w_lss (c_dec (fun q4 => ?_) (fun q4 => ?_))))))
  · have h0 : m.pm.of p = 0 := by
      by_cases h0 : m.pm.of p = 0
      · exact h0
      · rw [op1 h0] at q4; simp at q4
        omega
    have h0q : m.pm.of q = 0 := eof ▸ h0
    have hi' : i < m.pm.cl := by have := (op2 h0).1; omega
    have a1 := (op2 h0).2 i hi'
    have a2 := (oq2 h0q).2 i hi'
    refine w_offP (w_rdP g (v := sv u.vl) rfl (idxV slo hxp fun z hz => w_rd1 hz rfl (w_idxN eI_len jp a1.1 fun z hz => w_rd1 hz rfl (w_idxN eI_len ic1 (cget hc a1.2.1) fun z hz => w_rd1 hz rfl ?_))))
    refine w_offP (w_rdP g (v := sv u.vl) rfl (idxV slo hxq fun z hz => w_rd1 hz rfl (w_idxN eI_len jq a2.1 fun z hz => w_rd1 hz rfl (w_idxN eI_len ic1 (cget hc a2.2.1) fun z hz => w_rd1 hz rfl ?_))))
    refine w_neq (c_dec (fun q5 => kf fun a => q5 (a.low h0 i hi')) (fun q5 => w_add (by omega) (by omega) ?_))
    exact ih (op.length - (i + 1)) _ _ (by omega) ⟨i + 1, by omega, rfl, e1, e2, e3, e4, e5, rfl, rfl, fun i' h2 => by
      by_cases ei : i' = i
      · subst ei; exact Decidable.not_not.1 q5
      · exact hlo i' (by omega)⟩
  have hlo' : m.pm.of p = 0 → ∀ j, j < m.pm.cl → c.getD (m.pm.low p j) 0 = c.getD (m.pm.low q j) 0 := fun h0 j hj => hlo j (by have := (op2 h0).1; omega)
  clear ih hlo
  obtain ⟨Rp, hRp, Rp1, Rp2⟩ := v.retAt hpn
  obtain ⟨Rq, hRq, Rq1, Rq2⟩ := v.retAt hqn
  obtain ⟨yp, hyp, vsp, sp, kp⟩ := rre p Rp hRp
  obtain ⟨yq, hyq, vsq, sq, kq⟩ := rre q Rq hRq
  refine loopE_intro (fun mm e h' => ∃ x : Nat, x ≤ m.pm.n ∧ mm = m.pm.n - x ∧ e 1 = .slice (some ⟨I, 0, none⟩) m.pm.n m.pm.n ∧ e 2 = vc ∧ e 3 = .int .i64 (p : Nat) ∧ e 4 = .int .i64 (q : Nat) ∧ e 5 = .pointer (some ⟨h.length, 0, none⟩) ∧ e 13 = .int .i64 (x : Nat) ∧ h1 = h' ∧ ∀ x', x' < x → Rch m.pm x' → ∀ j, j < m.pm.cl → (m.pm.of p ≠ 0 → c.getD (m.pm.ret p j x') 0 = c.getD (m.pm.ret q j x') 0) ∧ (m.pm.of x' ≠ 0 → c.getD (m.pm.ret x' j p) 0 = c.getD (m.pm.ret x' j q) 0)) m.pm.n
    ⟨0, Nat.zero_le _, rfl, e1, e2, e3, e4, e5, rfl, rfl, fun i hi => by omega⟩ ?_
  clear e1 e2 e3 e4 e5 e12 hmm hi q4
  clear e J mm i
  rintro J mm e h' ⟨x, hx, hmm, e1, e2, e3, e4, e5, e13, rfl, hre⟩ ih
  rw [e1, e13]
  refine w_lenSl (w_lss (c_dec (fun q4 => ?_) (fun q4 => ?_)))
  · have hxn : x < m.pm.n := by omega
    refine loopE_intro (fun mm e h' => ∃ j : Nat, j ≤ m.pm.cl ∧ mm = m.pm.cl - j ∧ e 1 = .slice (some ⟨I, 0, none⟩) m.pm.n m.pm.n ∧ e 2 = vc ∧ e 3 = .int .i64 (p : Nat) ∧ e 4 = .int .i64 (q : Nat) ∧ e 5 = .pointer (some ⟨h.length, 0, none⟩) ∧ e 13 = .int .i64 (x : Nat) ∧ e 14 = .int .i64 (j : Nat) ∧ h1 = h' ∧ (Rch m.pm x → ∀ j', j' < j → (m.pm.of p ≠ 0 → c.getD (m.pm.ret p j' x) 0 = c.getD (m.pm.ret q j' x) 0) ∧ (m.pm.of x ≠ 0 → c.getD (m.pm.ret x j' p) 0 = c.getD (m.pm.ret x j' q) 0))) m.pm.cl
      ⟨0, Nat.zero_le _, rfl, e1, e2, e3, e4, e5, e13, rfl, rfl, fun _ j hj => by omega⟩ ?_
    clear e1 e2 e3 e4 e5 e13
    rintro J2 mm2 e' h' ⟨j, hj, hmm2, e1, e2, e3, e4, e5, e13, e14, rfl, hrj⟩ ih2
    rw [e5, e14, e1, e13, e2, e3, e4]
    refine w_offP (w_rdP g (v := .int .i64 m.cl) rfl (w_lss ?_))
    have next : (∀ x', x' < x + 1 → Rch m.pm x' → ∀ j, j < m.pm.cl → (m.pm.of p ≠ 0 → c.getD (m.pm.ret p j x') 0 = c.getD (m.pm.ret q j x') 0) ∧ (m.pm.of x' ≠ 0 → c.getD (m.pm.ret x' j p) 0 = c.getD (m.pm.ret x' j q) 0)) → ∀ E : Env, E 1 = .slice (some ⟨I, 0, none⟩) m.pm.n m.pm.n → E 2 = vc → E 3 = .int .i64 (p : Nat) → E 4 = .int .i64 (q : Nat) → E 5 = .pointer (some ⟨h.length, 0, none⟩) → E 13 = .int .i64 ((x : Int) + 1) → J E h1 :=
      fun hr E t1 t2 t3 t4 t5 t13 => ih (m.pm.n - (x + 1)) _ _ (by omega) ⟨x + 1, by omega, rfl, t1, t2, t3, t4, t5, t13, rfl, hr⟩
    by_cases q5 : (j : Int) < m.cl
    case neg =>
      refine g_tf q5 (g_tf q5 (g_tf q5 (g_tf q5 (pk_ff q5 (c_f (w_add (by omega) (by omega) ?_))))))
      refine next (fun x' h2 rx' j' hj' => ?_) _ e1 e2 e3 e4 e5 rfl
      by_cases ex : x' = x
      · subst ex; exact hrj rx' j' (by omega)
      · exact hre x' (by omega) rx' j' hj'
    have hjc : j < m.pm.cl := by omega
    obtain ⟨b, hb⟩ := getElem?_of_lt (l := bl) (i := x) (by omega)
    refine g_tt q5 (g_tt q5 (g_tt q5 (w_ix hxn (g_tt q5 (w_rdP gI1 (flat_eBo_get hb) (pk_tt q5 ?_))))))
    cases b with
    | false =>
      have nr : ¬ Rch m.pm x := fun r => by rw [(hrch x).2 r] at hb; cases hb
      refine c_f (w_add (by omega) (by omega) ?_)
      refine next (fun x' h2 rx' j' hj' => ?_) _ e1 e2 e3 e4 e5 rfl
      have ex : x' ≠ x := fun ex => nr (ex ▸ rx')
      exact hre x' (by omega) rx' j' hj'
    | true =>
    have rx : Rch m.pm x := (hrch x).1 hb
    have ox := ok.of x hxn
    have op' := ok.of p hpn
    obtain ⟨Rx, hRx, Rx1, Rx2⟩ := v.retAt hxn
    obtain ⟨yx, hyx, vsx, sx, kx⟩ := rre x Rx hRx
    refine c_t (w_offP (w_rdP g (v := sv u.vo) rfl (w_idxN eI_len of (v.ofAt hpn) fun z hz => w_rd1 hz rfl (w_gtr ?_))))
    have cont : ((m.pm.of p ≠ 0 → c.getD (m.pm.ret p j x) 0 = c.getD (m.pm.ret q j x) 0) ∧ (m.pm.of x ≠ 0 → c.getD (m.pm.ret x j p) 0 = c.getD (m.pm.ret x j q) 0)) → ∀ E : Env, E 1 = .slice (some ⟨I, 0, none⟩) m.pm.n m.pm.n → E 2 = vc → E 3 = .int .i64 (p : Nat) → E 4 = .int .i64 (q : Nat) → E 5 = .pointer (some ⟨h.length, 0, none⟩) → E 13 = .int .i64 (x : Nat) → E 14 = .int .i64 ((j : Int) + 1) → J2 E h1 :=
      fun hr E t1 t2 t3 t4 t5 t13 t14 => ih2 (m.pm.cl - (j + 1)) _ _ (by omega) ⟨j + 1, by omega, rfl, t1, t2, t3, t4, t5, t13, t14, rfl, fun rx' j' hj' => by
        by_cases ej : j' = j
        · subst ej; exact hr
        · exact hrj rx' j' (by omega)⟩
    by_cases q6 : (0 : Int) < m.pm.of p
    · have p0 : m.pm.of p ≠ 0 := by omega
      have p0q : m.pm.of q ≠ 0 := eof ▸ p0
      obtain ⟨L1, hL1, lL1, gL1⟩ := (Rp2 p0).2 j hjc
      obtain ⟨w1, hw1, i1⟩ := kp j L1 hL1
      obtain ⟨L2, hL2, lL2, gL2⟩ := (Rq2 p0q).2 j hjc
      obtain ⟨w2, hw2, i2⟩ := kq j L2 hL2
      refine gd_tt q6 ?_
      refine gd_tt q6 (w_offP ?_)
      refine gd_tt q6 (hist_nil (w_rdP g (v := sv u.vr) rfl ?_))
      refine gd_tt q6 ?_
      refine gd_tt q6 (idxV sre hyp fun z hz => ?_)
      refine gd_tt q6 (hist_nil (w_rd1 hz rfl ?_))
      refine gd_tt q6 ?_
      refine gd_tt q6 (idxV sp hw1 fun z hz => ?_)
      refine gd_tt q6 (hist_nil (w_rd1 hz rfl ?_))
      refine gd_tt q6 ?_
      refine gd_tt q6 (w_idxN eI_len i1 (gL1 x hxn).1 fun z hz => ?_)
      refine gd_tt q6 (hist_nil (w_rd1 hz rfl ?_))
      refine gd_tt q6 (w_idxN eI_len ic1 (cget hc (gL1 x hxn).2.1) fun z hz => ?_)
      refine gd_tt q6 (hist_nil (w_rd1 hz rfl ?_))
      refine gd_tt q6 ?_
      refine gd_tt q6 (w_offP ?_)
      refine gd_tt q6 (hist_nil (w_rdP g (v := sv u.vr) rfl ?_))
      refine gd_tt q6 ?_
      refine gd_tt q6 (idxV sre hyq fun z hz => ?_)
      refine gd_tt q6 (hist_nil (w_rd1 hz rfl ?_))
      refine gd_tt q6 ?_
      refine gd_tt q6 (idxV sq hw2 fun z hz => ?_)
      refine gd_tt q6 (hist_nil (w_rd1 hz rfl ?_))
      refine gd_tt q6 ?_
      refine gd_tt q6 (w_idxN eI_len i2 (gL2 x hxn).1 fun z hz => ?_)
      refine gd_tt q6 (hist_nil (w_rd1 hz rfl ?_))
      refine gd_tt q6 (w_idxN eI_len ic1 (cget hc (gL2 x hxn).2.1) fun z hz => ?_)
      refine gd_tt q6 (hist_nil (w_rd1 hz rfl ?_))
      refine gd_tt q6 (w_neq ?_)
      refine pk_tt q6 ?_
      by_cases q7 : ¬ c.getD (m.pm.ret p j x) 0 = c.getD (m.pm.ret q j x) 0
      · iterate 7 refine gd_ft q7 ?_
        iterate 29 refine gd_un ?_
        refine gd_ft q7 ?_
        exact pk_tt q7 (c_t (kf fun a => q7 ((a.ret x rx j hjc).1 p0)))
      refine gd_ff q7 (w_offP ?_)
      refine gd_ff q7 (hist_nil (w_rdP g (v := sv u.vo) rfl ?_))
      refine gd_ff q7 ?_
      refine gd_ff q7 (w_idxN eI_len of (v.ofAt hxn) fun z hz => ?_)
      refine gd_ff q7 (hist_nil (w_rd1 hz rfl ?_))
      refine gd_ff q7 (w_gtr ?_)
      refine gd_ff q7 ?_
      by_cases q8 : (0 : Int) < m.pm.of x
      case neg =>
        iterate 29 refine gd_tf q8 ?_
        refine gd_ff q7 (pk_ff q8 ?_)
        refine pk_ff q7 (c_f (w_add (by omega) (by omega) ?_))
        exact cont ⟨fun _ => Decidable.not_not.1 q7, fun h0 => by omega⟩ _ e1 e2 e3 e4 e5 e13 rfl
      have x0 : m.pm.of x ≠ 0 := by omega
      obtain ⟨L3, hL3, lL3, gL3⟩ := (Rx2 x0).2 j hjc
      obtain ⟨w3, hw3, i3⟩ := kx j L3 hL3
      refine gd_tt q8 ?_
      refine gd_tt q8 (w_offP ?_)
      refine gd_tt q8 (hist_nil (w_rdP g (v := sv u.vr) rfl ?_))
      refine gd_tt q8 ?_
      refine gd_tt q8 (idxV sre hyx fun z hz => ?_)
      refine gd_tt q8 (hist_nil (w_rd1 hz rfl ?_))
      refine gd_tt q8 ?_
      refine gd_tt q8 (idxV sx hw3 fun z hz => ?_)
      refine gd_tt q8 (hist_nil (w_rd1 hz rfl ?_))
      refine gd_tt q8 ?_
      refine gd_tt q8 (w_idxN eI_len i3 (gL3 p hpn).1 fun z hz => ?_)
      refine gd_tt q8 (hist_nil (w_rd1 hz rfl ?_))
      refine gd_tt q8 (w_idxN eI_len ic1 (cget hc (gL3 p hpn).2.1) fun z hz => ?_)
      refine gd_tt q8 (hist_nil (w_rd1 hz rfl ?_))
      refine gd_tt q8 ?_
      refine gd_tt q8 (w_offP ?_)
      refine gd_tt q8 (hist_nil (w_rdP g (v := sv u.vr) rfl ?_))
      refine gd_tt q8 ?_
      refine gd_tt q8 (idxV sre hyx fun z hz => ?_)
      refine gd_tt q8 (hist_nil (w_rd1 hz rfl ?_))
      refine gd_tt q8 ?_
      refine gd_tt q8 (idxV sx hw3 fun z hz => ?_)
      refine gd_tt q8 (hist_nil (w_rd1 hz rfl ?_))
      refine gd_tt q8 ?_
      refine gd_tt q8 (w_idxN eI_len i3 (gL3 q hqn).1 fun z hz => ?_)
      refine gd_tt q8 (hist_nil (w_rd1 hz rfl ?_))
      refine gd_tt q8 (w_idxN eI_len ic1 (cget hc (gL3 q hqn).2.1) fun z hz => ?_)
      refine gd_tt q8 (hist_nil (w_rd1 hz rfl ?_))
      refine gd_tt q8 (w_neq ?_)
      refine gd_ff q7 (pk_tt q8 ?_)
      refine pk_ff q7 (c_dec (fun q9 => kf fun a => q9 ((a.ret x rx j hjc).2 x0)) (fun q9 => w_add (by omega) (by omega) ?_))
      exact cont ⟨fun _ => Decidable.not_not.1 q7, fun _ => Decidable.not_not.1 q9⟩ _ e1 e2 e3 e4 e5 e13 rfl
    · iterate 29 refine gd_tf q6 ?_
      refine pk_ff q6 ?_
      refine gdc_ff (w_offP ?_)
      refine gdc_ff (hist_nil (w_rdP g (v := sv u.vo) rfl ?_))
      refine gdc_ff ?_
      refine gdc_ff (w_idxN eI_len of (v.ofAt hxn) fun z hz => ?_)
      refine gdc_ff (hist_nil (w_rd1 hz rfl ?_))
      refine gdc_ff (w_gtr ?_)
      refine gdc_ff ?_
      by_cases q8 : (0 : Int) < m.pm.of x
      case neg =>
        iterate 29 refine gd_tf q8 ?_
        refine gdc_ff (pk_ff q8 ?_)
        refine pk_f (c_f (w_add (by omega) (by omega) ?_))
        exact cont ⟨fun h0 => by omega, fun h0 => by omega⟩ _ e1 e2 e3 e4 e5 e13 rfl
      have x0 : m.pm.of x ≠ 0 := by omega
      obtain ⟨L3, hL3, lL3, gL3⟩ := (Rx2 x0).2 j hjc
      obtain ⟨w3, hw3, i3⟩ := kx j L3 hL3
      refine gd_tt q8 ?_
      refine gd_tt q8 (w_offP ?_)
      refine gd_tt q8 (hist_nil (w_rdP g (v := sv u.vr) rfl ?_))
      refine gd_tt q8 ?_
      refine gd_tt q8 (idxV sre hyx fun z hz => ?_)
      refine gd_tt q8 (hist_nil (w_rd1 hz rfl ?_))
      refine gd_tt q8 ?_
      refine gd_tt q8 (idxV sx hw3 fun z hz => ?_)
      refine gd_tt q8 (hist_nil (w_rd1 hz rfl ?_))
      refine gd_tt q8 ?_
      refine gd_tt q8 (w_idxN eI_len i3 (gL3 p hpn).1 fun z hz => ?_)
      refine gd_tt q8 (hist_nil (w_rd1 hz rfl ?_))
      refine gd_tt q8 (w_idxN eI_len ic1 (cget hc (gL3 p hpn).2.1) fun z hz => ?_)
      refine gd_tt q8 (hist_nil (w_rd1 hz rfl ?_))
      refine gd_tt q8 ?_
      refine gd_tt q8 (w_offP ?_)
      refine gd_tt q8 (hist_nil (w_rdP g (v := sv u.vr) rfl ?_))
      refine gd_tt q8 ?_
      refine gd_tt q8 (idxV sre hyx fun z hz => ?_)
      refine gd_tt q8 (hist_nil (w_rd1 hz rfl ?_))
      refine gd_tt q8 ?_
      refine gd_tt q8 (idxV sx hw3 fun z hz => ?_)
      refine gd_tt q8 (hist_nil (w_rd1 hz rfl ?_))
      refine gd_tt q8 ?_
      refine gd_tt q8 (w_idxN eI_len i3 (gL3 q hqn).1 fun z hz => ?_)
      refine gd_tt q8 (hist_nil (w_rd1 hz rfl ?_))
      refine gd_tt q8 (w_idxN eI_len ic1 (cget hc (gL3 q hqn).2.1) fun z hz => ?_)
      refine gd_tt q8 (hist_nil (w_rd1 hz rfl ?_))
      refine gd_tt q8 (w_neq ?_)
      refine gdc_ff (pk_tt q8 ?_)
      refine pk_f (c_dec (fun q9 => kf fun a => q9 ((a.ret x rx j hjc).2 x0)) (fun q9 => w_add (by omega) (by omega) ?_))
      exact cont ⟨fun h0 => by omega, fun _ => Decidable.not_not.1 q9⟩ _ e1 e2 e3 e4 e5 e13 rfl
  · exact kt ⟨eof, q2, ec, hin', hlo', fun x' rx' j hj => hre x' (by have := rx'.lt ok; omega) rx' j hj⟩
end Go.Proofs.Ytnpbehfhncbjfaa.W
end

section
/- Fold's laws: the document's Classes. Conditions: none. -/
namespace Go.Proofs.Ytnpbehfhncbjfaa.W
open Go Go.AM FoldPM
set_option linter.unusedVariables false
set_option maxRecDepth 100000
theorem AL.refl {M : PM} {c : List Int} (p : Nat) : AL M c p p := ⟨rfl, rfl, rfl, fun _ _ => rfl, fun _ _ _ => rfl, fun _ _ _ _ => ⟨fun _ => rfl, fun _ => rfl⟩⟩
theorem AL.symm {M : PM} {c : List Int} {p q : Nat} (h : AL M c p q) : AL M c q p :=
  ⟨h.of.symm, h.fi.symm, h.cc.symm, fun i hi => (h.inn i hi).symm, fun h0 j hj => (h.low (h.of.trans h0) j hj).symm, fun x hx j hj => ⟨fun h0 => ((h.ret x hx j hj).1 (by rw [h.of]; exact h0)).symm, fun h0 => ((h.ret x hx j hj).2 h0).symm⟩⟩
theorem AL.trans {M : PM} {c : List Int} {p q r : Nat} (h : AL M c p q) (k : AL M c q r) : AL M c p r :=
  ⟨h.of.trans k.of, h.fi.trans k.fi, h.cc.trans k.cc, fun i hi => (h.inn i hi).trans (k.inn i hi), fun h0 j hj => (h.low h0 j hj).trans (k.low (h.of ▸ h0) j hj), fun x hx j hj => ⟨fun h0 => ((h.ret x hx j hj).1 h0).trans ((k.ret x hx j hj).1 (by rw [← h.of]; exact h0)), fun h0 => ((h.ret x hx j hj).2 h0).trans ((k.ret x hx j hj).2 h0)⟩⟩
def Stg (M : PM) (s : Nat) (c : List Int) (last : Nat) : Prop := match s with
  | 0 => Canon M.n (Rch M) (fun _ _ => True) c 1 ∧ last = 0
  | t + 1 => Canon M.n (Rch M) (E M t) c last
theorem Stg.al {M : PM} (ok : M.OK) {s last : Nat} {c : List Int} (g : Stg M s c last) {p q : Nat} (rp : Rch M p) (rq : Rch M q) : AL M c p q ↔ E M s p q := by
  match s, g with
  | 0, ⟨C, _⟩ =>
    have key : ∀ {a b : Nat}, Rch M a → Rch M b → c.getD a 0 = c.getD b 0 := fun ra rb => (C.kernel (ra.lt ok) (rb.lt ok) ra rb).2 trivial
    exact ⟨fun h => ⟨h.of, h.fi⟩, fun h => ⟨h.1, h.2, key rp rq, fun i hi => key (.inn rp hi) (.inn rq hi), fun h0 j hj => key (.low rp h0 hj) (.low rq (h.1 ▸ h0) hj), fun x hx j hj => ⟨fun h0 => key (.ret rp hx h0 hj) (.ret rq hx (h.1 ▸ h0) hj), fun h0 => key (.ret hx rp h0 hj) (.ret hx rq h0 hj)⟩⟩⟩
  | t + 1, C =>
    have C : Canon M.n (Rch M) (E M t) c last := C
    have key : ∀ {a b : Nat}, Rch M a → Rch M b → (c.getD a 0 = c.getD b 0 ↔ E M t a b) := fun ra rb => C.kernel (ra.lt ok) (rb.lt ok) ra rb
    constructor
    · intro h
      have h1 := (key rp rq).1 h.cc
      have ho := h.of
      exact ⟨h1, fun i hi => (key (.inn rp hi) (.inn rq hi)).1 (h.inn i hi), fun h0 j hj => (key (.low rp h0 hj) (.low rq (ho ▸ h0) hj)).1 (h.low h0 j hj), fun h0 j hj x hx => (key (.ret rp hx h0 hj) (.ret rq hx (ho ▸ h0) hj)).1 ((h.ret x hx j hj).1 h0), fun x hx h0 j hj => (key (.ret hx rp h0 hj) (.ret hx rq h0 hj)).1 ((h.ret x hx j hj).2 h0)⟩
    · intro h
      have ho := E.of h.1
      exact ⟨ho, E.fi h.1, (key rp rq).2 h.1, fun i hi => (key (.inn rp hi) (.inn rq hi)).2 (h.2.1 i hi), fun h0 j hj => (key (.low rp h0 hj) (.low rq (ho ▸ h0) hj)).2 (h.2.2.1 h0 j hj), fun x hx j hj => ⟨fun h0 => (key (.ret rp hx h0 hj) (.ret rq hx (ho ▸ h0) hj)).2 (h.2.2.2.1 h0 j hj x hx), fun h0 => (key (.ret hx rp h0 hj) (.ret hx rq h0 hj)).2 (h.2.2.2.2 x hx h0 j hj)⟩⟩
theorem Stg.len {M : PM} {s last : Nat} {c : List Int} (g : Stg M s c last) : c.length = M.n := by
  match s, g with
  | 0, ⟨C, _⟩ => exact C.len
  | t + 1, C => exact Canon.len C
theorem take_set {α : Type} {l : List α} {p : Nat} {x : α} (hp : p < l.length) : (l.set p x).take (p + 1) = l.take p ++ [x] := by
  rw [take_succ_get (x := x) (List.getElem?_set_self hp)]
  congr 1
  rw [List.take_set_of_le (Nat.le_refl _)]
def Fnd (M : PM) (c nl : List Int) (p q : Nat) (y : Int) : Prop := (y = -1 ∧ (Rch M p → ∀ q', q' < q → Rch M q' → ¬ AL M c p q')) ∨ (Rch M p ∧ ∃ q0 d : Nat, q0 < p ∧ Rch M q0 ∧ AL M c p q0 ∧ nl[q0]? = some (d : Int) ∧ y = (d : Int))
set_option maxHeartbeats 4000000 in
theorem refclasses25 {h : AH} {u : MoV} {m : Mo} {K : Value → AH → Prop} (mh : MoH h u m) (v : Valid m)
    (kt : ∀ h' N c cnt, Ex h h' → h.length ≤ N → h'[N]? = some (.row (flat eI c) true) → c.length = m.pm.n → Canon m.pm.n (Rch m.pm) (EE m.pm) c cnt → K (.slice (some ⟨N, 0, none⟩) m.pm.n m.pm.n) h') : callW Try.prog 25 [.agg (moRow u m).toArray] h K := by
  have ok := v.ok
  have n1 := ok.n1
  have n2 := v.n2
  have hnn : m.pm.n = m.Of.length := rfl
  refine c25 ?_
  unfold s25
  refine n_boxv rfl fun h1 x1 l1 g1 => ?_
  have g1' : h1[h.length]? = some (.row (moRow u m) true) := g1
  refine w_rdPA g1' (Nat.le_refl 8) ?_
  refine reached21 (mh.ex x1) v fun h2 I bl x2 hI gI hbl hrch => ?_
  have g2 := x2.some g1'
  have m2 := mh.ex (x1.trans x2)
  refine w_lenSl (w_mk1 (by decide) (by omega) ?_)
  refine n_newv fun h3 x3 l3 g3 => ?_
  have g3' : h3[h2.length]? = some (.row (flat eI (List.replicate m.pm.n 0)) true) := by rw [← repL_zero]; exact g3
  have lI := lt_of_get gI
  refine loopE_intro (fun mm e h' => ∃ (i : Nat) (c : List Int), i ≤ m.pm.n ∧ mm = m.pm.n - i ∧ e 1 = .pointer (some ⟨h.length, 0, none⟩) ∧ e 3 = .slice (some ⟨I, 0, none⟩) m.pm.n m.pm.n ∧ e 4 = .slice (some ⟨h2.length, 0, none⟩) m.pm.n m.pm.n ∧ e 5 = .int .i64 (i : Nat) ∧
      Ex h2 h' ∧ h'[h2.length]? = some (.row (flat eI c) true) ∧ c.length = m.pm.n ∧ (∀ p, p < m.pm.n → (Rch m.pm p → c[p]? = some 0) ∧ (¬ Rch m.pm p → p < i → c[p]? = some (-1)))) m.pm.n
    ⟨0, _, Nat.zero_le _, rfl, rfl, rfl, rfl, rfl, x3, g3', List.length_replicate, fun p hp => ⟨fun _ => by rw [List.getElem?_replicate, if_pos hp], fun _ h => by omega⟩⟩ ?_
  rintro J mm e h4 ⟨i, c, hi, hmm, e1, e3, e4, e5, x4, gO, lc, hall⟩ ih
  rw [e4, e5, e3]
  refine w_lenSl (w_lss (c_dec (fun q => ?_) (fun q => ?_)))
  · have hin : i < m.pm.n := by omega
    obtain ⟨b, hb⟩ := getElem?_of_lt (l := bl) (i := i) (by omega)
    refine w_ix hin (w_rdP (x4.some gI) (flat_eBo_get hb) (w_notb ?_))
    cases b with
    | false =>
      have nr : ¬ Rch m.pm i := fun r => by rw [(hrch i).2 r] at hb; cases hb
      refine c_t (w_ix hin (w_stP gO (by rw [flat_eI_len]; omega) rfl rfl ?_))
      rw [flat_eI_set]
      refine w_add (by omega) (by omega) ?_
      refine ih (m.pm.n - (i + 1)) _ _ (by omega) ⟨i + 1, c.set i (-1), by omega, rfl, e1, e3, e4, rfl, x4.set (Nat.le_refl _) _, get_set _ (lt_of_get gO) _, by rw [List.length_set]; exact lc, fun p hp => ⟨fun r => ?_, fun r hpi => ?_⟩⟩
      · have : p ≠ i := fun e => nr (e ▸ r)
        rw [List.getElem?_set_ne (Ne.symm this)]
        exact (hall p hp).1 r
      · by_cases ep : p = i
        · subst ep; rw [List.getElem?_set_self (by omega)]
        · rw [List.getElem?_set_ne (Ne.symm ep)]
          exact (hall p hp).2 r (by omega)
    | true =>
      have r := (hrch i).1 hb
      refine c_f (w_add (by omega) (by omega) ?_)
      refine ih (m.pm.n - (i + 1)) _ _ (by omega) ⟨i + 1, c, by omega, rfl, e1, e3, e4, rfl, x4, gO, lc, fun p hp => ⟨(hall p hp).1, fun nr hpi => ?_⟩⟩
      have : p ≠ i := fun e => nr (e ▸ r)
      exact (hall p hp).2 nr (by omega)
  · have C0 : Canon m.pm.n (Rch m.pm) (fun _ _ => True) c 1 := by
      refine ⟨lc, fun p hp h => (hall p hp).2 h (by omega), fun p hp h => ⟨0, by omega, (hall p hp).1 h⟩, fun p q hp hq rp rq => ⟨fun _ => trivial, fun _ => by rw [(hall p hp).1 rp, (hall q hq).1 rq]⟩, fun p d hp h e he => ?_, fun d hd => ?_⟩
      · by_cases rp : Rch m.pm p
        · rw [(hall p hp).1 rp] at h
          injection h with h
          omega
        · rw [(hall p hp).2 rp (by omega)] at h
          injection h with h
          omega
      · have := ok.en 0 ok.k1
        exact ⟨m.pm.en 0, this.1, by rw [(hall _ this.1).1 (.en ok.k1)]; congr 1; omega⟩
    clear ih hall
    refine loopE_intro (fun mm e h' => ∃ (s last O : Nat) (c : List Int), mm = m.pm.n + 1 - last ∧ e 1 = .pointer (some ⟨h.length, 0, none⟩) ∧ e 3 = .slice (some ⟨I, 0, none⟩) m.pm.n m.pm.n ∧ e 4 = .slice (some ⟨O, 0, none⟩) m.pm.n m.pm.n ∧ e 6 = .int .i64 (last : Nat) ∧ h2.length ≤ O ∧
        Ex h2 h' ∧ h'[O]? = some (.row (flat eI c) true) ∧ Stg m.pm s c last) (m.pm.n + 1)
      ⟨0, 0, h2.length, c, rfl, e1, e3, e4, rfl, Nat.le_refl _, x4, gO, ⟨C0, rfl⟩⟩ ?_
    clear e1 e3 e4 e5 hmm hi q x4 gO lc C0
    clear e J mm i c h4
    rintro J mm e h6 ⟨s, last, O, c, hmm, e1, e3, e4, e6, hO, x6, gO, G⟩ ih
    have lc := G.len
    have lO := lt_of_get gO
    rw [e4]
    refine w_lenSl (w_mk1 (by decide) (by omega) ?_)
    refine n_newv fun h7 x7 l7 g7 => ?_
    have g7' : h7[h6.length]? = some (.row (flat eI (List.replicate m.pm.n 0)) true) := by rw [← repL_zero]; exact g7
    have gO7 := x7.some gO
    have x67 := x6.trans x7
    have l26 := x6.len
    have ic : ∀ {h' : AH}, ExF (fun j => j = h6.length) h7 h' → Ints h' (.slice (some ⟨O, 0, none⟩) m.pm.n m.pm.n) c := fun y => slI (y.some gO7 (by omega)) lc (by omega)
    have cI : ∀ {h' : AH}, ExF (fun j => j = h6.length) h7 h' → h'[I]? = some (.row (flat eBo bl) true) := fun y => y.some (x67.some gI) (by omega)
    have cB : ∀ {h' : AH}, ExF (fun j => j = h6.length) h7 h' → h'[h.length]? = some (.row (moRow u m) true) := fun y => y.some (x67.some g2) (by have := lt_of_get g2; omega)
    have cM : ∀ {h' : AH}, ExF (fun j => j = h6.length) h7 h' → MoH h' u m := fun y => m2.ex (ExF.base x67 y fun j hj => by have : j = h6.length := hj; omega)
    refine loopE_intro (fun mm e' h' => ∃ (p cnt : Nat) (nl : List Int), p ≤ m.pm.n ∧ mm = m.pm.n - p ∧ e' 1 = .pointer (some ⟨h.length, 0, none⟩) ∧ e' 3 = .slice (some ⟨I, 0, none⟩) m.pm.n m.pm.n ∧ e' 4 = .slice (some ⟨O, 0, none⟩) m.pm.n m.pm.n ∧ e' 6 = .int .i64 (last : Nat) ∧ e' 7 = .slice (some ⟨h6.length, 0, none⟩) m.pm.n m.pm.n ∧ e' 8 = .int .i64 (cnt : Nat) ∧ e' 9 = .int .i64 (p : Nat) ∧
        ExF (fun j => j = h6.length) h7 h' ∧ h'[h6.length]? = some (.row (flat eI nl) true) ∧ nl.length = m.pm.n ∧ Canon p (Rch m.pm) (AL m.pm c) (nl.take p) cnt) m.pm.n
      ⟨0, 0, _, Nat.zero_le _, rfl, e1, e3, e4, e6, rfl, rfl, rfl, ExF.refl _ _, g7', List.length_replicate, by rw [List.take_zero]; exact Canon.nil _ _⟩ ?_
    clear e1 e3 e4 e6
    rintro J2 mm2 e2v h8 ⟨p, cnt, nl, hp, hmm2, e1, e3, e4, e6, e7, e8, e9, x8, gN, ln, Cn⟩ ih2
    rw [e4, e9, e7]
    refine w_lenSl (w_lss (c_dec (fun hlt => ?_) (fun hlt => ?_)))
    · have hpn : p < m.pm.n := by omega
      have hNp : (flat eI nl).length = m.pm.n := by rw [flat_eI_len]; exact ln
      refine w_ix hpn (w_stP gN (by omega) rfl rfl ?_)
      rw [flat_eI_set]
      have lN := lt_of_get gN
      have cc := Cn.le
      refine loopE_intro (fun mm e' h' => ∃ (q : Nat) (y : Int), q ≤ p ∧ mm = p - q ∧ e' 1 = .pointer (some ⟨h.length, 0, none⟩) ∧ e' 3 = .slice (some ⟨I, 0, none⟩) m.pm.n m.pm.n ∧ e' 4 = .slice (some ⟨O, 0, none⟩) m.pm.n m.pm.n ∧ e' 6 = .int .i64 (last : Nat) ∧ e' 7 = .slice (some ⟨h6.length, 0, none⟩) m.pm.n m.pm.n ∧ e' 8 = .int .i64 (cnt : Nat) ∧ e' 9 = .int .i64 (p : Nat) ∧ e' 10 = .int .i64 (q : Nat) ∧
          ExF (fun j => j = h6.length) h7 h' ∧ h'[h6.length]? = some (.row (flat eI (nl.set p y)) true) ∧ Fnd m.pm c nl p q y) p
        ⟨0, -1, Nat.zero_le _, rfl, e1, e3, e4, e6, e7, e8, e9, rfl, x8.set rfl _, get_set _ lN _, .inl ⟨rfl, fun _ q' hq' => by omega⟩⟩ ?_
      clear e1 e3 e4 e6 e7 e8 e9 gN x8 lN
      rintro J3 mm3 e3v h10 ⟨q, y, hq, hmm3, e1, e3, e4, e6, e7, e8, e9, e10, x10, gN, hy⟩ ih3
      rw [e10, e9, e3, e7, e1, e4, e8]
      refine w_lss ?_
      have lset : (nl.set p y).length = m.pm.n := by rw [List.length_set]; exact ln
      have gpy : (nl.set p y)[p]? = some y := List.getElem?_set_self (by omega)
      obtain ⟨b, hb⟩ := getElem?_of_lt (l := bl) (i := p) (by omega)
      have gI10 := cI x10
      have next : ∀ (E : Env) (h' : AH) (x : Int) (cnt' : Nat), E 1 = .pointer (some ⟨h.length, 0, none⟩) → E 3 = .slice (some ⟨I, 0, none⟩) m.pm.n m.pm.n → E 4 = .slice (some ⟨O, 0, none⟩) m.pm.n m.pm.n → E 6 = .int .i64 (last : Nat) → E 7 = .slice (some ⟨h6.length, 0, none⟩) m.pm.n m.pm.n → E 8 = .int .i64 (cnt' : Nat) → E 9 = .int .i64 ((p : Int) + 1) →
          ExF (fun j => j = h6.length) h7 h' → h'[h6.length]? = some (.row (flat eI (nl.set p x)) true) → Canon (p + 1) (Rch m.pm) (AL m.pm c) (nl.take p ++ [x]) cnt' → J2 E h' := fun E h' x cnt' t1 t3 t4 t6 t7 t8 t9 yy gy Cy =>
        ih2 (m.pm.n - (p + 1)) _ _ (by omega) ⟨p + 1, cnt', nl.set p x, by omega, rfl, t1, t3, t4, t6, t7, t8, t9, yy, gy, by rw [List.length_set]; exact ln, by rw [take_set (by omega)]; exact Cy⟩
      have takeget : ∀ q0 : Nat, q0 < p → (nl.take p)[q0]? = nl[q0]? := fun q0 h0 => by rw [List.getElem?_take, if_pos h0]
      by_cases qq : (q : Int) < (p : Nat)
      case neg =>
        have eq : q = p := by omega
        subst eq
        refine g_tf qq (g_tf qq (g_tf qq (g_tf qq (pk_ff qq (gc_tf (gc_tf (gc_tf (gc_tf (gc_tf (pk_f (c_f ?_)))))))))))
        refine w_ix hpn (w_rdP gI10 (flat_eBo_get hb) ?_)
        cases b with
        | false =>
          have nr : ¬ Rch m.pm q := fun r => by rw [(hrch q).2 r] at hb; cases hb
          refine gc_tf (gc_tf (gc_tf (gc_tf (gc_tf (pk_f (c_f (w_add (by omega) (by omega) ?_)))))))
          have ey : y = -1 := by
            rcases hy with ⟨e, _⟩ | ⟨r, _⟩
            · exact e
            · exact absurd r nr
          subst ey
          exact next _ _ _ cnt e1 e3 e4 e6 e7 e8 rfl x10 gN (Cn.out nr)
        | true =>
          have r : Rch m.pm q := (hrch q).1 hb
          refine gc_tt (gc_tt (gc_tt (w_ix hpn (gc_tt (w_rdP gN (flat_eI_get gpy) (gc_tt (w_lss (pk_t (c_dec (fun q1 => ?_) (fun q1 => ?_))))))))))
          · have hnew : ∀ q', q' < q → Rch m.pm q' → ¬ AL m.pm c q q' := by
              rcases hy with ⟨e, hh⟩ | ⟨_, q0, d, _, _, _, _, e⟩
              · exact hh r
              · omega
            refine w_ix hpn (w_stP gN (by rw [flat_eI_len]; omega) rfl rfl ?_)
            rw [flat_eI_set, List.set_set]
            refine w_add (by omega) (by omega) (w_add (by omega) (by omega) ?_)
            exact next _ _ _ (cnt + 1) e1 e3 e4 e6 e7 rfl rfl (x10.set rfl _) (get_set _ (lt_of_get gN) _) (Cn.new r (fun _ _ h => h.symm) (fun _ => AL.refl _) hnew)
          · refine w_add (by omega) (by omega) ?_
            rcases hy with ⟨e, _⟩ | ⟨_, q0, d, h0, r0, a0, g0, e⟩
            · omega
            · rw [e] at gN
              exact next _ _ _ cnt e1 e3 e4 e6 e7 e8 rfl x10 gN (Cn.old r (fun _ _ h => h.symm) (fun _ _ _ h k => h.trans k) (fun _ => AL.refl _) h0 r0 a0 ((takeget q0 h0).trans g0))
      have hqp : q < p := by omega
      refine g_tt qq (g_tt qq (g_tt qq (w_ix hpn (g_tt qq (w_rdP gI10 (flat_eBo_get hb) (pk_tt qq ?_))))))
      cases b with
      | false =>
        have nr : ¬ Rch m.pm p := fun r => by rw [(hrch p).2 r] at hb; cases hb
        refine gc_tf (gc_tf (gc_tf (gc_tf (gc_tf (pk_f (c_f (w_ix hpn (w_rdP gI10 (flat_eBo_get hb) ?_))))))))
        refine gc_tf (gc_tf (gc_tf (gc_tf (gc_tf (pk_f (c_f (w_add (by omega) (by omega) ?_)))))))
        have ey : y = -1 := by
          rcases hy with ⟨e, _⟩ | ⟨r, _⟩
          · exact e
          · exact absurd r nr
        subst ey
        exact next _ _ _ cnt e1 e3 e4 e6 e7 e8 rfl x10 gN (Cn.out nr)
      | true =>
        have r : Rch m.pm p := (hrch p).1 hb
        refine gc_tt (gc_tt (gc_tt (w_ix hpn (gc_tt (w_rdP gN (flat_eI_get gpy) (gc_tt (w_lss (pk_t (c_dec (fun q1 => ?_) (fun q1 => ?_))))))))))
        · -- not found as yet
          have hnone : ∀ q', q' < q → Rch m.pm q' → ¬ AL m.pm c p q' := by
            rcases hy with ⟨e, hh⟩ | ⟨_, q0, d, _, _, _, _, e⟩
            · exact hh r
            · omega
          have ey : y = -1 := by
            rcases hy with ⟨e, _⟩ | ⟨_, q0, d, _, _, _, _, e⟩
            · exact e
            · omega
          obtain ⟨b2, hb2⟩ := getElem?_of_lt (l := bl) (i := q) (by omega)
          refine w_ix (by omega) (w_rdP gI10 (flat_eBo_get hb2) ?_)
          cases b2 with
          | false =>
            have nrq : ¬ Rch m.pm q := fun r => by rw [(hrch q).2 r] at hb2; cases hb2
            refine gc_tf (gc_tf (gc_tf (gc_tf (gc_tf (gc_tf (pk_f (c_f (w_add (by omega) (by omega) ?_))))))))
            refine ih3 (p - (q + 1)) _ _ (by omega) ⟨q + 1, y, by omega, rfl, e1, e3, e4, e6, e7, e8, e9, rfl, x10, gN, .inl ⟨ey, fun _ q' hq' rq' => ?_⟩⟩
            have : q' ≠ q := fun e => nrq (e ▸ rq')
            exact hnone q' (by omega) rq'
          | true =>
            have rq : Rch m.pm q := (hrch q).1 hb2
            refine gc_tt (w_rdPA (cB x10) (Nat.le_refl 8) (gc_tt (gc_tt (gc_tt (gc_tt (gc_tt ?_))))))
            refine alike46 (cM x10) v gI10 hbl hrch (ic x10) lc r rq (fun na h11 x11 => ?_) (fun a h11 x11 => ?_)
            · refine pk_t (c_f (w_add (by omega) (by omega) ?_))
              refine ih3 (p - (q + 1)) _ _ (by omega) ⟨q + 1, y, by omega, rfl, e1, e3, e4, e6, e7, e8, e9, rfl, x10.trans (.ex x11), x11.some gN, .inl ⟨ey, fun _ q' hq' rq' => ?_⟩⟩
              by_cases eq : q' = q
              · subst eq; exact na
              · exact hnone q' (by omega) rq'
            · obtain ⟨d, _, hd⟩ := Cn.re q hqp rq
              rw [takeget q hqp] at hd
              have gqy : (nl.set p y)[q]? = some (d : Int) := by rw [List.getElem?_set_ne (by omega)]; exact hd
              have gN11 := x11.some gN
              refine pk_t (c_t (w_ix (by omega) (w_rdP gN11 (flat_eI_get gqy) (w_ix hpn (w_stP gN11 (by rw [flat_eI_len]; omega) rfl rfl ?_)))))
              rw [flat_eI_set, List.set_set]
              refine w_add (by omega) (by omega) ?_
              exact ih3 (p - (q + 1)) _ _ (by omega) ⟨q + 1, (d : Int), by omega, rfl, e1, e3, e4, e6, e7, e8, e9, rfl, (x10.trans (.ex x11)).set rfl _, get_set _ (lt_of_get gN11) _, .inr ⟨r, q, d, hqp, rq, a, hd, rfl⟩⟩
        · -- found
          refine w_ix hpn (w_rdP gI10 (flat_eBo_get hb) ?_)
          refine gc_tt (gc_tt (gc_tt (w_ix hpn (gc_tt (w_rdP gN (flat_eI_get gpy) (gc_tt (w_lss (pk_t (c_ff q1 (w_add (by omega) (by omega) ?_))))))))))
          rcases hy with ⟨e, _⟩ | ⟨_, q0, d, h0, r0, a0, g0, e⟩
          · omega
          · rw [e] at gN
            exact next _ _ _ cnt e1 e3 e4 e6 e7 e8 rfl x10 gN (Cn.old r (fun _ _ h => h.symm) (fun _ _ _ h k => h.trans k) (fun _ => AL.refl _) h0 r0 a0 ((takeget q0 h0).trans g0))
    · have ep : p = m.pm.n := by omega
      subst ep
      rw [List.take_of_length_le (by omega)] at Cn
      have Cs : Canon m.pm.n (Rch m.pm) (E m.pm s) nl cnt := Cn.congr (fun _ _ => Iff.rfl) fun p q hp hq rp rq => G.al ok rp rq
      have cle := Cs.le
      have c1 : 1 ≤ cnt := by
        obtain ⟨d, hd, _⟩ := Cs.re (m.pm.en 0) (ok.en 0 ok.k1).1 (.en ok.k1)
        omega
      have xx : Ex h2 h8 := ExF.base x67 x8 fun j hj => by have : j = h6.length := hj; omega
      rw [e8, e6]
      refine w_eql (c_dec (fun q2 => ?_) (fun q2 => ?_))
      · have el : cnt = last := by omega
        match s, G with
        | 0, ⟨_, h0⟩ => omega
        | t + 1, G =>
          have G : Canon m.pm.n (Rch m.pm) (E m.pm t) c last := G
          have st := (G.mono Cs fun p q _ _ _ _ h => h.1).2 el.symm
          have stable : ∀ p q, Rch m.pm p → Rch m.pm q → E m.pm t p q → E m.pm (t + 1) p q := fun p q rp rq h => st p q (rp.lt ok) (rq.lt ok) rp rq h
          exact kt _ _ nl cnt ((x1.trans x2).trans xx) (by have := x1.len; have := x2.len; omega) gN ln (Cs.congr (fun _ _ => Iff.rfl) fun p q hp hq rp rq => ⟨fun h => EE.of_stable stable rp rq h.1, fun h => h _⟩)
      · have lt : last < cnt := by
          match s, G with
          | 0, ⟨_, h0⟩ => omega
          | t + 1, G =>
            have G : Canon m.pm.n (Rch m.pm) (E m.pm t) c last := G
            have := (G.mono Cs fun p q _ _ _ _ h => h.1).1
            omega
        exact ih (m.pm.n + 1 - cnt) _ _ (by omega) ⟨s + 1, cnt, h6.length, nl, rfl, e1, e3, rfl, rfl, by omega, xx, gN, Cs⟩
end Go.Proofs.Ytnpbehfhncbjfaa.W
end

section
/- Fold's laws: the document's small machine under way: steps. Conditions: none. -/
namespace Go.Proofs.Ytnpbehfhncbjfaa.W
open Go Go.AM FoldPM
set_option linter.unusedVariables false
set_option maxRecDepth 100000
theorem idB {hA a b : AH} {p : Value} {cs : List Value} (hp : PtrTo hA p cs) (hh : ∀ j, j < hA.length → a[j]? = b[j]?) : ∀ z ∈ idOf p, a[z]? = b[z]? := by
  obtain ⟨id, off, c, w, rfl, g, _⟩ := hp
  intro z hz
  have : z = id := by simpa [idOf] using hz
  subst this
  exact hh _ (lt_of_get g)
theorem classes44 {h : AH} {v vc : Value} {l c : List Int} {K : Value → AH → Prop} (hc : Ints h vc c) (hl : Ints h v l) (sz : l.length ≤ 1000) (el : ∀ x ∈ l, 0 ≤ x ∧ x.toNat < c.length)
    (k : ∀ v' h', Ex h h' → Ints h' v' (l.map (cOf c)) → (∀ j, onId v' j → h.length ≤ j ∧ j < h'.length) → K v' h') : callW Try.prog 44 [vc, v] h K := by
  refine c44 ?_
  unfold s44
  refine loopE_intro (fun mm e h' => ∃ i : Nat, i ≤ l.length ∧ mm = l.length - i ∧ e 0 = vc ∧ e 1 = v ∧ e 6 = .int .i64 (i : Nat) ∧ Ex h h' ∧ OwnG 1 (fun j => h.length ≤ j) h' (e 5) i (flat eI ((l.take i).map (cOf c)))) l.length
    ⟨0, Nat.zero_le _, rfl, rfl, rfl, rfl, Ex.refl _, OwnG.nil _ _ _⟩ ?_
  rintro I mm e h1 ⟨i, hi, hmm, e0, e1, e6, x1, o1⟩ ih
  rw [e0, e1, e6]
  refine w_len (Sl.ex hl x1) (w_lss (c_dec (fun q => ?_) (fun q => ?_)))
  · obtain ⟨x, hx⟩ := getElem?_of_lt (l := l) (i := i) (by omega)
    obtain ⟨x0, xn⟩ := el x (List.mem_of_getElem? hx)
    obtain ⟨y, hy⟩ := getElem?_of_lt (l := c) (i := x.toNat) xn
    refine w_idxN eI_len (Sl.ex hl x1) hx fun z hz => w_rd1 hz rfl ?_
    refine w_idxT eI_len (Sl.ex hc x1) x0 hy fun z hz => w_rd1 hz rfl ?_
    refine bldT rfl (by decide) rfl rfl (n_newv fun h2 x2 l2 g2 => appSl_of ?_)
    have o2 := o1.mono (F' := fun j => h.length ≤ j) (h' := h2) (fun _ _ h => h) fun j hj _ => x2.get j (o1.on hj).2
    refine app_g (by decide) o2 (srcL_new (n := 1) (s := 1) g2 (by decide) rfl) rfl (by have := bigR; omega) fun v' h3 a1 a2 a3 a4 => ?_
    refine w_add (by omega) (by omega) ?_
    have e5 : (l.take (i + 1)).map (cOf c) = (l.take i).map (cOf c) ++ [y] := by
      rw [take_succ_get hx, List.map_append]
      congr 1
      show [cOf c x] = [y]
      unfold cOf
      rw [getD_some hy]
    refine ih (l.length - (i + 1)) _ _ (by omega) ⟨i + 1, by omega, rfl, e0, e1, rfl, (x1.trans x2).below a2 fun j hj => a3 j (by have := x1.len; have := x2.len; omega) fun hh => by have := (o1.on hh).1; omega, ?_⟩
    show OwnG 1 (fun j => h.length ≤ j) h3 v' _ _
    rw [e5, flat_append]
    exact OwnG.mono a1 (fun j _ hj => hj.elim id fun e => by have := x1.len; have := x2.len; show h.length ≤ j; omega) fun _ _ _ => rfl
  · have hall : l.take i = l := List.take_of_length_le (by omega)
    rw [hall] at o1
    refine k _ _ x1 ?_ fun j hj => o1.on hj
    have e : i = (l.map (cOf c)).length := by rw [List.length_map]; omega
    have s2 := o1.sl
    rw [e] at s2
    exact s2
structure SmJ (hA h : AH) (T : Nat) (pc : Value × Value) (b : Nat → Value) (v61 : Value) (ce : List Int) (v : Nat → Value) (cs : Nat → List Value) (Z : Nat → Prop) (a0 : List Int) (a1 : List Bool) (a2 a3 : List (List Int)) (a4 : List (List (List Int))) (a5 : List (List Int)) (a6 : List Int) : Prop where
  ex : Ex hA h
  tl : T = hA.length
  box : h[T]? = some (.row [pc.1, pc.2, b 0, v61, b 1, b 2, b 3, b 4] true)
  s : SMs h T v cs Z
  en : Ints h v61 ce
  ez : ∀ j, onId v61 j → Z j
  c0 : cs 0 = flat eI a0
  c1 : cs 1 = flat eBo a1
  c2 : RowsZ h Z (cs 2) a2
  c3 : RowsZ h Z (cs 3) a3
  c4 : RetsZ h Z (cs 4) a4
  c5 : RowsZ h Z (cs 5) a5
  c6 : cs 6 = flat eI a6
def Bf (T : Nat) (h h' : AH) : Prop := ∀ j, j ≤ T → h'[j]? = h[j]?
section
variable {hA h : AH} {T : Nat} {pc : Value × Value} {b : Nat → Value} {v61 : Value} {ce : List Int} {v : Nat → Value} {cs : Nat → List Value} {Z : Nat → Prop} {a0 : List Int} {a1 : List Bool} {a2 a3 : List (List Int)} {a4 : List (List (List Int))} {a5 : List (List Int)} {a6 : List Int}
theorem SmJ.lt (s : SmJ hA h T pc b v61 ce v cs Z a0 a1 a2 a3 a4 a5 a6) : T < h.length := lt_of_get s.box
theorem SmJ.after {h' : AH} {Z' : Nat → Prop} (s : SmJ hA h T pc b v61 ce v cs Z a0 a1 a2 a3 a4 a5 a6) (l : h.length ≤ h'.length) (hT : ∀ j, j < T → h'[j]? = h[j]?) (hZ : ∀ j, Z j → h'[j]? = h[j]?) (zz : ∀ j, Z j → Z' j) :
    Ex hA h' ∧ Ints h' v61 ce ∧ RowsZ h' Z' (cs 2) a2 ∧ RowsZ h' Z' (cs 3) a3 ∧ RetsZ h' Z' (cs 4) a4 ∧ RowsZ h' Z' (cs 5) a5 :=
  ⟨s.ex.below l fun j hj => hT j (by have := s.tl; omega), Sl.keepOn s.en fun j hj => hZ j (s.ez j hj), s.c2.to zz hZ, s.c3.to zz hZ, s.c4.to zz hZ, s.c5.to zz hZ⟩
theorem SmJ.exx {h' : AH} (s : SmJ hA h T pc b v61 ce v cs Z a0 a1 a2 a3 a4 a5 a6) (x : Ex h h') : SmJ hA h' T pc b v61 ce v cs Z a0 a1 a2 a3 a4 a5 a6 := by
  have hz : ∀ j, Z j → h'[j]? = h[j]? := fun j hj => x.get j (s.s.z j hj).2.1
  exact ⟨s.ex.trans x, s.tl, x.some s.box, s.s.ex x, Sl.ex s.en x, s.ez, s.c0, s.c1, s.c2.to (fun _ h => h) hz, s.c3.to (fun _ h => h) hz, s.c4.to (fun _ h => h) hz, s.c5.to (fun _ h => h) hz, s.c6⟩
theorem SmJ.addZ {h' : AH} {W : Nat → Prop} (s : SmJ hA h T pc b v61 ce v cs Z a0 a1 a2 a3 a4 a5 a6) (x : Ex h h') (hW : ∀ j, W j → h.length ≤ j ∧ j < h'.length) : SmJ hA h' T pc b v61 ce v cs (fun j => Z j ∨ W j) a0 a1 a2 a3 a4 a5 a6 := by
  have hz : ∀ j, Z j → h'[j]? = h[j]? := fun j hj => x.get j (s.s.z j hj).2.1
  exact ⟨s.ex.trans x, s.tl, x.some s.box, s.s.addZ x s.lt hW, Sl.ex s.en x, fun j hj => .inl (s.ez j hj), s.c0, s.c1, s.c2.to (fun _ h => .inl h) hz, s.c3.to (fun _ h => .inl h) hz, s.c4.to (fun _ h => .inl h) hz, s.c5.to (fun _ h => .inl h) hz, s.c6⟩
theorem SmJ.reset5 (s : SmJ hA h T pc b v61 ce v cs Z a0 a1 a2 a3 a4 a5 a6) : SmJ hA h T pc b v61 ce (updV v 5 (.slice none 0 0)) (updC cs 5 []) Z a0 a1 a2 a3 a4 [] a6 :=
  ⟨s.ex, s.tl, s.box, s.s.reset 5, s.en, s.ez, s.c0, s.c1, s.c2, s.c3, s.c4, RowsZ.nil _ _, s.c6⟩
theorem SmJ.reset6 (s : SmJ hA h T pc b v61 ce v cs Z a0 a1 a2 a3 a4 a5 a6) : SmJ hA h T pc b v61 ce (updV v 6 (.slice none 0 0)) (updC cs 6 []) Z a0 a1 a2 a3 a4 a5 [] :=
  ⟨s.ex, s.tl, s.box, s.s.reset 6, s.en, s.ez, s.c0, s.c1, s.c2, s.c3, s.c4, s.c5, rfl⟩
theorem SmJ.st {f : Nat} {b' : Nat → Value} {w : Value} {Q : Value → AH → Prop} (s : SmJ hA h T pc b v61 ce v cs Z a0 a1 a2 a3 a4 a5 a6) (hw : ∃ a n c, w = .slice a n c) (hf : f < 8)
    (hb : ([pc.1, pc.2, b 0, v61, b 1, b 2, b 3, b 4] : List Value).set f w = [pc.1, pc.2, b' 0, v61, b' 1, b' 2, b' 3, b' 4])
    (k : ∀ q h', h'.length = h.length → (∀ j, j ≠ T → h'[j]? = h[j]?) → SmJ hA h' T pc b' v61 ce v cs Z a0 a1 a2 a3 a4 a5 a6 → Q q h') :
    optW (pOff f (.pointer (some ⟨T, 0, none⟩))) fun q => optW (pStore 1 q w h) fun h' => Q q h' := by
  obtain ⟨a, n, c, rfl⟩ := hw
  refine w_offP (w_stP s.box (by show 0 + f < 8; omega) rfl rfl ?_)
  rw [Nat.zero_add]
  have kn : ∀ j, j ≠ T → (h.set T (.row (([pc.1, pc.2, b 0, v61, b 1, b 2, b 3, b 4] : List Value).set f (.slice a n c)) true))[j]? = h[j]? := fun j hj => get_ne (Ne.symm hj) _
  have hz : ∀ j, Z j → (h.set T (.row (([pc.1, pc.2, b 0, v61, b 1, b 2, b 3, b 4] : List Value).set f (.slice a n c)) true))[j]? = h[j]? := fun j hj => kn j (by have := (s.s.z j hj).1; omega)
  obtain ⟨y0, y1, y2, y3, y4, y5⟩ := s.after (h' := h.set T (.row (([pc.1, pc.2, b 0, v61, b 1, b 2, b 3, b 4] : List Value).set f (.slice a n c)) true)) (Z' := Z) (by rw [List.length_set]; exact Nat.le_refl _) (fun j hj => kn j (by omega)) hz fun _ h => h
  refine k _ _ List.length_set kn ⟨y0, s.tl, ?_, s.s.exT (by rw [List.length_set]; exact Nat.le_refl _) fun j hj _ => kn j (by omega), y1, s.ez, s.c0, s.c1, y2, y3, y4, y5, s.c6⟩
  rw [get_set _ s.lt, hb]
variable {z : Value} {r : Nat} {Q : List Value → Nat → AH → Value → AH → Prop}
theorem SmJ.app0 {x : Int} (s : SmJ hA h T pc b v61 ce v cs Z a0 a1 a2 a3 a4 a5 a6) (hT : T < r) (hr : h[r]? = some .dead) (hz : ¬ Z r) (hn : a0.length ≤ 1000)
    (k : ∀ c j h15 v' h', Bf T h h15 → Bf T h h' → h.length ≤ h'.length → (∃ a n c, v' = .slice a n c) → (∀ j, j ≠ r → h[j]? = some .dead → h'[j]? = some .dead) → SmJ hA h' T pc b v61 ce (updV v 0 v') (updC cs 0 (cs 0 ++ [.int .i64 x])) Z (a0 ++ [x]) a1 a2 a3 a4 a5 a6 → Q c j h15 v' h') :
    optW (bldSl 1 [z] 1 [(0, .int .i64 x)]) fun c => newW (some r) (.row c true) h fun j h15 => appSl 1 (v 0) (.slice (some ⟨j, 0, none⟩) 1 1) h15 fun v' h' => Q c j h15 v' h' := by
  refine s.s.appX (i := 0) (by decide) hT hr hz rfl rfl rfl (by rw [s.c0, flat_eI_len]; exact hn) fun c j h15 v' h' b15 s' sl l hTs hZs hd => ?_
  obtain ⟨x1, x2, x3, x4, x5, x6⟩ := s.after (Z' := Z) l (fun j hj => hTs j (by omega)) hZs fun _ h => h
  exact k _ _ _ _ _ b15 hTs l sl hd ⟨x1, s.tl, (hTs _ (Nat.le_refl _)).trans s.box, s', x2, s.ez, by show cs 0 ++ [_] = _; rw [s.c0, flat_append]; rfl, s.c1, x3, x4, x5, x6, s.c6⟩
theorem SmJ.app1 {x : Bool} (s : SmJ hA h T pc b v61 ce v cs Z a0 a1 a2 a3 a4 a5 a6) (hT : T < r) (hr : h[r]? = some .dead) (hz : ¬ Z r) (hn : a1.length ≤ 1000)
    (k : ∀ c j h15 v' h', Bf T h h15 → Bf T h h' → h.length ≤ h'.length → (∃ a n c, v' = .slice a n c) → (∀ j, j ≠ r → h[j]? = some .dead → h'[j]? = some .dead) → SmJ hA h' T pc b v61 ce (updV v 1 v') (updC cs 1 (cs 1 ++ [.bool x])) Z a0 (a1 ++ [x]) a2 a3 a4 a5 a6 → Q c j h15 v' h') :
    optW (bldSl 1 [z] 1 [(0, .bool x)]) fun c => newW (some r) (.row c true) h fun j h15 => appSl 1 (v 1) (.slice (some ⟨j, 0, none⟩) 1 1) h15 fun v' h' => Q c j h15 v' h' := by
  refine s.s.appX (i := 1) (by decide) hT hr hz rfl rfl rfl (by rw [s.c1, flat_eBo_len]; exact hn) fun c j h15 v' h' b15 s' sl l hTs hZs hd => ?_
  obtain ⟨x1, x2, x3, x4, x5, x6⟩ := s.after (Z' := Z) l (fun j hj => hTs j (by omega)) hZs fun _ h => h
  exact k _ _ _ _ _ b15 hTs l sl hd ⟨x1, s.tl, (hTs _ (Nat.le_refl _)).trans s.box, s', x2, s.ez, s.c0, by show cs 1 ++ [_] = _; rw [s.c1, flat_append]; rfl, x3, x4, x5, x6, s.c6⟩
theorem SmJ.app2 {w : Value} {l : List Int} (s : SmJ hA h T pc b v61 ce v cs Z a0 a1 a2 a3 a4 a5 a6) (hw : Ints h w l) (wz : ∀ j, onId w j → Z j) (hT : T < r) (hr : h[r]? = some .dead) (hz : ¬ Z r) (hn : a2.length ≤ 1000)
    (k : ∀ c j h15 v' h', Bf T h h15 → Bf T h h' → h.length ≤ h'.length → (∃ a n c, v' = .slice a n c) → (∀ j, j ≠ r → h[j]? = some .dead → h'[j]? = some .dead) → SmJ hA h' T pc b v61 ce (updV v 2 v') (updC cs 2 (cs 2 ++ [w])) Z a0 a1 (a2 ++ [l]) a3 a4 a5 a6 → Q c j h15 v' h') :
    optW (bldSl 1 [z] 1 [(0, w)]) fun c => newW (some r) (.row c true) h fun j h15 => appSl 1 (v 2) (.slice (some ⟨j, 0, none⟩) 1 1) h15 fun v' h' => Q c j h15 v' h' := by
  obtain ⟨a, n, cc, ew⟩ := Sl.isSl hw
  refine s.s.appX (i := 2) (by decide) hT hr hz rfl (by rw [ew]; rfl) (by rw [ew]; rfl) (by rw [s.c2.1]; exact hn) fun c j h15 v' h' b15 s' sl l hTs hZs hd => ?_
  obtain ⟨x1, x2, x3, x4, x5, x6⟩ := s.after (Z' := Z) l (fun j hj => hTs j (by omega)) hZs fun _ h => h
  exact k _ _ _ _ _ b15 hTs l sl hd ⟨x1, s.tl, (hTs _ (Nat.le_refl _)).trans s.box, s', x2, s.ez, s.c0, s.c1, x3.snoc (Sl.keepOn hw fun j hj => hZs j (wz j hj)) wz, x4, x5, x6, s.c6⟩
theorem SmJ.app3 {w : Value} {l : List Int} (s : SmJ hA h T pc b v61 ce v cs Z a0 a1 a2 a3 a4 a5 a6) (hw : Ints h w l) (wz : ∀ j, onId w j → Z j) (hT : T < r) (hr : h[r]? = some .dead) (hz : ¬ Z r) (hn : a3.length ≤ 1000)
    (k : ∀ c j h15 v' h', Bf T h h15 → Bf T h h' → h.length ≤ h'.length → (∃ a n c, v' = .slice a n c) → (∀ j, j ≠ r → h[j]? = some .dead → h'[j]? = some .dead) → SmJ hA h' T pc b v61 ce (updV v 3 v') (updC cs 3 (cs 3 ++ [w])) Z a0 a1 a2 (a3 ++ [l]) a4 a5 a6 → Q c j h15 v' h') :
    optW (bldSl 1 [z] 1 [(0, w)]) fun c => newW (some r) (.row c true) h fun j h15 => appSl 1 (v 3) (.slice (some ⟨j, 0, none⟩) 1 1) h15 fun v' h' => Q c j h15 v' h' := by
  obtain ⟨a, n, cc, ew⟩ := Sl.isSl hw
  refine s.s.appX (i := 3) (by decide) hT hr hz rfl (by rw [ew]; rfl) (by rw [ew]; rfl) (by rw [s.c3.1]; exact hn) fun c j h15 v' h' b15 s' sl l hTs hZs hd => ?_
  obtain ⟨x1, x2, x3, x4, x5, x6⟩ := s.after (Z' := Z) l (fun j hj => hTs j (by omega)) hZs fun _ h => h
  exact k _ _ _ _ _ b15 hTs l sl hd ⟨x1, s.tl, (hTs _ (Nat.le_refl _)).trans s.box, s', x2, s.ez, s.c0, s.c1, x3, x4.snoc (Sl.keepOn hw fun j hj => hZs j (wz j hj)) wz, x5, x6, s.c6⟩
variable {Q' : List Value → Nat → Value → AH → Prop}
theorem SmJ.app6 {x : Int} (s : SmJ hA h T pc b v61 ce v cs Z a0 a1 a2 a3 a4 a5 a6) (hn : a6.length ≤ 1000)
    (k : ∀ c j v' h', SmJ hA h' T pc b v61 ce (updV v 6 v') (updC cs 6 (cs 6 ++ [.int .i64 x])) Z a0 a1 a2 a3 a4 a5 (a6 ++ [x]) → Q' c j v' h') :
    optW (bldSl 1 [z] 1 [(0, .int .i64 x)]) fun c => newW (some h.length) (.row c true) (reserve 1 h) fun j h15 => appSl 1 (v 6) (.slice (some ⟨j, 0, none⟩) 1 1) h15 fun v' h' => Q' c j v' h' := by
  have sr := s.exx (Ex.res h)
  refine sr.s.app (i := 6) (by decide) s.lt (dead1 h) (fun hz => by have := (s.s.z _ hz).2.1; omega) rfl rfl rfl (by rw [s.c6, flat_eI_len]; exact hn) fun c j v' h' s' _ l hTs hZs => ?_
  obtain ⟨x1, x2, x3, x4, x5, x6⟩ := sr.after (Z' := Z) l (fun j hj => hTs j (by omega)) hZs fun _ h => h
  exact k _ _ _ _ ⟨x1, s.tl, (hTs _ (Nat.le_refl _)).trans sr.box, s', x2, s.ez, s.c0, s.c1, x3, x4, x5, x6, by show cs 6 ++ [_] = _; rw [s.c6, flat_append]; rfl⟩
theorem SmJ.app5 (s : SmJ hA h T pc b v61 ce v cs Z a0 a1 a2 a3 a4 a5 a6) (hn : a5.length ≤ 1000)
    (k : ∀ c j v' h' Z' V C, V 5 = v' → V 0 = v 0 → V 1 = v 1 → V 2 = v 2 → V 3 = v 3 → V 4 = v 4 → SmJ hA h' T pc b v61 ce V C Z' a0 a1 a2 a3 a4 (a5 ++ [a6]) [] → Q' c j v' h') :
    optW (bldSl 1 [z] 1 [(0, v 6)]) fun c => newW none (.row c true) h fun j h15 => appSl 1 (v 5) (.slice (some ⟨j, 0, none⟩) 1 1) h15 fun v' h' => Q' c j v' h' := by
  have sr := s.exx (Ex.res h)
  have i6 : Ints (reserve 1 h) (v 6) a6 := by
    have := (sr.s.sl.own 6 (by decide)).sl
    rw [s.c6] at this
    unfold Ints SlT
    rw [flat_eI_len] at this
    exact this
  obtain ⟨ad, nd, cd, ev⟩ := Sl.isSl i6
  have sf := sr.s.freeze 6 (by decide)
  have key := sf.app (i := 5) (r := h.length) (z := z) (x := v 6) (w := v 5) (Q := Q') (by decide) s.lt (dead1 h) (fun hz => by
      rcases hz with hz | hz
      · have := (s.s.z _ hz).2.1; omega
      · have := (s.s.sl.on (by decide) hz).2; omega) rfl (by rw [ev]; rfl) (by rw [ev]; rfl) (by show (cs 5).length ≤ 1000; rw [s.c5.1]; exact hn) fun c j v' h' s' _ l hTs hZs => by
    obtain ⟨x1, x2, x3, x4, x5, x6⟩ := sr.after (Z' := fun j => Z j ∨ onId (v 6) j) l (fun j hj => hTs j (by omega)) (fun j hj => hZs j (.inl hj)) fun _ h => .inl h
    refine k c j v' h' (fun j => Z j ∨ onId (v 6) j) (updV (updV v 6 (.slice none 0 0)) 5 v') (updC (updC cs 6 []) 5 (updC cs 6 [] 5 ++ [v 6])) rfl rfl rfl rfl rfl rfl ⟨x1, s.tl, (hTs _ (Nat.le_refl _)).trans sr.box, s', x2, fun j hj => .inl (s.ez j hj), s.c0, s.c1, x3, x4, x5, ?_, rfl⟩
    exact x6.snoc (Sl.keepOn i6 fun j hj => hZs j (.inr hj)) fun j hj => .inr hj
  exact optW_mono (fun c hc => n_unres hc) key
theorem SmJ.app4 (s : SmJ hA h T pc b v61 ce v cs Z a0 a1 a2 a3 a4 a5 a6) (hn : a4.length ≤ 1000)
    (k : ∀ c j v' h' Z' V C, V 4 = v' → V 0 = v 0 → V 1 = v 1 → V 2 = v 2 → V 3 = v 3 → (∃ a n c, v' = .slice a n c) → SmJ hA h' T pc b v61 ce V C Z' a0 a1 a2 a3 (a4 ++ [a5]) [] a6 → Q' c j v' h') :
    optW (bldSl 1 [z] 1 [(0, v 5)]) fun c => newW none (.row c true) h fun j h15 => appSl 1 (v 4) (.slice (some ⟨j, 0, none⟩) 1 1) h15 fun v' h' => Q' c j v' h' := by
  have sr := s.exx (Ex.res h)
  have i5 : Sl 1 (reserve 1 h) (v 5) a5.length (cs 5) := by
    have := (sr.s.sl.own 5 (by decide)).sl
    rw [s.c5.1] at this
    exact this
  obtain ⟨ad, nd, cd, ev⟩ := Sl.isSl i5
  have sf := sr.s.freeze 5 (by decide)
  have key := sf.app (i := 4) (r := h.length) (z := z) (x := v 5) (w := v 4) (Q := Q') (by decide) s.lt (dead1 h) (fun hz => by
      rcases hz with hz | hz
      · have := (s.s.z _ hz).2.1; omega
      · have := (s.s.sl.on (by decide) hz).2; omega) rfl (by rw [ev]; rfl) (by rw [ev]; rfl) (by show (cs 4).length ≤ 1000; rw [s.c4.1]; exact hn) fun c j v' h' s' sl l hTs hZs => by
    obtain ⟨x1, x2, x3, x4, x5, x6⟩ := sr.after (Z' := fun j => Z j ∨ onId (v 5) j) l (fun j hj => hTs j (by omega)) (fun j hj => hZs j (.inl hj)) fun _ h => .inl h
    refine k c j v' h' (fun j => Z j ∨ onId (v 5) j) (updV (updV v 5 (.slice none 0 0)) 4 v') (updC (updC cs 5 []) 4 (updC cs 5 [] 4 ++ [v 5])) rfl rfl rfl rfl rfl sl ⟨x1, s.tl, (hTs _ (Nat.le_refl _)).trans sr.box, s', x2, fun j hj => .inl (s.ez j hj), s.c0, s.c1, x3, x4, ?_, RowsZ.nil _ _, s.c6⟩
    exact x5.snoc (Sl.keepOn i5 fun j hj => hZs j (.inr hj)) (fun j hj => .inr hj) x6
  exact optW_mono (fun c hc => n_unres hc) key
end
end Go.Proofs.Ytnpbehfhncbjfaa.W
end
