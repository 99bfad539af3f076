/- Parts of a proof, joined by a program. Conditions: none. -/
import Derived.Test.YtnpbehfhncbjfaaRB2
import Derived.Test.YtnpbehfhncbjfaaRS0
import Derived.Test.YtnpbehfhncbjfaaRA2

section
/- Fold's laws: the code's Small. Conditions: none. -/
namespace Go.Proofs.Ytnpbehfhncbjfaa.W
open Go Go.AM FoldPM
set_option linter.unusedVariables false
set_option maxRecDepth 100000

theorem Valid.inEl {m : Mo} (v : Valid m) {p : Nat} (hp : p < m.pm.n) {l : List Int} (hl : m.In[p]? = some l) : l.length ≤ 20 ∧ ∀ x ∈ l, 0 ≤ x ∧ x.toNat < m.pm.n := by
  have h := (v.st p hp).1 _ l (v.ofAt hp) hl
  refine ⟨by have := h.1; have := v.pl.2; omega, fun x hx => ?_⟩
  obtain ⟨i, hi⟩ := List.getElem?_of_mem hx
  have g := h.2 i x hi
  exact ⟨g.1, by show x.toNat < m.Of.length; have := g.1; have := g.2.1; omega⟩
theorem Valid.lowEl {m : Mo} (v : Valid m) {p : Nat} (hp : p < m.pm.n) {l : List Int} (hl : m.Low[p]? = some l) : l.length ≤ 20 ∧ ∀ x ∈ l, 0 ≤ x ∧ x.toNat < m.pm.n := by
  obtain ⟨lo, re, h1, h2, hc⟩ := v.rows hp
  rw [hl] at h1
  cases h1
  have h := hc _ l re (v.ofAt hp) hl h2
  by_cases h0 : m.pm.of p = 0
  · have h := (h.1 h0).2
    refine ⟨by have := h.1; have := v.cl.2; omega, fun x hx => ?_⟩
    obtain ⟨i, hi⟩ := List.getElem?_of_mem hx
    have g := h.2 i x hi
    exact ⟨g.1, by show x.toNat < m.Of.length; have := g.1; have := g.2.1; omega⟩
  · have := List.eq_nil_of_length_eq_zero (h.2 h0).1
    subst this
    exact ⟨Nat.zero_le _, fun x hx => by cases hx⟩
theorem Valid.enEl {m : Mo} (v : Valid m) : m.En.length ≤ 21 ∧ ∀ x ∈ m.En, 0 ≤ x ∧ x.toNat < m.pm.n := by
  refine ⟨by have := v.k2; omega, fun x hx => ?_⟩
  obtain ⟨i, hi⟩ := List.getElem?_of_mem hx
  have g := v.en i x hi
  exact ⟨g.1, by show x.toNat < m.Of.length; have := g.1; have := g.2.1; omega⟩
theorem Valid.retEl {m : Mo} (v : Valid m) {p : Nat} (hp : p < m.pm.n) {r : List (List Int)} (hr : m.Ret[p]? = some r) : r.length ≤ 20 ∧ ∀ l ∈ r, l.length = m.pm.n ∧ ∀ x ∈ l, 0 ≤ x ∧ x.toNat < m.pm.n := by
  obtain ⟨lo, re, h1, h2, hc⟩ := v.rows hp
  rw [hr] at h2
  cases h2
  have h := hc _ lo r (v.ofAt hp) h1 hr
  by_cases h0 : m.pm.of p = 0
  · have := List.eq_nil_of_length_eq_zero (h.1 h0).1
    subst this
    exact ⟨Nat.zero_le _, fun x hx => by cases hx⟩
  · have h := (h.2 h0).2
    refine ⟨by have := h.1; have := v.cl.2; omega, fun l hl => ?_⟩
    obtain ⟨j, hj⟩ := List.getElem?_of_mem hl
    have g := h.2 j l hj
    refine ⟨g.1, fun x hx => ?_⟩
    obtain ⟨i, hi⟩ := List.getElem?_of_mem hx
    obtain ⟨c, _, gx⟩ := g.2 i x hi
    exact ⟨gx.1, by show x.toNat < m.Of.length; have := gx.1; have := gx.2.1; omega⟩

theorem Part.keep {h h' : AH} {X C : Nat} {u : MoV} {m : Mo} {vis vc : Value} {c : List Int} {cnt : Nat} (p : Part h X C u m vis vc c cnt) (hX : h'[X]? = h[X]?) (hC : h'[C]? = h[C]?) : Part h' X C u m vis vc c cnt :=
  ⟨hX.trans p.row, p.cls.mono (fun _ _ h => h) fun j hj hf => by have : j = C := hf; rw [this]; exact hC, p.ne⟩

theorem lr1 (h : AH) : (reserve 1 h).length = h.length + 1 := by rw [reserve_one]; simp

theorem small18 {h : AH} {u : MoV} {m : Mo} {K : Value → AH → Prop} (mh : MoH h u m) (v : Valid m)
    (k : ∀ h' u' c cnt f, Ex h h' → Canon m.pm.n (Rch m.pm) (EE m.pm) c cnt → (∀ d, d < cnt → Fst c d (f d) ∧ f d < m.pm.n) → MoH h' u' (sm m c cnt f) → K (.tuple #[.agg (moRow u' (sm m c cnt f)).toArray, .int .i64 0]) h') : callW Try.prog 18 [.agg (moRow u m).toArray] h K := by
  have ok := v.ok
  have n1 := ok.n1
  have n2 := v.n2
  have hnn : m.pm.n = m.Of.length := rfl
  have hn60 : m.pm.n ≤ 60 := by omega
  refine c18 ?_
  unfold s18
  refine n_boxv rfl fun h1 x1 l1 g1 => n_rowv fun h2 x2 l2 g2 => ?_
  have g1' : h1[h.length]? = some (.row (moRow u m) true) := g1
  have gb2 := x2.some g1'
  refine w_rdPA gb2 (Nat.le_refl 8) ?_
  refine check15 (mh.ex (x1.trans x2)) (fun nv => absurd v nv) fun _ h3 x3 => w_neq (c_ff (by decide) ?_)
  have x03 := (x1.trans x2).trans x3
  have gb3 := x3.some gb2
  have gR3 := x3.some g2
  refine w_rdPA gb3 (Nat.le_refl 8) ?_
  refine classes38 v (mh.ex x03) fun h5 X C vis vc c cnt x5 hX hC lC Pa Ca => ?_
  have lX := lt_of_get Pa.row
  have hcl := Ca.len
  have cn := Ca.le
  refine n_var rfl rfl rfl fun h7 x7 l7 g7 => ?_
  have gP : h7[h5.length]? = some (.row [.pointer (some ⟨X, 0, none⟩)] true) := g7
  have Pa7 := Pa.ex x7
  refine w_rdP gP rfl (w_nilc (w_offP (w_rdP Pa7.row (v := .int .i64 (cnt : Nat)) rfl ?_)))
  refine w_mk1 (by decide) (by omega) ?_
  refine n_newv fun h8 x8 l8 g8 => ?_
  have gF8 : h8[h7.length]? = some (.row (flat eI (List.replicate cnt 0)) true) := by rw [← repL_zero]; exact g8
  have x58 := x7.trans x8
  have x08 := x03.trans (x5.trans x58)
  have gb8 := (x5.trans x58).some gb3
  have gR8 := (x5.trans x58).some gR3
  have gP8 := x8.some gP
  have Pa8 := Pa7.ex x8
  have m8 := mh.ex x08
  refine w_offP (w_rdP gb8 (v := sv u.vo) rfl (w_len m8.of (w_sub (by omega) (by omega) ?_)))
  -- the first states
  refine loopE_intro (fun mm e h' => ∃ (i : Nat) (fl : List Int), i ≤ m.pm.n ∧ mm = i ∧ e 1 = .pointer (some ⟨h.length, 0, none⟩) ∧ e 2 = .pointer (some ⟨h1.length, 0, none⟩) ∧ e 5 = .pointer (some ⟨h5.length, 0, none⟩) ∧ e 6 = .slice (some ⟨h7.length, 0, none⟩) cnt cnt ∧ e 7 = .int .i64 ((i : Int) - 1) ∧
      Exx h7.length h8 h' ∧ h'[h7.length]? = some (.row (flat eI fl) true) ∧ fl.length = cnt ∧ ∀ d, d < cnt → (∃ q : Nat, i ≤ q ∧ c[q]? = some (d : Int)) → ∃ p0 : Nat, fl[d]? = some (p0 : Int) ∧ i ≤ p0 ∧ c[p0]? = some (d : Int) ∧ ∀ q : Nat, i ≤ q → q < p0 → c[q]? ≠ some (d : Int)) m.pm.n
    ⟨m.pm.n, _, Nat.le_refl _, rfl, rfl, rfl, rfl, rfl, rfl, Exx.refl _ _, gF8, List.length_replicate, fun d hd ⟨q, h1, h2⟩ => by have := (List.getElem?_eq_some_iff.1 h2).1; omega⟩ ?_
  rintro J mm e hA ⟨i, fl, hi, hmm, e1, e2, e5, e6, e7, xA, gF, lfl, hfl⟩ ih
  rw [e7, e5, e6, e1]
  have nF : ∀ j, j ≤ h7.length → j ≠ h7.length → hA[j]? = h8[j]? := fun j hj hne => xA.get j (by omega) hne
  have gPA : hA[h5.length]? = some (.row [.pointer (some ⟨X, 0, none⟩)] true) := xA.some gP8 (by omega)
  have PaA : Part hA X C u m vis vc c cnt := Pa8.keep (nF _ (by omega) (by omega)) (nF _ (by omega) (by omega))
  refine w_geq (c_dec (fun q => ?_) (fun q => ?_))
  · obtain ⟨p, rfl⟩ : ∃ p, i = p + 1 := ⟨i - 1, by omega⟩
    have ep : (((p + 1 : Nat) : Int)) - 1 = ((p : Nat) : Int) := by omega
    rw [ep]
    refine w_rdP gPA rfl (w_nilc (w_offP (w_rdP PaA.row (v := vc) rfl ?_)))
    obtain ⟨x, hx⟩ := getElem?_of_lt (l := c) (i := p) (by omega)
    refine w_idxN eI_len PaA.cls.sl hx fun z hz => w_rd1 hz rfl (w_geq (c_dec (fun q1 => ?_) (fun q1 => ?_)))
    · have rp : Rch m.pm p := by
        by_cases r : Rch m.pm p
        · exact r
        · have := Ca.un p (by omega) r
          rw [hx] at this
          cases this
          omega
      obtain ⟨d, hd, hdx⟩ := Ca.re p (by omega) rp
      rw [hx] at hdx
      cases hdx
      refine w_ix hd (w_stP gF (by rw [flat_eI_len]; omega) rfl rfl ?_)
      rw [flat_eI_set]
      refine w_sub (by omega) (by omega) ?_
      refine ih p _ _ (by omega) ⟨p, fl.set d (p : Int), by omega, rfl, e1, e2, e5, e6, rfl, xA.set _, get_set _ (lt_of_get gF) _, by rw [List.length_set]; exact lfl, fun d' hd' ⟨q, h1, h2⟩ => ?_⟩
      by_cases ed : d' = d
      · subst ed
        exact ⟨p, List.getElem?_set_self (by omega), Nat.le_refl _, hx, fun q' h3 h4 => by omega⟩
      · have hq : q ≠ p := fun e => by
          subst e
          rw [hx] at h2
          injection h2 with h2
          omega
        obtain ⟨p0, a1, a2, a3, a4⟩ := hfl d' hd' ⟨q, by omega, h2⟩
        refine ⟨p0, by rw [List.getElem?_set_ne (Ne.symm ed)]; exact a1, by omega, a3, fun q' h3 h4 => ?_⟩
        by_cases eq : q' = p
        · subst eq
          rw [hx]
          intro hh
          injection hh with hh
          omega
        · exact a4 q' (by omega) h4
    · refine w_sub (by omega) (by omega) ?_
      refine ih p _ _ (by omega) ⟨p, fl, by omega, rfl, e1, e2, e5, e6, rfl, xA, gF, lfl, fun d' hd' ⟨q, h1, h2⟩ => ?_⟩
      have hq : q ≠ p := fun e => by
        subst e
        rw [hx] at h2
        injection h2 with h2
        omega
      obtain ⟨p0, a1, a2, a3, a4⟩ := hfl d' hd' ⟨q, by omega, h2⟩
      refine ⟨p0, a1, by omega, a3, fun q' h3 h4 => ?_⟩
      by_cases eq : q' = p
      · subst eq
        rw [hx]
        intro hh
        injection hh with hh
        omega
      · exact a4 q' (by omega) h4
  · obtain ⟨f, hf⟩ : ∃ f : Nat → Nat, ∀ d, d < cnt → fl[d]? = some ((f d : Nat) : Int) ∧ Fst c d (f d) ∧ f d < m.pm.n := by
      refine ⟨fun d => (fl.getD d 0).toNat, fun d hd => ?_⟩
      obtain ⟨p, hp, hpd⟩ := Ca.all d hd
      obtain ⟨p0, a1, a2, a3, a4⟩ := hfl d hd ⟨p, by omega, hpd⟩
      have e : (fl.getD d 0).toNat = p0 := by rw [getD_some a1]; rfl
      dsimp only
      rw [e]
      exact ⟨a1, ⟨a3, fun q hq => a4 q (by omega) hq⟩, by have := (List.getElem?_eq_some_iff.1 a3).1; omega⟩
    clear ih hfl
    have xA8 : Ex h5 hA := Exx.base x58 xA (by have := x7.len; omega)
    have x0A : Ex h hA := (x03.trans x5).trans xA8
    have gbA : hA[h.length]? = some (.row (moRow u m) true) := (x5.trans xA8).some gb3
    have gRA : hA[h1.length]? = some (.row z8 true) := (x5.trans xA8).some gR3
    have mA := mh.ex x0A
    have lA := xA.len
    have lF := lt_of_get gF
    have xr := Ex.res hA
    have lr : (reserve 1 hA).length = hA.length + 1 := by rw [reserve_one]; simp
    refine w_offP (w_rdP (xr.some gbA) (v := .int .i64 m.pl) rfl (w_offP (w_rdP (xr.some gbA) (v := .int .i64 m.cl) rfl (w_offP (w_rdP (xr.some gbA) (v := sv u.ve) rfl ?_)))))
    refine to39 (mA.ex xr).en (by have := v.enEl.1; omega) (xr.some gPA) (PaA.ex xr) (fun x hx => by have := v.enEl.2 x hx; rw [hcl]; exact this) fun v61 h11 x11 i61 on61 => ?_
    obtain ⟨a61, n61, c61, rfl⟩ := Sl.isSl i61
    refine ⟨ptr_id (x11.get _ (by have := lt_of_get gbA; omega)), ptr_id (x11.get _ (by have := lt_of_get gbA; omega)), ?_⟩
    refine w_some (v := .agg #[.int .i64 m.pl, .int .i64 m.cl, .slice none 0 0, .slice a61 n61 c61, .slice none 0 0, .slice none 0 0, .slice none 0 0, .slice none 0 0]) rfl ?_
    have gd : (reserve 1 hA)[hA.length]? = some .dead := by rw [reserve_one]; exact get_new _ _
    refine n_slot ?_
    have lT := lt_of_get (x11.some gd)
    refine w_stPA (get_set _ lT _) rfl (Nat.le_refl 8) rfl ?_
    have gT : ((h11.set hA.length (.row [(.int .i64 0), (.int .i64 0), (.slice none 0 0), (.slice none 0 0), (.slice none 0 0), (.slice none 0 0), (.slice none 0 0), (.slice none 0 0)] true)).set hA.length (.row (spliceL [(.int .i64 0), (.int .i64 0), (.slice none 0 0), (.slice none 0 0), (.slice none 0 0), (.slice none 0 0), (.slice none 0 0), (.slice none 0 0)] 0 (cellsL (.agg #[.int .i64 m.pl, .int .i64 m.cl, .slice none 0 0, .slice a61 n61 c61, .slice none 0 0, .slice none 0 0, .slice none 0 0, .slice none 0 0]))) true))[hA.length]? = some (.row [.int .i64 m.pl, .int .i64 m.cl, .slice none 0 0, .slice a61 n61 c61, .slice none 0 0, .slice none 0 0, .slice none 0 0, .slice none 0 0] true) := get_set _ (by rw [List.length_set]; exact lT) _
    have xT : Ex hA ((h11.set hA.length (.row [(.int .i64 0), (.int .i64 0), (.slice none 0 0), (.slice none 0 0), (.slice none 0 0), (.slice none 0 0), (.slice none 0 0), (.slice none 0 0)] true)).set hA.length (.row (spliceL [(.int .i64 0), (.int .i64 0), (.slice none 0 0), (.slice none 0 0), (.slice none 0 0), (.slice none 0 0), (.slice none 0 0), (.slice none 0 0)] 0 (cellsL (.agg #[.int .i64 m.pl, .int .i64 m.cl, .slice none 0 0, .slice a61 n61 c61, .slice none 0 0, .slice none 0 0, .slice none 0 0, .slice none 0 0]))) true)) := ((xr.trans x11).set (Nat.le_refl _) _).set (Nat.le_refl _) _
    have kT : ∀ j, j ≠ hA.length → ((h11.set hA.length (.row [(.int .i64 0), (.int .i64 0), (.slice none 0 0), (.slice none 0 0), (.slice none 0 0), (.slice none 0 0), (.slice none 0 0), (.slice none 0 0)] true)).set hA.length (.row (spliceL [(.int .i64 0), (.int .i64 0), (.slice none 0 0), (.slice none 0 0), (.slice none 0 0), (.slice none 0 0), (.slice none 0 0), (.slice none 0 0)] 0 (cellsL (.agg #[.int .i64 m.pl, .int .i64 m.cl, .slice none 0 0, .slice a61 n61 c61, .slice none 0 0, .slice none 0 0, .slice none 0 0, .slice none 0 0]))) true))[j]? = h11[j]? := fun j hj => (get_ne (Ne.symm hj) _).trans (get_ne (Ne.symm hj) _)
    have lTT : ((h11.set hA.length (.row [(.int .i64 0), (.int .i64 0), (.slice none 0 0), (.slice none 0 0), (.slice none 0 0), (.slice none 0 0), (.slice none 0 0), (.slice none 0 0)] true)).set hA.length (.row (spliceL [(.int .i64 0), (.int .i64 0), (.slice none 0 0), (.slice none 0 0), (.slice none 0 0), (.slice none 0 0), (.slice none 0 0), (.slice none 0 0)] 0 (cellsL (.agg #[.int .i64 m.pl, .int .i64 m.cl, .slice none 0 0, .slice a61 n61 c61, .slice none 0 0, .slice none 0 0, .slice none 0 0, .slice none 0 0]))) true)).length = h11.length := by rw [List.length_set, List.length_set]
    generalize (h11.set hA.length (.row [(.int .i64 0), (.int .i64 0), (.slice none 0 0), (.slice none 0 0), (.slice none 0 0), (.slice none 0 0), (.slice none 0 0), (.slice none 0 0)] true)).set hA.length (.row (spliceL [(.int .i64 0), (.int .i64 0), (.slice none 0 0), (.slice none 0 0), (.slice none 0 0), (.slice none 0 0), (.slice none 0 0), (.slice none 0 0)] 0 (cellsL (.agg #[.int .i64 m.pl, .int .i64 m.cl, .slice none 0 0, .slice a61 n61 c61, .slice none 0 0, .slice none 0 0, .slice none 0 0, .slice none 0 0]))) true) = hT at gT xT kT lTT ⊢
    let v61 : Value := .slice a61 n61 c61
    have S0 : SmI hA hT hA.length (.int .i64 m.pl, .int .i64 m.cl) (.slice a61 n61 c61) (m.En.map (cOf c)) wnil (fun _ => []) (fun j => onId (.slice a61 n61 c61) j) [] [] [] [] [] [] [] :=
      ⟨xT, rfl, gT, ⟨SL.nil _ _, fun j hj => ⟨by have := (on61 j hj).1; omega, by rw [lTT]; exact (on61 j hj).2, fun _ _ hh => hh.elim⟩⟩, Sl.keepOn i61 fun j hj => kT j (by have := (on61 j hj).1; omega), fun j hj => hj, rfl, rfl, RowsZ.nil _ _, RowsZ.nil _ _, RetsZ.nil _ _, RowsZ.nil _ _, rfl⟩
    refine w_lenSl ?_
    refine loopE_intro (fun mm e' h' => ∃ (d : Nat) (vv : Nat → Value) (cs : Nat → List Value) (Z : Nat → Prop) (a5 : List (List Int)) (a6 : List Int), d ≤ cnt ∧ mm = cnt - d ∧ e' 1 = .pointer (some ⟨h.length, 0, none⟩) ∧ e' 2 = .pointer (some ⟨h1.length, 0, none⟩) ∧ e' 5 = .pointer (some ⟨h5.length, 0, none⟩) ∧ e' 6 = .slice (some ⟨h7.length, 0, none⟩) cnt cnt ∧
        e' 9 = .func (.func 39) #[] #[.pointer (some ⟨h5.length, 0, none⟩)] ∧ e' 10 = .pointer (some ⟨hA.length, 0, none⟩) ∧ e' 63 = .slice (some ⟨h7.length, 0, none⟩) cnt cnt ∧ e' 64 = .int .i64 (cnt : Nat) ∧ e' 65 = .int .i64 (d : Nat) ∧
        SmI hA h' hA.length (.int .i64 m.pl, .int .i64 m.cl) (.slice a61 n61 c61) (m.En.map (cOf c)) vv cs Z (smOf m f d) (smFi m f d) (smIn m c f d) (smLow m c f d) (smRet m c cnt f d) a5 a6) cnt
      ⟨0, wnil, fun _ => [], _, [], [], Nat.zero_le _, rfl, e1, e2, e5, e6, rfl, rfl, rfl, rfl, rfl, S0⟩ ?_
    clear e1 e2 e5 e6 e7 hmm q hi S0 gT xT kT lTT lT x11 on61 i61 gd
    clear e mm J i hT h11
    rintro J mm e h14 ⟨d, vv, cs, Z, a5, a6, hd, hmm, e1, e2, e5, e6, e9, e10, e63, e64, e65, S⟩ ih
    rw [e63, e64, e65, e10, e1, e9]
    have slF : ∀ {h' : AH}, Ex hA h' → Ints h' (.slice (some ⟨h7.length, 0, none⟩) cnt cnt) fl := fun x => slI (x.some gF) lfl (by omega)
    refine w_lss (c_dec (fun q => ?_) (fun q => ?_))
    · have hdc : d < cnt := by omega
      obtain ⟨fd, fst, fdn⟩ := hf d hdc
      obtain ⟨li, hli⟩ := getElem?_of_lt (l := m.In) (i := f d) (by have := v.li; show f d < m.In.length; rw [this]; exact fdn)
      obtain ⟨lo, hlo⟩ := getElem?_of_lt (l := m.Low) (i := f d) (by have := v.ll; show f d < m.Low.length; rw [this]; exact fdn)
      obtain ⟨re, hre⟩ := getElem?_of_lt (l := m.Ret) (i := f d) (by have := v.lr; show f d < m.Ret.length; rw [this]; exact fdn)
      refine w_idxN eI_len (slF S.ex) fd fun z hz => w_rd1 hz rfl ?_
      -- its module
      have dd : ∀ (h : AH), (reserve 1 h)[h.length]? = some .dead := fun h => by rw [reserve_one]; exact get_new _ _
      have S1 := S.exx (Ex.res h14)
      have bA1 := S1.ex.some gbA
      have nz : ∀ {h : AH} {vv : Nat → Value} {cs : Nat → List Value} {Z : Nat → Prop}, SMs h hA.length vv cs Z → ¬ Z h.length := fun s hz => by have := (s.z _ hz).2.1; omega
      refine w_offP (w_rdP S1.box rfl (w_offP (w_rdP bA1 (v := sv u.vo) rfl (w_idxN eI_len (mA.ex S1.ex).of (v.ofAt fdn) fun z hz => w_rd1 hz rfl ?_))))
      refine S1.app0 S.lt (dd h14) (nz S.s) (by unfold smOf; simp; omega) fun c1 j1 v1 q1 h17 l17 S2 => ?_
      -- is it final
      have S3 := S2.exx (Ex.res h17)
      refine w_offP (w_rdP S3.box rfl (w_offP (w_rdP (S3.ex.some gbA) (v := sv u.vf) rfl (w_idxN eBo_len (mA.ex S3.ex).fi (v.fiAt fdn) fun z hz => w_rd1 hz rfl ?_))))
      refine S3.app1 S2.lt (dd h17) (nz S2.s) (by unfold smFi; simp; omega) fun c2 j2 v2 q2 h20 l20 S4 => ?_
      -- by plain symbols
      have S5 := S4.exx (Ex.res h20)
      obtain ⟨vin, sin, rin⟩ := (mA.ex S5.ex).inn
      obtain ⟨win, hwin, iin⟩ := rin _ li hli
      refine w_offP (w_rdP S5.box rfl (w_offP (w_rdP (S5.ex.some gbA) (v := sv u.vi) rfl (idxV sin hwin fun z hz => w_rd1 hz rfl ?_))))
      have eln := v.inEl fdn hli
      refine to39 iin (by omega) (S5.ex.some gPA) (PaA.ex S5.ex) (fun x hx => by have := eln.2 x hx; rw [hcl]; exact this) fun w97 h21 x21 i97 on97 => ?_
      refine ⟨ptr_id (x21.get _ (by have := S5.lt; exact this)), ?_⟩
      have S6 := S5.addZ x21 on97
      refine S6.app2 i97 (fun j hj => .inr hj) S4.lt (x21.some (dd h20)) (fun hz => hz.elim (nz S4.s) fun hh => by have := (on97 _ hh).1; rw [lr1] at this; omega) (by unfold smIn; simp; omega) fun c3 j3 v3 q3 h24 l24 S7 => ?_
      -- by symbols that close
      have S8 := S7.exx (Ex.res h24)
      obtain ⟨vlo, slo, rlo⟩ := (mA.ex S8.ex).low
      obtain ⟨wlo, hwlo, ilo⟩ := rlo _ lo hlo
      refine w_offP (w_rdP S8.box rfl (w_offP (w_rdP (S8.ex.some gbA) (v := sv u.vl) rfl (idxV slo hwlo fun z hz => w_rd1 hz rfl ?_))))
      have ell := v.lowEl fdn hlo
      refine to39 ilo (by omega) (S8.ex.some gPA) (PaA.ex S8.ex) (fun x hx => by have := ell.2 x hx; rw [hcl]; exact this) fun w109 h25 x25 i109 on109 => ?_
      refine ⟨ptr_id (x25.get _ (by have := S8.lt; exact this)), ?_⟩
      have S9 := S8.addZ x25 on109
      refine S9.app3 i109 (fun j hj => .inr hj) S7.lt (x25.some (dd h24)) (fun hz => hz.elim (nz S7.s) fun hh => by have := (on109 _ hh).1; rw [lr1] at this; omega) (by unfold smLow; simp; omega) fun c4 j4 v4 q4 h28 l28 S10 => ?_
      -- what comes back
      have elr := v.retEl fdn hre
      have elr1 := elr.1
      obtain ⟨vre, sre, rre⟩ := mA.ret
      obtain ⟨wre, hwre, vsr, svr, rvr⟩ := rre _ re hre
      refine w_offP (w_rdP (S10.ex.some gbA) (v := sv u.vr) rfl (idxV (sre.ex S10.ex) hwre fun z hz => w_rd1 hz rfl (w_len svr ?_)))
      have S11 := S10.reset5
      have t0 : smOf m f (d + 1) = smOf m f d ++ [m.pm.of (f d)] := range_succ _ d
      have t1 : smFi m f (d + 1) = smFi m f d ++ [m.pm.fi (f d)] := range_succ _ d
      have t2 : smIn m c f (d + 1) = smIn m c f d ++ [li.map (cOf c)] := by
        have : (m.In.getD (f d) []) = li := getD_of hli
        rw [← this]; exact range_succ _ d
      have t3 : smLow m c f (d + 1) = smLow m c f d ++ [lo.map (cOf c)] := by
        have : (m.Low.getD (f d) []) = lo := getD_of hlo
        rw [← this]; exact range_succ _ d
      rw [← t0, ← t1, ← t2, ← t3] at S11
      refine loopE_intro (fun mm e' h' => ∃ (j : Nat) (vv : Nat → Value) (cs : Nat → List Value) (Z : Nat → Prop) (a6 : List Int), j ≤ re.length ∧ mm = re.length - j ∧ e' 1 = .pointer (some ⟨h.length, 0, none⟩) ∧ e' 2 = .pointer (some ⟨h1.length, 0, none⟩) ∧ e' 5 = .pointer (some ⟨h5.length, 0, none⟩) ∧ e' 6 = .slice (some ⟨h7.length, 0, none⟩) cnt cnt ∧
          e' 9 = .func (.func 39) #[] #[.pointer (some ⟨h5.length, 0, none⟩)] ∧ e' 10 = .pointer (some ⟨hA.length, 0, none⟩) ∧ e' 63 = .slice (some ⟨h7.length, 0, none⟩) cnt cnt ∧ e' 64 = .int .i64 (cnt : Nat) ∧ e' 65 = .int .i64 (d : Nat) ∧ e' 13 = vv 5 ∧ e' 117 = wre ∧ e' 118 = .int .i64 (re.length : Nat) ∧ e' 119 = .int .i64 (j : Nat) ∧
          SmI hA h' hA.length (.int .i64 m.pl, .int .i64 m.cl) (.slice a61 n61 c61) (m.En.map (cOf c)) vv cs Z (smOf m f (d + 1)) (smFi m f (d + 1)) (smIn m c f (d + 1)) (smLow m c f (d + 1)) (smRet m c cnt f d) ((re.take j).map fun l => smRow c f l cnt) a6) re.length
        ⟨0, _, _, _, a6, Nat.zero_le _, rfl, e1, e2, e5, e6, e9, e10, e63, e64, e65, ?_, rfl, rfl, rfl, S11⟩ ?_
      · exact rfl
      clear S11
      have S10ex := S10.ex
      clear S10 S9 S8 S7 S6 S5 S4 S3 S2 S1 S hz x25 on109 ilo hwlo rlo slo x21 on97 iin hwin rin sin bA1 l28 l24 l20 l17 i109 i97
      clear e1 e2 e5 e6 e9 e10 e63 e64 e65 q
      rintro I2 mm2 e2v h29 ⟨j, vv2, cs2, Z2, a62, hj, hmm2, f1, f2, f5, f6, f9, f10, f63, f64, f65, f13, f117, f118, f119, T0⟩ ih2
      rw [f117, f118, f119, f6, f10]
      refine w_lss (c_dec (fun q2 => ?_) (fun q2 => ?_))
      · obtain ⟨l, hl⟩ := getElem?_of_lt (l := re) (i := j) (by omega)
        obtain ⟨w, hw, iw⟩ := rvr j l hl
        have ell2 := elr.2 l (List.mem_of_getElem? hl)
        refine idxV (svr.ex T0.ex) hw fun z hz => w_rd1 hz rfl (w_lenSl ?_)
        refine loopE_intro (fun mm e' h' => ∃ (k : Nat) (vv : Nat → Value) (cs : Nat → List Value) (Z : Nat → Prop), k ≤ cnt ∧ mm = cnt - k ∧ e' 1 = .pointer (some ⟨h.length, 0, none⟩) ∧ e' 2 = .pointer (some ⟨h1.length, 0, none⟩) ∧ e' 5 = .pointer (some ⟨h5.length, 0, none⟩) ∧ e' 6 = .slice (some ⟨h7.length, 0, none⟩) cnt cnt ∧
            e' 9 = .func (.func 39) #[] #[.pointer (some ⟨h5.length, 0, none⟩)] ∧ e' 10 = .pointer (some ⟨hA.length, 0, none⟩) ∧ e' 63 = .slice (some ⟨h7.length, 0, none⟩) cnt cnt ∧ e' 64 = .int .i64 (cnt : Nat) ∧ e' 65 = .int .i64 (d : Nat) ∧ e' 13 = vv 5 ∧ e' 117 = wre ∧ e' 118 = .int .i64 (re.length : Nat) ∧ e' 119 = .int .i64 (j : Nat) ∧
            e' 15 = w ∧ e' 16 = vv 6 ∧ e' 123 = .slice (some ⟨h7.length, 0, none⟩) cnt cnt ∧ e' 124 = .int .i64 (cnt : Nat) ∧ e' 125 = .int .i64 (k : Nat) ∧
            SmI hA h' hA.length (.int .i64 m.pl, .int .i64 m.cl) (.slice a61 n61 c61) (m.En.map (cOf c)) vv cs Z (smOf m f (d + 1)) (smFi m f (d + 1)) (smIn m c f (d + 1)) (smLow m c f (d + 1)) (smRet m c cnt f d) ((re.take j).map fun l => smRow c f l cnt) (smRow c f l k)) cnt
          ⟨0, _, _, _, Nat.zero_le _, rfl, f1, f2, f5, f6, f9, f10, f63, f64, f65, ?_, f117, f118, f119, rfl, ?_, rfl, rfl, rfl, T0.reset6⟩ ?_
        · exact f13
        · exact rfl
        have T0ex := T0.ex
        clear f1 f2 f5 f6 f9 f10 f63 f64 f65 f13 f117 f118 f119 T0 hz
        rintro I3 mm3 e3v h30 ⟨kk, vv3, cs3, Z3, hk, hmm3, g1, g2, g5, g6, g9, g10, g63, g64, g65, g13, g117, g118, g119, g15, g16, g123, g124, g125, U⟩ ih3
        rw [g123, g124, g125, g5, g15, g16]
        refine w_lss (c_dec (fun q3 => ?_) (fun q3 => ?_))
        · obtain ⟨fk, _, fkn⟩ := hf kk (by omega)
          refine w_idxN eI_len (slF U.ex) fk fun z hz => w_rd1 hz rfl ?_
          have U1 := U.exx (Ex.res h30)
          have PaU := PaA.ex U1.ex
          obtain ⟨t, ht⟩ := getElem?_of_lt (l := l) (i := f kk) (by rw [ell2.1]; exact fkn)
          have tn := ell2.2 t (List.mem_of_getElem? ht)
          obtain ⟨y, hy⟩ := getElem?_of_lt (l := c) (i := t.toNat) (by omega)
          refine w_rdP (U1.ex.some gPA) rfl (w_nilc (w_offP (w_rdP PaU.row (v := vc) rfl ?_)))
          refine w_idxN eI_len (Sl.ex iw U1.ex) ht fun z hz => w_rd1 hz rfl (w_idxT eI_len PaU.cls.sl tn.1 hy fun z hz => w_rd1 hz rfl ?_)
          refine U1.app6 U.lt (dd h30) (nz U.s) (by unfold smRow; simp; omega) fun c9 j9 v9 h32 l32 U2 => ?_
          refine w_add (by omega) (by omega) ?_
          have er : smRow c f l (kk + 1) = smRow c f l kk ++ [y] := by
            have : cOf c (l.getD (f kk) 0) = y := by rw [getD_some ht]; exact getD_some hy
            rw [← this]; exact range_succ _ kk
          rw [← er] at U2
          refine ih3 (cnt - (kk + 1)) _ _ (by omega) ⟨kk + 1, _, _, _, by omega, rfl, g1, g2, g5, g6, g9, g10, g63, g64, g65, ?_, g117, g118, g119, g15, ?_, g123, g124, rfl, U2⟩
          · exact g13
          · exact rfl
        · have ek : kk = cnt := by omega
          subst ek
          have o6 := (U.s.sl.own 6 (by decide)).sl
          rw [U.c6, flat_eI_len] at o6
          refine clone40 o6 (by unfold smRow; simp; omega) fun v145 h33 x33 i145 on145 => ?_
          have U3 := U.addZ x33 on145
          rw [g13]
          refine U3.app5 (l := smRow c f l kk) i145 (fun j hj => .inr hj) (by rw [List.length_map, List.length_take]; omega) fun c7 j7 v7 h35 l35 U4 => ?_
          rw [g119]
          refine w_add (by omega) (by omega) ?_
          have er : (re.take (j + 1)).map (fun l => smRow c f l kk) = (re.take j).map (fun l => smRow c f l kk) ++ [smRow c f l kk] := by
            rw [take_succ_get hl, List.map_append]; rfl
          rw [← er] at U4
          refine ih2 (re.length - (j + 1)) _ _ (by omega) ⟨j + 1, _, _, _, _, by omega, rfl, g1, g2, g5, g6, g9, g10, g63, g64, g65, ?_, g117, g118, rfl, U4⟩
          exact rfl
      · have ej : re.take j = re := List.take_of_length_le (by omega)
        rw [ej] at T0
        have T1 := T0.exx (Ex.res h29)
        refine w_offP (w_rdP T1.box rfl ?_)
        have o5 := (T1.s.sl.own 5 (by decide)).sl
        rw [f13]
        have lc5 := T1.c5.1
        refine clone41 o5 (by rw [lc5, List.length_map]; omega) fun v152 h36 x36 i152 on152 => ?_
        refine ⟨ptr_id (x36.get _ (by have := T1.lt; exact this)), ?_⟩
        have T2 := T1.addZ x36 on152
        rw [lc5] at i152
        refine T2.app4 i152 (fun j hj => .inr hj) T2.c5 T0.lt (x36.some (dd h29)) (fun hz => hz.elim (nz T0.s) fun hh => by have := (on152 _ hh).1; rw [lr1] at this; omega) (by unfold smRet; simp; omega) fun c8 j8 v8 q8 h39 l39 T3 => ?_
        rw [f65]
        refine w_add (by omega) (by omega) ?_
        have er : smRet m c cnt f (d + 1) = smRet m c cnt f d ++ [re.map fun l => smRow c f l cnt] := by
          have : (m.Ret.getD (f d) []) = re := getD_of hre
          rw [← this]; exact range_succ _ d
        rw [← er] at T3
        exact ih (cnt - (d + 1)) _ _ (by omega) ⟨d + 1, _, _, _, _, _, by omega, rfl, f1, f2, f5, f6, f9, f10, f63, f64, rfl, T3⟩
    · have ed : d = cnt := by omega
      subst ed
      have l14 := S.lt
      rw [e2]
      let F : Nat → Prop := fun j => j = hA.length
      have s0 := (S.s.sl.own 0 (by decide)).sl
      have s1 := (S.s.sl.own 1 (by decide)).sl
      have s2 := (S.s.sl.own 2 (by decide)).sl
      have s3 := (S.s.sl.own 3 (by decide)).sl
      have s4 := (S.s.sl.own 4 (by decide)).sl
      have z0 : (cs 0).length = d := by rw [S.c0, flat_eI_len]; unfold smOf; simp
      have z1 : (cs 1).length = d := by rw [S.c1, flat_eBo_len]; unfold smFi; simp
      have z2 : (cs 2).length = d := by rw [S.c2.1]; unfold smIn; simp
      have z3 : (cs 3).length = d := by rw [S.c3.1]; unfold smLow; simp
      have z4 : (cs 4).length = d := by rw [S.c4.1]; unfold smRet; simp
      rw [z0] at s0
      rw [z1] at s1
      rw [z2] at s2
      rw [z3] at s3
      rw [z4] at s4
      refine w_offP (w_rdP S.box rfl (clone40 s0 (by omega) fun v159 h40 x40 i159 on159 => ?_))
      refine w_offP ⟨ptr_id (x40.get _ l14), w_rdP (x40.some S.box) rfl (clone42 (s1.ex x40) (by omega) fun v162 h41 x41 i162 on162 => ?_)⟩
      obtain ⟨p0, q0, r0, rfl⟩ := Sl.isSl i159
      obtain ⟨p1, q1, r1, rfl⟩ := Sl.isSl i162
      have x1441 := x40.trans x41
      have g41 := x1441.some S.box
      have l41 := lt_of_get g41
      refine w_offP (w_stP g41 (by show 0 + 2 < 8; omega) rfl rfl ?_)
      have g42 : (h41.set hA.length (.row (([.int .i64 m.pl, .int .i64 m.cl, vv 0, .slice a61 n61 c61, vv 1, vv 2, vv 3, vv 4] : List Value).set (0 + 2) (.slice p0 q0 r0)) true))[hA.length]? = some (.row [.int .i64 m.pl, .int .i64 m.cl, .slice p0 q0 r0, .slice a61 n61 c61, vv 1, vv 2, vv 3, vv 4] true) := get_set _ l41 _
      have x42 : ExF F h41 (h41.set hA.length (.row (([.int .i64 m.pl, .int .i64 m.cl, vv 0, .slice a61 n61 c61, vv 1, vv 2, vv 3, vv 4] : List Value).set (0 + 2) (.slice p0 q0 r0)) true)) := (ExF.refl F h41).set rfl _
      have l42 : (h41.set hA.length (.row (([.int .i64 m.pl, .int .i64 m.cl, vv 0, .slice a61 n61 c61, vv 1, vv 2, vv 3, vv 4] : List Value).set (0 + 2) (.slice p0 q0 r0)) true)).length = h41.length := List.length_set
      show optW (pOff 4 (.pointer (some ⟨hA.length, 0, none⟩))) fun v164 => optW (pStore 1 v164 (.slice p1 q1 r1) (h41.set hA.length (.row (([.int .i64 m.pl, .int .i64 m.cl, vv 0, .slice a61 n61 c61, vv 1, vv 2, vv 3, vv 4] : List Value).set (0 + 2) (.slice p0 q0 r0)) true))) _
      generalize h41.set hA.length (.row (([.int .i64 m.pl, .int .i64 m.cl, vv 0, .slice a61 n61 c61, vv 1, vv 2, vv 3, vv 4] : List Value).set (0 + 2) (.slice p0 q0 r0)) true) = h42 at g42 x42 l42 ⊢
      refine w_offP (w_stP g42 (by show 0 + 4 < 8; omega) rfl rfl ?_)
      have g43 : (h42.set hA.length (.row (([.int .i64 m.pl, .int .i64 m.cl, .slice p0 q0 r0, .slice a61 n61 c61, vv 1, vv 2, vv 3, vv 4] : List Value).set (0 + 4) (.slice p1 q1 r1)) true))[hA.length]? = some (.row [.int .i64 m.pl, .int .i64 m.cl, .slice p0 q0 r0, .slice a61 n61 c61, .slice p1 q1 r1, vv 2, vv 3, vv 4] true) := get_set _ (by omega) _
      have x43 : ExF F h41 (h42.set hA.length (.row (([.int .i64 m.pl, .int .i64 m.cl, .slice p0 q0 r0, .slice a61 n61 c61, vv 1, vv 2, vv 3, vv 4] : List Value).set (0 + 4) (.slice p1 q1 r1)) true)) := x42.set rfl _
      generalize h42.set hA.length (.row (([.int .i64 m.pl, .int .i64 m.cl, .slice p0 q0 r0, .slice a61 n61 c61, vv 1, vv 2, vv 3, vv 4] : List Value).set (0 + 4) (.slice p1 q1 r1)) true) = h43 at g43 x43 ⊢
      have x1443 : ExF F h14 h43 := (ExF.ex x1441).trans x43
      have nS : ∀ (i : Nat) {n : Nat} {cs' : List Value} {h' : AH}, i < 11 → Sl 1 h14 (vv i) n cs' → ExF F h14 h' → Sl 1 h' (vv i) n cs' := fun i n cs' h' hi sl y => sl.keepOn fun j hj => y.get j (S.s.sl.on hi hj).2 fun e => by have := (S.s.sl.on hi hj).1; have : j = hA.length := e; omega
      have l43 := lt_of_get g43
      refine w_offP (w_rdP g43 rfl (clone41 (nS 2 (by decide) s2 x1443) (by omega) fun v167 h44 x44 i167 on167 => ?_))
      have x1444 := x1443.trans (.ex x44)
      refine w_offP ⟨ptr_id (x44.get _ l43), w_rdP (x44.some g43) rfl (clone41 (nS 3 (by decide) s3 x1444) (by omega) fun v170 h45 x45 i170 on170 => ?_)⟩
      have x1445 := x1444.trans (.ex x45)
      refine w_offP ⟨ptr_id (x45.get _ (x44.lt l43)), ptr_id (x44.get _ l43), w_rdP (x45.some (x44.some g43)) rfl (clone43 (nS 4 (by decide) s4 x1445) (by omega) fun v173 h46 x46 i173 on173 => ?_)⟩
      obtain ⟨p2, q2, r2, rfl⟩ := Sl.isSl i167
      obtain ⟨p3, q3, r3, rfl⟩ := Sl.isSl i170
      obtain ⟨p4, q4, r4, rfl⟩ := Sl.isSl i173
      have x4346 := (x44.trans x45).trans x46
      have g46 := x4346.some g43
      have l46 := lt_of_get g46
      refine w_offP (w_stP g46 (by show 0 + 5 < 8; omega) rfl rfl ?_)
      have g47 : (h46.set hA.length (.row (([.int .i64 m.pl, .int .i64 m.cl, .slice p0 q0 r0, .slice a61 n61 c61, .slice p1 q1 r1, vv 2, vv 3, vv 4] : List Value).set (0 + 5) (.slice p2 q2 r2)) true))[hA.length]? = some (.row [.int .i64 m.pl, .int .i64 m.cl, .slice p0 q0 r0, .slice a61 n61 c61, .slice p1 q1 r1, .slice p2 q2 r2, vv 3, vv 4] true) := get_set _ l46 _
      have x47 : ExF F h46 (h46.set hA.length (.row (([.int .i64 m.pl, .int .i64 m.cl, .slice p0 q0 r0, .slice a61 n61 c61, .slice p1 q1 r1, vv 2, vv 3, vv 4] : List Value).set (0 + 5) (.slice p2 q2 r2)) true)) := (ExF.refl F h46).set rfl _
      generalize h46.set hA.length (.row (([.int .i64 m.pl, .int .i64 m.cl, .slice p0 q0 r0, .slice a61 n61 c61, .slice p1 q1 r1, vv 2, vv 3, vv 4] : List Value).set (0 + 5) (.slice p2 q2 r2)) true) = h47 at g47 x47 ⊢
      refine w_offP (w_stP g47 (by show 0 + 6 < 8; omega) rfl rfl ?_)
      have g48 : (h47.set hA.length (.row (([.int .i64 m.pl, .int .i64 m.cl, .slice p0 q0 r0, .slice a61 n61 c61, .slice p1 q1 r1, .slice p2 q2 r2, vv 3, vv 4] : List Value).set (0 + 6) (.slice p3 q3 r3)) true))[hA.length]? = some (.row [.int .i64 m.pl, .int .i64 m.cl, .slice p0 q0 r0, .slice a61 n61 c61, .slice p1 q1 r1, .slice p2 q2 r2, .slice p3 q3 r3, vv 4] true) := get_set _ (lt_of_get g47) _
      have x48 : ExF F h46 (h47.set hA.length (.row (([.int .i64 m.pl, .int .i64 m.cl, .slice p0 q0 r0, .slice a61 n61 c61, .slice p1 q1 r1, .slice p2 q2 r2, vv 3, vv 4] : List Value).set (0 + 6) (.slice p3 q3 r3)) true)) := x47.set rfl _
      generalize h47.set hA.length (.row (([.int .i64 m.pl, .int .i64 m.cl, .slice p0 q0 r0, .slice a61 n61 c61, .slice p1 q1 r1, .slice p2 q2 r2, vv 3, vv 4] : List Value).set (0 + 6) (.slice p3 q3 r3)) true) = h48 at g48 x48 ⊢
      refine w_offP (w_stP g48 (by show 0 + 7 < 8; omega) rfl rfl ?_)
      have g49 : (h48.set hA.length (.row (([.int .i64 m.pl, .int .i64 m.cl, .slice p0 q0 r0, .slice a61 n61 c61, .slice p1 q1 r1, .slice p2 q2 r2, .slice p3 q3 r3, vv 4] : List Value).set (0 + 7) (.slice p4 q4 r4)) true))[hA.length]? = some (.row [.int .i64 m.pl, .int .i64 m.cl, .slice p0 q0 r0, .slice a61 n61 c61, .slice p1 q1 r1, .slice p2 q2 r2, .slice p3 q3 r3, .slice p4 q4 r4] true) := get_set _ (lt_of_get g48) _
      have x49 : ExF F h46 (h48.set hA.length (.row (([.int .i64 m.pl, .int .i64 m.cl, .slice p0 q0 r0, .slice a61 n61 c61, .slice p1 q1 r1, .slice p2 q2 r2, .slice p3 q3 r3, vv 4] : List Value).set (0 + 7) (.slice p4 q4 r4)) true)) := x48.set rfl _
      generalize h48.set hA.length (.row (([.int .i64 m.pl, .int .i64 m.cl, .slice p0 q0 r0, .slice a61 n61 c61, .slice p1 q1 r1, .slice p2 q2 r2, .slice p3 q3 r3, vv 4] : List Value).set (0 + 7) (.slice p4 q4 r4)) true) = h49 at g49 x49 ⊢
      refine w_rdPA g49 (Nat.le_refl 8) ?_
      have x1449 : ExF F h14 h49 := (x1443.trans (.ex x4346)).trans x49
      have lR := lt_of_get gRA
      have gR49 : h49[h1.length]? = some (.row z8 true) := x1449.some (S.ex.some gRA) (by show ¬ h1.length = hA.length; omega)
      refine w_stPA gR49 rfl (Nat.le_refl 8) rfl ?_
      let u' : MoV := ⟨(p0, q0, r0), (a61, n61, c61), (p1, q1, r1), (p2, q2, r2), (p3, q3, r3), (p4, q4, r4)⟩
      have lR49 := lt_of_get gR49
      have gF50 : (h49.set h1.length (.row (spliceL z8 0 (cellsL (.agg ((List.drop 0 [Value.int .i64 m.pl, .int .i64 m.cl, .slice p0 q0 r0, .slice a61 n61 c61, .slice p1 q1 r1, .slice p2 q2 r2, .slice p3 q3 r3, .slice p4 q4 r4]).take 8).toArray))) true))[h1.length]? = some (.row (moRow u' (sm m c d f)) true) := get_set _ lR49 _
      rw [res18]
      refine w_some (v := [.agg (moRow u' (sm m c d f)).toArray, .int .i64 0]) ?_ ?_
      · show Option.map (fun v => [v, Value.int .i64 0]) (rdRow true 8 (e 2) _) = _
        rw [e2]
        have e := hopt (o := rdRow true 8 (.pointer (some ⟨h1.length, 0, none⟩)) _) (w_rdPA gF50 (Nat.le_refl 8) rfl)
        rw [e]
        rfl
      · -- all that was told stays
        have kR : ∀ (h0 : AH) (j : Nat), ExF F h0 h49 → h14.length ≤ h0.length → hA.length < j → j < h0.length → (h49.set h1.length (.row (spliceL z8 0 (cellsL (.agg ((List.drop 0 [Value.int .i64 m.pl, .int .i64 m.cl, .slice p0 q0 r0, .slice a61 n61 c61, .slice p1 q1 r1, .slice p2 q2 r2, .slice p3 q3 r3, .slice p4 q4 r4]).take 8).toArray))) true))[j]? = h0[j]? := fun h0 j y l0 h1' h2' => (get_ne (by omega) _).trans (y.get j h2' fun e => by have : j = hA.length := e; omega)
        have y40 : ExF F h40 h49 := (((ExF.ex x41).trans x43).trans (.ex x4346)).trans x49
        have y41 : ExF F h41 h49 := (x43.trans (.ex x4346)).trans x49
        have y44 : ExF F h44 h49 := (ExF.ex (x45.trans x46)).trans x49
        have y45 : ExF F h45 h49 := (ExF.ex x46).trans x49
        have l1443 := x1443.len
        have l1444 := x1444.len
        have l1445 := x1445.len
        have l1441 := x1441.len
        have l1440 := x40.len
        have l46' := x46.len
        have o0 := i159.keepOn fun j hj => kR h40 j y40 l1440 (by have := (on159 j hj).1; omega) (on159 j hj).2
        have o1 := i162.keepOn fun j hj => kR h41 j y41 l1441 (by have := (on162 j hj).1; omega) (on162 j hj).2
        have o2 := i167.keepOn fun j hj => kR h44 j y44 l1444 (by have := (on167 j hj).1; omega) (on167 j hj).2
        have o3 := i170.keepOn fun j hj => kR h45 j y45 l1445 (by have := (on170 j hj).1; omega) (on170 j hj).2
        have o4 := i173.keepOn fun j hj => kR h46 j x49 (by omega) (by have := (on173 j hj).1; omega) (on173 j hj).2
        have kZ : ∀ j, Z j → (h49.set h1.length (.row (spliceL z8 0 (cellsL (.agg ((List.drop 0 [Value.int .i64 m.pl, .int .i64 m.cl, .slice p0 q0 r0, .slice a61 n61 c61, .slice p1 q1 r1, .slice p2 q2 r2, .slice p3 q3 r3, .slice p4 q4 r4]).take 8).toArray))) true))[j]? = h14[j]? := fun j hj => kR h14 j x1449 (Nat.le_refl _) (S.s.z j hj).1 (S.s.z j hj).2.1
        have c2' := S.c2.to (fun _ h => h) kZ
        have c3' := S.c3.to (fun _ h => h) kZ
        have c4' := S.c4.to (fun _ h => h) kZ
        have en' := Sl.keepOn S.en fun j hj => kZ j (S.ez j hj)
        have ll : ∀ {α : Type} (g : Nat → α), ((List.range d).map g).length = d := fun g => by simp
        have x050 : Ex h (h49.set h1.length (.row (spliceL z8 0 (cellsL (.agg ((List.drop 0 [Value.int .i64 m.pl, .int .i64 m.cl, .slice p0 q0 r0, .slice a61 n61 c61, .slice p1 q1 r1, .slice p2 q2 r2, .slice p3 q3 r3, .slice p4 q4 r4]).take 8).toArray))) true)) := (ExF.base (x0A.trans S.ex) x1449 fun j hj => by have : j = hA.length := hj; have := x0A.len; omega).set (by omega) _
        rw [S.c0] at o0
        rw [S.c1] at o1
        refine k _ u' c d f x050 Ca (fun d' hd' => (hf d' hd').2) ⟨?_, en', ?_, ?_, ?_, ?_, ?_, ?_, ?_, ?_, ?_⟩
        · show Sl 1 _ (.slice p0 q0 r0) (smOf m f d).length _
          rw [show (smOf m f d).length = d from ll _]
          exact o0
        · show Sl 1 _ (.slice p1 q1 r1) (smFi m f d).length _
          rw [show (smFi m f d).length = d from ll _]
          exact o1
        · exact c2'.rows (by rw [show (smIn m c f d).length = d from ll _]; exact o2)
        · exact c3'.rows (by rw [show (smLow m c f d).length = d from ll _]; exact o3)
        · exact c4'.rets (by rw [show (smRet m c d f d).length = d from ll _]; exact o4)
        · show (smOf m f d).length ≤ 1000
          rw [show (smOf m f d).length = d from ll _]; omega
        · show (m.En.map (cOf c)).length ≤ 1000
          rw [List.length_map]
          have := v.enEl.1; omega
        · intro l hl
          obtain ⟨e', he, rfl⟩ := List.mem_map.1 hl
          rw [List.length_map]
          have := hf e' (List.mem_range.1 he)
          obtain ⟨li, hli⟩ := getElem?_of_lt (l := m.In) (i := f e') (by have h1 := v.li; show f e' < m.In.length; rw [h1]; exact this.2.2)
          rw [getD_of hli]
          have := (v.inEl this.2.2 hli).1; omega
        · intro l hl
          obtain ⟨e', he, rfl⟩ := List.mem_map.1 hl
          rw [List.length_map]
          have := hf e' (List.mem_range.1 he)
          obtain ⟨li, hli⟩ := getElem?_of_lt (l := m.Low) (i := f e') (by have h1 := v.ll; show f e' < m.Low.length; rw [h1]; exact this.2.2)
          rw [getD_of hli]
          have := (v.lowEl this.2.2 hli).1; omega
        · intro r hr
          obtain ⟨e', he, rfl⟩ := List.mem_map.1 hr
          have := hf e' (List.mem_range.1 he)
          obtain ⟨li, hli⟩ := getElem?_of_lt (l := m.Ret) (i := f e') (by have h1 := v.lr; show f e' < m.Ret.length; rw [h1]; exact this.2.2)
          rw [getD_of hli, List.length_map]
          refine ⟨by have := (v.retEl this.2.2 hli).1; omega, fun l hl => ?_⟩
          obtain ⟨l', _, rfl⟩ := List.mem_map.1 hl
          rw [show (smRow c f l' d).length = d from ll _]; omega
end Go.Proofs.Ytnpbehfhncbjfaa.W
end

section
/- Fold's laws: the small machine, plain: it may be, it is the machine of the classes, small again it is itself. Conditions: none. -/
namespace Go.Proofs.Ytnpbehfhncbjfaa.W
open Go Go.AM FoldPM
set_option linter.unusedVariables false
set_option maxRecDepth 100000

/-- what may be, of lists so long. -/
theorem Valid.of_shape {m : Mo} (ok : m.pm.OK) (pl : 0 ≤ m.pl ∧ m.pl < 21) (cl : 0 ≤ m.cl ∧ m.cl < 21) (n2 : m.Of.length ≤ 60) (k2 : m.En.length ≤ 21) (lf : m.Fi.length = m.Of.length) (li : m.In.length = m.Of.length) (ll : m.Low.length = m.Of.length) (lr : m.Ret.length = m.Of.length)
    (en0 : ∀ x ∈ m.En, 0 ≤ x) (hin : ∀ (p : Nat) (l : List Int), m.In[p]? = some l → l.length = m.pm.pl ∧ ∀ x ∈ l, 0 ≤ x)
    (hlow : ∀ (p : Nat) (l : List Int), m.Low[p]? = some l → (m.pm.of p = 0 → l.length = m.pm.cl) ∧ (m.pm.of p ≠ 0 → l.length = 0) ∧ ∀ x ∈ l, 0 ≤ x)
    (hret : ∀ (p : Nat) (r : List (List Int)), m.Ret[p]? = some r → (m.pm.of p = 0 → r.length = 0) ∧ (m.pm.of p ≠ 0 → r.length = m.pm.cl) ∧ ∀ l ∈ r, l.length = m.pm.n ∧ ∀ x ∈ l, 0 ≤ x) : Valid m := by
  have hpl : ((m.pm.pl : Nat) : Int) = m.pl := Int.toNat_of_nonneg pl.1
  have hcl : ((m.pm.cl : Nat) : Int) = m.cl := Int.toNat_of_nonneg cl.1
  have ofAt : ∀ {p : Nat} {x : Int}, m.Of[p]? = some x → m.pm.of p = x := fun h => getD_of h
  have ofN : ∀ {p : Nat}, p < m.Of.length → m.Of[p]? = some (m.pm.of p) := fun {p} hp => by
    obtain ⟨x, hx⟩ := getElem?_of_lt hp
    rw [ofAt hx, hx]
  have mem : ∀ {x : Int} {q : Nat} {c : Int}, 0 ≤ x → q = x.toNat → q < m.pm.n → m.pm.of q = c → Mem m.Of m.Of.length c x := fun {x q c} h0 hq hn hc => by
    subst hq
    have hn' : x.toNat < m.Of.length := hn
    exact ⟨h0, by omega, by rw [ofN hn', hc]⟩
  refine ⟨pl, cl, by have h1 := ok.n1; have : 1 ≤ m.Of.length := h1; omega, by omega, by have h1 := ok.k1; have : 1 ≤ m.En.length := h1; omega, by omega, fun k x hx => ?_, fun k x hx => ?_, lf, li, ll, lr, fun p hp => ⟨fun c l hc hl => ?_, fun c lo re hc hlo hre => ?_⟩⟩
  · have := ok.of k (List.getElem?_eq_some_iff.1 hx).1
    rw [ofAt hx] at this
    exact this
  · have h1 := ok.en k (List.getElem?_eq_some_iff.1 hx).1
    have e : m.pm.en k = x.toNat := by show (m.En.getD k 0).toNat = _; rw [getD_of hx]
    exact mem (en0 x (List.mem_of_getElem? hx)) e h1.1 h1.2
  · have h1 := hin p l hl
    refine ⟨by rw [h1.1]; exact hpl, fun i x hx => ?_⟩
    have hi : i < m.pm.pl := by have := (List.getElem?_eq_some_iff.1 hx).1; omega
    have h2 := ok.inn p i hp hi
    have e : m.pm.inn p i = x.toNat := by show ((m.In.getD p []).getD i 0).toNat = _; rw [getD_of hl, getD_of hx]
    exact mem (h1.2 x (List.mem_of_getElem? hx)) e h2.1 (h2.2.trans (ofAt hc))
  · have h1 := hlow p lo hlo
    have h2 := hret p re hre
    rw [ofAt hc] at h1 h2
    refine ⟨fun c0 => ⟨h2.1 c0, by rw [h1.1 c0]; exact hcl, fun i x hx => ?_⟩, fun c0 => ⟨h1.2.1 c0, by rw [h2.2.1 c0]; exact hcl, fun j l hl => ⟨(h2.2.2 l (List.mem_of_getElem? hl)).1, fun i x hx => ?_⟩⟩⟩
    · have hi : i < m.pm.cl := by have := (List.getElem?_eq_some_iff.1 hx).1; have := h1.1 c0; omega
      have h3 := ok.low p i hp ((ofAt hc).trans c0) hi
      have e : m.pm.low p i = x.toNat := by show ((m.Low.getD p []).getD i 0).toNat = _; rw [getD_of hlo, getD_of hx]
      exact mem (h1.2.2 x (List.mem_of_getElem? hx)) e h3.1 h3.2
    · have hj : j < m.pm.cl := by have := (List.getElem?_eq_some_iff.1 hl).1; have := h2.2.1 c0; omega
      have h4 := h2.2.2 l (List.mem_of_getElem? hl)
      have hi : i < m.pm.n := by have := (List.getElem?_eq_some_iff.1 hx).1; omega
      have h3 := ok.ret p j i hp hi (by rw [ofAt hc]; exact c0) hj
      have e : m.pm.ret p j i = x.toNat := by show (((m.Ret.getD p []).getD j []).getD i 0).toNat = _; rw [getD_of hre, getD_of hl, getD_of hx]
      exact ⟨m.pm.of i, ofN hi, mem (h4.2 x (List.mem_of_getElem? hx)) e h3.1 h3.2⟩

section
variable {m : Mo} {c : List Int} {cnt : Nat} {f : Nat → Nat}

def cN (c : List Int) (p : Nat) : Nat := (c.getD p 0).toNat

theorem range_getD {α : Type} {g : Nat → α} {n e : Nat} {d : α} (h : e < n) : ((List.range n).map g).getD e d = g e := getD_of (by simp [h])

theorem map_getD {α : Type} {l : List Int} {g : Int → α} {i : Nat} {x : Int} {d : α} (h : l[i]? = some x) : (l.map g).getD i d = g x := getD_of (by rw [List.getElem?_map, h]; rfl)

theorem sm_quot (v : Valid m) (Ca : Canon m.pm.n (Rch m.pm) (EE m.pm) c cnt) (hf : ∀ d, d < cnt → Fst c d (f d) ∧ f d < m.pm.n) : Quot m.pm (sm m c cnt f).pm (cN c) := by
  have ok := v.ok
  have nN : (sm m c cnt f).pm.n = cnt := by show (smOf m f cnt).length = cnt; unfold smOf; simp
  have at_ : ∀ p, Rch m.pm p → c[p]? = some ((cN c p : Nat) : Int) ∧ cN c p < cnt := fun p hp => by
    obtain ⟨d, hd, hx⟩ := Ca.re p (hp.lt ok) hp
    have : cN c p = d := by unfold cN; rw [getD_some hx]; rfl
    rw [this]
    exact ⟨hx, hd⟩
  have rf : ∀ d, d < cnt → Rch m.pm (f d) := fun d hd => Ca.reached (hf d hd).2 (hf d hd).1.1
  have ee : ∀ p, Rch m.pm p → EE m.pm (f (cN c p)) p := fun p hp => by
    have h1 := at_ p hp
    exact (Ca.eq _ p (hf _ h1.2).2 (hp.lt ok) (rf _ h1.2) hp).1 ((hf _ h1.2).1.1.trans h1.1.symm)
  have cc : ∀ p q, Rch m.pm p → Rch m.pm q → (cN c p = cN c q ↔ EE m.pm p q) := fun p q hp hq => by
    rw [← Ca.eq p q (hp.lt ok) (hq.lt ok) hp hq, (at_ p hp).1, (at_ q hq).1]
    constructor
    · intro h; rw [h]
    · intro h; injection h with h; omega
  have cNI : ∀ {x : Int} {p : Nat}, x = ((p : Nat) : Int) → (cOf c x).toNat = cN c p := fun h => by subst h; rfl
  refine ⟨by show (m.En.map (cOf c)).length = m.En.length; rw [List.length_map], rfl, rfl, fun d hd => ?_, fun p hp => by rw [nN]; exact (at_ p hp).2, cc, fun p hp => ?_, fun p hp => ?_, fun i hi => ?_, fun p i hp hi => ?_, fun p j hp h0 hj => ?_, fun p j x hp hx h0 hj => ?_⟩
  · rw [nN] at hd
    have h1 := hf d hd
    exact ⟨f d, rf d hd, by unfold cN; rw [getD_some h1.1.1]; rfl⟩
  · have h1 := (at_ p hp).2
    show (smOf m f cnt).getD (cN c p) 0 = _
    unfold smOf
    rw [range_getD h1]
    exact (ee p hp).of
  · have h1 := (at_ p hp).2
    show (smFi m f cnt).getD (cN c p) false = _
    unfold smFi
    rw [range_getD h1]
    exact (ee p hp).fi
  · have h1 := (v.enAt hi).1
    show ((m.En.map (cOf c)).getD i 0).toNat = _
    rw [map_getD h1]
    exact cNI rfl
  · have h1 := (at_ p hp).2
    obtain ⟨l, hl, _, h2⟩ := v.inAt (hf _ h1).2
    show (((smIn m c f cnt).getD (cN c p) []).getD i 0).toNat = _
    unfold smIn
    rw [range_getD h1, getD_of hl, map_getD (h2 i hi).1, cNI rfl]
    exact (cc _ _ (.inn (rf _ h1) hi) (.inn hp hi)).2 ((ee p hp).inn hi)
  · have h1 := (at_ p hp).2
    have h0' : m.pm.of (f (cN c p)) = 0 := (ee p hp).of.trans h0
    obtain ⟨l, hl, _, h2⟩ := v.lowAt (hf _ h1).2
    show (((smLow m c f cnt).getD (cN c p) []).getD j 0).toNat = _
    unfold smLow
    rw [range_getD h1, getD_of hl, map_getD ((h2 h0').2 j hj).1, cNI rfl]
    exact (cc _ _ (.low (rf _ h1) h0' hj) (.low hp h0 hj)).2 ((ee p hp).low h0' hj)
  · have h1 := (at_ p hp).2
    have h3 := (at_ x hx).2
    have h0' : m.pm.of (f (cN c p)) ≠ 0 := by rw [(ee p hp).of]; exact h0
    obtain ⟨r, hr, _, h2⟩ := v.retAt (hf _ h1).2
    obtain ⟨l, hl, _, h4⟩ := (h2 h0').2 j hj
    show ((((smRet m c cnt f cnt).getD (cN c p) []).getD j []).getD (cN c x) 0).toNat = _
    unfold smRet
    rw [range_getD h1, getD_of hr]
    have e : (r.map fun l => smRow c f l cnt).getD j [] = smRow c f l cnt := getD_of (by rw [List.getElem?_map, hl]; rfl)
    rw [e]
    unfold smRow
    rw [range_getD h3, getD_of (h4 _ (hf _ h3).2).1, cNI rfl]
    exact (cc _ _ (.ret (rf _ h1) (rf _ h3) h0' hj) (.ret hp hx h0 hj)).2 ((ee p hp).ret (ee x hx) h0' hj (rf _ h3) hp)

theorem sm_valid (v : Valid m) (Ca : Canon m.pm.n (Rch m.pm) (EE m.pm) c cnt) (hf : ∀ d, d < cnt → Fst c d (f d) ∧ f d < m.pm.n) : Valid (sm m c cnt f) := by
  have ok := v.ok
  have Q := sm_quot v Ca hf
  have okN := Q.ok ok
  have lO : (sm m c cnt f).Of.length = cnt := by show (smOf m f cnt).length = cnt; unfold smOf; simp
  have cn := Ca.le
  have n2 := v.n2
  have hnn : m.pm.n = m.Of.length := rfl
  have rf : ∀ d, d < cnt → Rch m.pm (f d) := fun d hd => Ca.reached (hf d hd).2 (hf d hd).1.1
  have nn : ∀ p, Rch m.pm p → ∀ {x : Int}, x = ((p : Nat) : Int) → 0 ≤ cOf c x := fun p hp x hx => by
    subst hx
    obtain ⟨d, _, h⟩ := Ca.re p (hp.lt ok) hp
    unfold cOf
    rw [show (((p : Nat) : Int)).toNat = p from rfl, getD_some h]
    omega
  have ofS : ∀ p, p < cnt → (sm m c cnt f).pm.of p = m.pm.of (f p) := fun p hp => by
    show (smOf m f cnt).getD p 0 = _
    unfold smOf
    rw [range_getD hp]
    rfl
  refine Valid.of_shape okN v.pl v.cl (by omega) (by show (m.En.map (cOf c)).length ≤ 21; rw [List.length_map]; have := v.k2; omega) ?_ ?_ ?_ ?_ (fun x hx => ?_) (fun p l hl => ?_) (fun p l hl => ?_) (fun p r hr => ?_)
  · rw [lO]; show (smFi m f cnt).length = cnt; unfold smFi; simp
  · rw [lO]; show (smIn m c f cnt).length = cnt; unfold smIn; simp
  · rw [lO]; show (smLow m c f cnt).length = cnt; unfold smLow; simp
  · rw [lO]; show (smRet m c cnt f cnt).length = cnt; unfold smRet; simp
  · obtain ⟨y, hy, rfl⟩ := List.mem_map.1 hx
    obtain ⟨i, hi⟩ := List.getElem?_of_mem hy
    have hik := (List.getElem?_eq_some_iff.1 hi).1
    have h1 := (v.enAt (c := i) hik).1
    rw [hi] at h1
    injection h1 with h1
    exact nn _ (.en hik) h1
  · have hl' : (smIn m c f cnt)[p]? = some l := hl
    unfold smIn at hl'
    have hp : p < cnt := by have := (List.getElem?_eq_some_iff.1 hl').1; simpa using this
    obtain ⟨li, hli, len, h2⟩ := v.inAt (hf p hp).2
    have e : l = li.map (cOf c) := by
      rw [List.getElem?_map, List.getElem?_range hp] at hl'
      injection hl' with hl'
      rw [← hl']; dsimp only; rw [getD_of hli]
    subst e
    refine ⟨by rw [List.length_map, len]; rfl, fun x hx => ?_⟩
    obtain ⟨y, hy, rfl⟩ := List.mem_map.1 hx
    obtain ⟨i, hi⟩ := List.getElem?_of_mem hy
    have hik := (List.getElem?_eq_some_iff.1 hi).1
    have h3 := (h2 i (by omega)).1
    rw [hi] at h3
    injection h3 with h3
    exact nn _ (.inn (rf p hp) (by omega)) h3
  · have hl' : (smLow m c f cnt)[p]? = some l := hl
    unfold smLow at hl'
    have hp : p < cnt := by have := (List.getElem?_eq_some_iff.1 hl').1; simpa using this
    obtain ⟨li, hli, z1, z2⟩ := v.lowAt (hf p hp).2
    have e : l = li.map (cOf c) := by
      rw [List.getElem?_map, List.getElem?_range hp] at hl'
      injection hl' with hl'
      rw [← hl']; dsimp only; rw [getD_of hli]
    subst e
    rw [ofS p hp]
    refine ⟨fun h0 => by rw [List.length_map, (z2 h0).1]; rfl, fun h0 => by rw [z1 h0]; rfl, fun x hx => ?_⟩
    obtain ⟨y, hy, rfl⟩ := List.mem_map.1 hx
    obtain ⟨i, hi⟩ := List.getElem?_of_mem hy
    have hik := (List.getElem?_eq_some_iff.1 hi).1
    by_cases h0 : m.pm.of (f p) = 0
    · have h3 := ((z2 h0).2 i (by have := (z2 h0).1; omega)).1
      rw [hi] at h3
      injection h3 with h3
      exact nn _ (.low (rf p hp) h0 (by have := (z2 h0).1; omega)) h3
    · rw [z1 h0] at hik; simp at hik
  · have hr' : (smRet m c cnt f cnt)[p]? = some r := hr
    unfold smRet at hr'
    have hp : p < cnt := by have := (List.getElem?_eq_some_iff.1 hr').1; simpa using this
    obtain ⟨re, hre, z1, z2⟩ := v.retAt (hf p hp).2
    have e : r = re.map fun l => smRow c f l cnt := by
      rw [List.getElem?_map, List.getElem?_range hp] at hr'
      injection hr' with hr'
      rw [← hr']; dsimp only; rw [getD_of hre]
    subst e
    rw [ofS p hp]
    refine ⟨fun h0 => by rw [z1 h0]; rfl, fun h0 => by rw [List.length_map, (z2 h0).1]; rfl, fun l hl => ?_⟩
    obtain ⟨lr, hlr, rfl⟩ := List.mem_map.1 hl
    refine ⟨by show (smRow c f lr cnt).length = _; rw [show (sm m c cnt f).pm.n = cnt from lO]; unfold smRow; simp, fun x hx => ?_⟩
    unfold smRow at hx
    obtain ⟨e, he, rfl⟩ := List.mem_map.1 hx
    have he' := List.mem_range.1 he
    obtain ⟨j, hj⟩ := List.getElem?_of_mem hlr
    have hjl := (List.getElem?_eq_some_iff.1 hj).1
    by_cases h0 : m.pm.of (f p) = 0
    · rw [z1 h0] at hjl; simp at hjl
    · have hjc : j < m.pm.cl := by have := (z2 h0).1; omega
      obtain ⟨l', hl', _, h4⟩ := (z2 h0).2 j hjc
      rw [hj] at hl'
      cases hl'
      rw [getD_of (h4 _ (hf e he').2).1]
      exact nn _ (.ret (rf p hp) (rf e he') h0 hjc) rfl

theorem map_id_on {l : List Int} {g : Int → Int} (h : ∀ x ∈ l, g x = x) : l.map g = l := by
  conv => rhs; rw [← List.map_id l]
  exact List.map_congr_left fun x hx => h x hx
theorem range_back {α : Type} {l : List α} {n : Nat} {g : Nat → α} (hl : l.length = n) (h : ∀ (e : Nat) (x : α), l[e]? = some x → g e = x) : (List.range n).map g = l := by
  apply List.ext_getElem?
  intro e
  rw [List.getElem?_map]
  by_cases he : e < n
  · obtain ⟨x, hx⟩ := getElem?_of_lt (l := l) (i := e) (by omega)
    rw [List.getElem?_range he, hx]
    show some (g e) = _
    rw [h e x hx]
  · rw [List.getElem?_eq_none (by simpa using he), List.getElem?_eq_none (by omega)]
    rfl

/-- small again it is itself. -/
theorem sm_self (v : Valid m) (hc : c = (List.range m.pm.n).map fun (d : Nat) => (d : Int)) (hf : ∀ d, d < m.pm.n → f d = d) : sm m c m.pm.n f = m := by
  have hnn : m.pm.n = m.Of.length := rfl
  have cid : ∀ x : Int, 0 ≤ x → x.toNat < m.pm.n → cOf c x = x := fun x h0 h1 => by
    unfold cOf
    rw [hc, range_getD h1]
    omega
  have lf := v.lf
  have li := v.li
  have ll := v.ll
  have lr := v.lr
  have e1 : smOf m f m.pm.n = m.Of := range_back rfl fun e x hx => by
    have he := (List.getElem?_eq_some_iff.1 hx).1
    rw [hf e he, getD_of hx]
  have e2 : smFi m f m.pm.n = m.Fi := range_back lf fun e x hx => by
    have he := (List.getElem?_eq_some_iff.1 hx).1
    rw [hf e (by omega), getD_of hx]
  have e3 : m.En.map (cOf c) = m.En := map_id_on fun x hx => cid x (v.enEl.2 x hx).1 (v.enEl.2 x hx).2
  have e4 : smIn m c f m.pm.n = m.In := range_back li fun e x hx => by
    have he := (List.getElem?_eq_some_iff.1 hx).1
    rw [hf e (by omega), getD_of hx]
    exact map_id_on fun y hy => cid y ((v.inEl (by omega) hx).2 y hy).1 ((v.inEl (by omega) hx).2 y hy).2
  have e5 : smLow m c f m.pm.n = m.Low := range_back ll fun e x hx => by
    have he := (List.getElem?_eq_some_iff.1 hx).1
    rw [hf e (by omega), getD_of hx]
    exact map_id_on fun y hy => cid y ((v.lowEl (by omega) hx).2 y hy).1 ((v.lowEl (by omega) hx).2 y hy).2
  have e6 : smRet m c m.pm.n f m.pm.n = m.Ret := range_back lr fun e x hx => by
    have he := (List.getElem?_eq_some_iff.1 hx).1
    rw [hf e (by omega), getD_of hx]
    have h2 := (v.retEl (by omega) hx).2
    conv => rhs; rw [← List.map_id x]
    refine List.map_congr_left fun l hl => ?_
    have h3 := h2 l hl
    show smRow c f l m.pm.n = l
    exact range_back h3.1 fun e' y hy => by
      have he' := (List.getElem?_eq_some_iff.1 hy).1
      rw [hf e' (by omega), getD_of hy]
      have := h3.2 y (List.mem_of_getElem? hy)
      exact cid y this.1 this.2
  unfold sm
  rw [e1, e2, e3, e4, e5, e6]
end
end Go.Proofs.Ytnpbehfhncbjfaa.W
end

section
/- FoldReaches' walk. Conditions: none. -/
namespace Go.Proofs.Ytnpbehfhncbjfaa.W
open Go Go.AM FoldPM
set_option linter.unusedVariables false
set_option maxRecDepth 100000

theorem bo0 (a b : Bool) : pBin Try.prog .neq 4 (.bool a) (.bool b) = some (.bool (!(a == b))) ∧ pBin Try.prog .eql 4 (.bool a) (.bool b) = some (.bool (a == b)) := ⟨by kernel_rfl, by kernel_rfl⟩
theorem w_neqBo {a b : Bool} {K : Value → Prop} (k : K (.bool (!(a == b)))) : optW (pBin Try.prog .neq 4 (.bool a) (.bool b)) K := w_some (bo0 a b).1 k
theorem w_eqlBo {a b : Bool} {K : Value → Prop} (k : K (.bool (a == b))) : optW (pBin Try.prog .eql 4 (.bool a) (.bool b)) K := w_some (bo0 a b).2 k

/-- how a law begins. -/
theorem lawStart {h : AH} {a0 : Int} {v1 : Value} {ns : List Int} {A : Value → AH → Prop} {Q : Value → Value → Value → Value → AH → Prop} (hns : Ints h v1 ns) (hm : h.length = 1 ∨ h.length = 2 ∨ h.length = 3)
    (k : ∀ h4 b o u m bx, Ex h h4 → MoO h4 b o u m → h.length ≤ b → Valid m → h4[bx]? = some (.row (moRow u m) true) → h.length ≤ bx → o bx = .no → Q (.bool true) (.bool false) (.agg (moRow u m).toArray) (.pointer (some ⟨bx, 0, none⟩)) h4) :
    callW Try.prog 13 [] h fun v10 h_1 => optW (pUn .not v10) fun v11 => condW v11 (A v10 h_1) (callW Try.prog 14 [.int .i64 a0, v1] h_1 fun v14 h_2 =>
      newR none [(.int .i64 0), (.int .i64 0), (.slice none 0 0), (.slice none 0 0), (.slice none 0 0), (.slice none 0 0), (.slice none 0 0), (.slice none 0 0)] h_2 fun v7 h_3 => optW (pStore 8 v7 v14 h_3) fun h_4 => Q v10 v11 v14 v7 h_4) := by
  refine known13 hm fun h1 x1 => w_notb (c_f ?_)
  refine make14o (Sl.ex hns x1) fun h2 u m o x2 mo v => ?_
  refine n_rowv fun h3 x3 l3 g3 => stM g3 rfl ?_
  have lt3 := lt_of_get g3
  have x4 : Ex h2 (h3.set h2.length (.row (moRow u m) true)) := x3.set (Nat.le_refl _) _
  have l4 : (h3.set h2.length (.row (moRow u m) true)).length = h2.length + 1 := by rw [List.length_set]; exact l3
  refine k _ h1.length o u m h2.length ((x1.trans x2).trans x4) (mo.keep (by omega) fun j hj => x4.get j (mo.on j hj).2) x1.len v (get_set _ lt3 _) (by have := x1.len; have := x2.len; omega) ?_
  by_cases e : o h2.length = .no
  · exact e
  · have := (mo.on _ e).2
    omega

/-- a copy: an empty one, then all behind it. -/
theorem cloneApp {s : Nat} {h : AH} {i n : Nat} {v : Value} {cs : List Value} {K : Value → AH → Prop} (hs : 0 < s) (g : h[i]? = some (.row [] true)) (hv : Sl s h v n cs) (n0 : 0 < n) (hn : n < room40)
    (k : K (.slice (some ⟨h.length, 0, none⟩) n (openCap + s)) (h ++ [.row cs true])) : appSl s (.slice (some ⟨i, 0, none⟩) 0 0) v h K := by
  refine appSl_sl hv (.inl ?_)
  have hsrc := srcL_sl hs hv
  have : pAppS s (.slice (some ⟨i, 0, none⟩) 0 0) v h = some (.slice (some ⟨h.length, 0, none⟩) (0 + n) (openCap + s), h ++ [AObj.row ([] ++ cs) true]) := by
    unfold pAppS
    simp only [hsrc]
    rw [if_pos (by omega), if_pos (by decide)]
    simp only [pAppEx]
    rw [if_neg (by omega), Nat.zero_mul]
    simp [firstL]
  rw [this, Nat.zero_add, List.nil_append]
  exact k

theorem ownNew {s n : Nat} {h : AH} {cs : List Value} (hl : cs.length = n * s) : OwnG s (fun j => j = h.length) (h ++ [.row cs true]) (.slice (some ⟨h.length, 0, none⟩) n (openCap + s)) n cs :=
  ⟨hl, .inr ⟨h.length, cs, rfl, rfl, get_new _ _, by omega, by rw [← hl, List.take_length]⟩⟩

end Go.Proofs.Ytnpbehfhncbjfaa.W
end

section
/- FoldApart's walk. Conditions: none. -/
namespace Go.Proofs.Ytnpbehfhncbjfaa.W
open Go Go.AM FoldPM
set_option linter.unusedVariables false
set_option maxRecDepth 100000

theorem reserve_two (h : AH) : reserve 2 h = (h ++ [.dead]) ++ [.dead] := rfl
theorem res2 (h : AH) : Ex h (reserve 2 h) ∧ (reserve 2 h).length = h.length + 2 ∧ (reserve 2 h)[h.length]? = some .dead ∧ (reserve 2 h)[h.length + 1]? = some .dead := by
  have e : (h ++ [AObj.dead]).length = h.length + 1 := by simp
  rw [reserve_two]
  refine ⟨(Ex.app _ _).trans (.app _ _), by simp, (Ex.app (h ++ [AObj.dead]) [AObj.dead]).some (get_new _ _), ?_⟩
  have := get_new (h ++ [AObj.dead]) AObj.dead
  rw [e] at this
  exact this

/-- two boxes with copies of a machine. -/
theorem twoBoxes {h : AH} {bx : Nat} {u : MoV} {m : Mo} {Q : Value → Value → Value → Value → AH → Prop} (g : h[bx]? = some (.row (moRow u m) true))
    (k : ∀ h', Ex h h' → h'.length = h.length + 2 → h'[h.length]? = some (.row (moRow u m) true) → h'[h.length + 1]? = some (.row (moRow u m) true) → Q (.agg (moRow u m).toArray) (.agg (moRow u m).toArray) (.pointer (some ⟨h.length, 0, none⟩)) (.pointer (some ⟨h.length + 1, 0, none⟩)) h') :
    optW (rdRow true 8 (.pointer (some ⟨bx, 0, none⟩)) (reserve 2 h)) fun v63 => optW (rdRow true 8 (.pointer (some ⟨bx, 0, none⟩)) (reserve 2 h)) fun v64 =>
      newR (some (h.length)) [(.int .i64 0), (.int .i64 0), (.slice none 0 0), (.slice none 0 0), (.slice none 0 0), (.slice none 0 0), (.slice none 0 0), (.slice none 0 0)] (reserve 2 h) fun v15 h_23 =>
      newR (some (h.length + 1)) [(.int .i64 0), (.int .i64 0), (.slice none 0 0), (.slice none 0 0), (.slice none 0 0), (.slice none 0 0), (.slice none 0 0), (.slice none 0 0)] h_23 fun v16 h_24 =>
      optW (pStore 8 v15 v63 h_24) fun h_25 => (∀ x ∈ (idOf (.pointer (some ⟨bx, 0, none⟩))), (h_24 : AH)[x]? = (h_25 : AH)[x]?) ∧ optW (pStore 8 v16 v64 h_25) fun h_26 => Q v63 v64 v15 v16 h_26 := by
  obtain ⟨xr, lr, _, _⟩ := res2 h
  have lb := lt_of_get g
  refine w_rdPA (xr.some g) (Nat.le_refl 8) (w_rdPA (xr.some g) (Nat.le_refl 8) ?_)
  refine n_slot (n_slot ?_)
  have ga : ((reserve 2 h).set h.length (.row [(.int .i64 0), (.int .i64 0), (.slice none 0 0), (.slice none 0 0), (.slice none 0 0), (.slice none 0 0), (.slice none 0 0), (.slice none 0 0)] true))[h.length]? = some (.row [(.int .i64 0), (.int .i64 0), (.slice none 0 0), (.slice none 0 0), (.slice none 0 0), (.slice none 0 0), (.slice none 0 0), (.slice none 0 0)] true) := get_set _ (by omega) _
  have xa : Ex h ((reserve 2 h).set h.length (.row [(.int .i64 0), (.int .i64 0), (.slice none 0 0), (.slice none 0 0), (.slice none 0 0), (.slice none 0 0), (.slice none 0 0), (.slice none 0 0)] true)) := xr.set (Nat.le_refl _) _
  have la : ((reserve 2 h).set h.length (.row [(.int .i64 0), (.int .i64 0), (.slice none 0 0), (.slice none 0 0), (.slice none 0 0), (.slice none 0 0), (.slice none 0 0), (.slice none 0 0)] true)).length = h.length + 2 := by rw [List.length_set]; exact lr
  generalize (reserve 2 h).set h.length (.row [(.int .i64 0), (.int .i64 0), (.slice none 0 0), (.slice none 0 0), (.slice none 0 0), (.slice none 0 0), (.slice none 0 0), (.slice none 0 0)] true) = ha at *
  have gb : (ha.set (h.length + 1) (.row [(.int .i64 0), (.int .i64 0), (.slice none 0 0), (.slice none 0 0), (.slice none 0 0), (.slice none 0 0), (.slice none 0 0), (.slice none 0 0)] true))[h.length + 1]? = some (.row [(.int .i64 0), (.int .i64 0), (.slice none 0 0), (.slice none 0 0), (.slice none 0 0), (.slice none 0 0), (.slice none 0 0), (.slice none 0 0)] true) := get_set _ (by omega) _
  have ga2 : (ha.set (h.length + 1) (.row [(.int .i64 0), (.int .i64 0), (.slice none 0 0), (.slice none 0 0), (.slice none 0 0), (.slice none 0 0), (.slice none 0 0), (.slice none 0 0)] true))[h.length]? = some (.row [(.int .i64 0), (.int .i64 0), (.slice none 0 0), (.slice none 0 0), (.slice none 0 0), (.slice none 0 0), (.slice none 0 0), (.slice none 0 0)] true) := (get_ne (by omega) _).trans ga
  have xb : Ex h (ha.set (h.length + 1) (.row [(.int .i64 0), (.int .i64 0), (.slice none 0 0), (.slice none 0 0), (.slice none 0 0), (.slice none 0 0), (.slice none 0 0), (.slice none 0 0)] true)) := xa.set (by omega) _
  have lb2 : (ha.set (h.length + 1) (.row [(.int .i64 0), (.int .i64 0), (.slice none 0 0), (.slice none 0 0), (.slice none 0 0), (.slice none 0 0), (.slice none 0 0), (.slice none 0 0)] true)).length = h.length + 2 := by rw [List.length_set]; exact la
  generalize ha.set (h.length + 1) (.row [(.int .i64 0), (.int .i64 0), (.slice none 0 0), (.slice none 0 0), (.slice none 0 0), (.slice none 0 0), (.slice none 0 0), (.slice none 0 0)] true) = hb at *
  refine stM ga2 rfl ⟨ptr_id (get_ne (by omega) _), ?_⟩
  have gb3 : (hb.set h.length (.row (moRow u m) true))[h.length + 1]? = some (.row [(.int .i64 0), (.int .i64 0), (.slice none 0 0), (.slice none 0 0), (.slice none 0 0), (.slice none 0 0), (.slice none 0 0), (.slice none 0 0)] true) := (get_ne (by omega) _).trans gb
  refine stM gb3 rfl ?_
  exact k _ ((xb.set (Nat.le_refl _) _).set (by omega) _) (by rw [List.length_set, List.length_set]; exact lb2) ((get_ne (by omega) _).trans (get_set _ (by omega) _)) (get_set _ (by rw [List.length_set]; omega) _)

theorem natOf {a : Int} {n : Nat} (h : 0 < n) : ∃ p : Nat, a % (n : Int) = (p : Nat) ∧ p < n :=
  ⟨(a % (n : Int)).toNat, by have := Int.emod_nonneg a (show (n : Int) ≠ 0 by omega); omega, by have := Int.emod_lt_of_pos a (show (0 : Int) < (n : Int) by omega); have := Int.emod_nonneg a (show (n : Int) ≠ 0 by omega); omega⟩

/-- another state to begin with. -/
def Mo.at (m : Mo) (x : Nat) : Mo := { m with En := m.En.set 0 (x : Int) }
theorem Mo.at_ok {m : Mo} {x : Nat} (v : Valid m) (hx : x < m.pm.n) (h0 : m.pm.of x = 0) : Valid (m.at x) := by
  refine ⟨v.pl, v.cl, v.n1, v.n2, ?_, ?_, ?_, ?_, v.lf, v.li, v.ll, v.lr, v.st⟩
  · show 1 ≤ ((m.En.set 0 (x : Int)).length : Int); rw [List.length_set]; exact v.k1
  · show ((m.En.set 0 (x : Int)).length : Int) ≤ 21; rw [List.length_set]; exact v.k2
  · intro k y hy
    show 0 ≤ y ∧ y < ((m.En.set 0 (x : Int)).length : Int)
    rw [List.length_set]
    exact v.of k y hy
  · intro k y hy
    have hy' : (m.En.set 0 (x : Int))[k]? = some y := hy
    by_cases e : k = 0
    · subst e
      rw [List.getElem?_set_self (by have := v.k1; omega)] at hy'
      cases hy'
      refine ⟨by omega, by show (x : Int) < (m.Of.length : Nat); have : x < m.Of.length := hx; omega, ?_⟩
      have := v.ofAt hx
      rw [h0] at this
      exact this
    · rw [List.getElem?_set_ne (Ne.symm e)] at hy'
      exact v.en k y hy'
theorem Mo.at_takes {m : Mo} {x : Nat} (v : Valid m) (hx : x < m.pm.n) (h0 : m.pm.of x = 0) (w : List (Int × Int)) : takes (m.at x).pm w = tk m.pm [] x w := by
  have v' := Mo.at_ok v hx h0
  have e0 : (m.at x).pm.en 0 = x := by
    show ((m.En.set 0 (x : Int)).getD 0 0).toNat = x
    have : (m.En.set 0 (x : Int))[0]? = some (x : Int) := List.getElem?_set_self (by have := v.k1; omega)
    rw [getD_of this]
    rfl
  have bis : Bis (m.at x).pm m.pm fun p q => p = q := by
    refine ⟨by show (m.En.set 0 (x : Int)).length = m.En.length; rw [List.length_set], rfl, rfl, fun p q e => by subst e; rfl, fun p q e => by subst e; rfl, fun c hc _ => ?_, fun p q i e _ => by subst e; rfl, fun p q j e _ _ => by subst e; rfl, fun p q x y j e e' _ _ => by subst e; subst e'; rfl⟩
    show ((m.En.set 0 (x : Int)).getD c 0).toNat = (m.En.getD c 0).toNat
    rw [List.getD_eq_getElem?_getD, List.getD_eq_getElem?_getD, List.getElem?_set_ne (by omega)]
  unfold takes
  rw [e0]
  exact tk_bis v'.ok bis w [] [] x x (.start v'.ok hx h0) rfl rfl fun i a b ha => by simp at ha

end Go.Proofs.Ytnpbehfhncbjfaa.W
end

section
/- Fold's laws: a machine with each state twice, under way: steps. Conditions: none. -/
namespace Go.Proofs.Ytnpbehfhncbjfaa.W
open Go Go.AM FoldPM
set_option linter.unusedVariables false
set_option maxRecDepth 100000

/-- as SMs.app, and the other kept places stay. -/
theorem SMs.appX {hk : AH} {T r i : Nat} {v : Nat → Value} {cs : Nat → List Value} {Z : Nat → Prop} {x z w : Value} {Q : List Value → Nat → AH → Value → AH → Prop} (s : SMs hk T v cs Z) (hi : i < 11) (hT : T < r) (hr : hk[r]? = some .dead) (hz : ¬ Z r) (hw : w = v i) (hx : cellsL x = [x]) (h1 : x.oneCell' = true) (hn : (cs i).length ≤ 1000)
    (k : ∀ c j h15 v' h', (∀ j, j ≤ T → h15[j]? = hk[j]?) → SMs h' T (updV v i v') (updC cs i (cs i ++ [x])) Z → (∃ a n c, v' = .slice a n c) → hk.length ≤ h'.length → (∀ j, j ≤ T → h'[j]? = hk[j]?) → (∀ j, Z j → h'[j]? = hk[j]?) → (∀ j, j ≠ r → hk[j]? = some .dead → h'[j]? = some .dead) → Q c j h15 v' h') :
    optW (bldSl 1 [z] 1 [(0, x)]) fun c => newW (some r) (.row c true) hk fun j h15 => appSl 1 w (.slice (some ⟨j, 0, none⟩) 1 1) h15 fun v' h' => Q c j h15 v' h' := by
  subst hw
  refine bldT rfl (by decide) (by rw [hx]; rfl) (by rw [hx]; simp [h1]) (n_slot ?_)
  rw [hx]
  have lr := lt_of_get hr
  have nd : ∀ {d}, hk[d]? = some .dead → ∀ i, i < 11 → ¬ onId (v i) d := fun {d} hd i hi hh => by
    obtain ⟨_, ⟨hv, _⟩ | ⟨id, c, _, hv, g, _⟩⟩ := s.sl.own i hi
    · rw [hv] at hh; exact hh
    · rw [hv] at hh
      have : id = d := hh
      subst this
      rw [hd] at g
      cases g
  have nr := nd hr
  have s1 : SL (hk.set r (.row [x] true)) T v cs := ⟨fun i hi => (s.sl.own i hi).mono (fun _ _ h => h) fun j hj _ => get_ne (by intro e; subst e; exact nr i hi hj) _, s.sl.ap⟩
  refine s1.app i hi (get_set _ lr _) (by rw [List.length_set]; omega) nr (by have := bigR; omega) fun v' h' a1 a2 a3 a4 a5 => ?_
  rw [List.length_set] at a3 a4 a5
  obtain ⟨ad, nd', cd, ev⟩ : ∃ a n c, v' = .slice a n c := by
    have := (a1.own i hi)
    unfold updV at this
    rw [if_pos rfl] at this
    obtain ⟨a, n, c, e⟩ := Sl.isSl this.sl
    exact ⟨a, n, c, e⟩
  have hZ : ∀ j, Z j → h'[j]? = hk[j]? := fun j hj => by
    have := s.z j hj
    rw [a4 j this.2.1 this.2.2]
    exact get_ne (by intro e; subst e; exact hz hj) _
  refine k _ _ _ v' h' (fun j hj => get_ne (by omega) _) ⟨a1, fun j hj => ⟨(s.z j hj).1, by have := (s.z j hj).2.1; omega, fun b hb hh => ?_⟩⟩ ⟨ad, nd', cd, ev⟩ a3 (fun j hj => by rw [a2 j hj]; exact get_ne (by omega) _) hZ fun j hj hd => ?_
  · unfold updV at hh
    by_cases e : b = i
    · rw [if_pos e] at hh
      rcases a5 j hh with h | h
      · exact (s.z j hj).2.2 i hi h
      · have := (s.z j hj).2.1; omega
    · rw [if_neg e] at hh
      exact (s.z j hj).2.2 b hb hh
  · rw [a4 j (lt_of_get hd) (nd hd), get_ne (Ne.symm hj)]
    exact hd

/-- one of the growing slices is done: it is laid aside. -/
theorem SMs.freeze {h : AH} {T : Nat} {v : Nat → Value} {cs : Nat → List Value} {Z : Nat → Prop} (s : SMs h T v cs Z) (i : Nat) (hi : i < 11) : SMs h T (updV v i (.slice none 0 0)) (updC cs i []) (fun j => Z j ∨ onId (v i) j) := by
  refine ⟨s.sl.reset i, fun j hj => ?_⟩
  rcases hj with hj | hj
  · exact (s.reset i).z j hj
  · have := s.sl.on hi hj
    refine ⟨this.1, this.2, fun b hb hh => ?_⟩
    unfold updV at hh
    by_cases e : b = i
    · rw [if_pos e] at hh; exact hh
    · rw [if_neg e] at hh; exact s.sl.ap i b hi hb (fun e' => e e'.symm) j hj hh

structure Tw (hA h : AH) (T : Nat) (pc : Value × Value) (vo ve vf : Value) (oo : List Int) (ff : List Bool) (v : Nat → Value) (cs : Nat → List Value) (Z : Nat → Prop) (a0 a1 : List (List Int)) (a2 : List (List (List Int))) (a3 a4 : List Int) (a5 : List (List Int)) (a6 : List Int) : Prop where
  ex : Ex hA h
  tl : hA.length ≤ T
  box : h[T]? = some (.row [pc.1, pc.2, vo, ve, vf, v 0, v 1, v 2] true)
  s : SMs h T v cs Z
  eo : Ints h vo oo
  ef : SlT 1 eBo h vf ff
  zo : ∀ j, onId vo j → Z j
  zf : ∀ j, onId vf j → Z j
  c0 : RowsZ h Z (cs 0) a0
  c1 : RowsZ h Z (cs 1) a1
  c2 : RetsZ h Z (cs 2) a2
  c3 : cs 3 = flat eI a3
  c4 : cs 4 = flat eI a4
  c5 : RowsZ h Z (cs 5) a5
  c6 : cs 6 = flat eI a6

section
variable {hA h : AH} {T : Nat} {pc : Value × Value} {vo ve vf : Value} {oo : List Int} {ff : List Bool} {v : Nat → Value} {cs : Nat → List Value} {Z : Nat → Prop} {a0 a1 : List (List Int)} {a2 : List (List (List Int))} {a3 a4 : List Int} {a5 : List (List Int)} {a6 : List Int}
theorem Tw.lt (s : Tw hA h T pc vo ve vf oo ff v cs Z a0 a1 a2 a3 a4 a5 a6) : T < h.length := lt_of_get s.box
theorem Tw.after {h' : AH} {Z' : Nat → Prop} {v' : Nat → Value} {cs' : Nat → List Value} (s : Tw hA h T pc vo ve vf oo ff v cs Z a0 a1 a2 a3 a4 a5 a6) (l : h.length ≤ h'.length) (hT : ∀ j, j < T → h'[j]? = h[j]?) (hZ : ∀ j, Z j → h'[j]? = h[j]?) (zz : ∀ j, Z j → Z' j) :
    Ex hA h' ∧ Ints h' vo oo ∧ SlT 1 eBo h' vf ff ∧ RowsZ h' Z' (cs 0) a0 ∧ RowsZ h' Z' (cs 1) a1 ∧ RetsZ h' Z' (cs 2) a2 ∧ RowsZ h' Z' (cs 5) a5 :=
  ⟨s.ex.below l fun j hj => hT j (by have := s.tl; omega), Sl.keepOn s.eo fun j hj => hZ j (s.zo j hj), Sl.keepOn s.ef fun j hj => hZ j (s.zf j hj), s.c0.to zz hZ, s.c1.to zz hZ, s.c2.to zz hZ, s.c5.to zz hZ⟩
theorem Tw.exx {h' : AH} (s : Tw hA h T pc vo ve vf oo ff v cs Z a0 a1 a2 a3 a4 a5 a6) (x : Ex h h') : Tw hA h' T pc vo ve vf oo ff v cs Z a0 a1 a2 a3 a4 a5 a6 := by
  obtain ⟨y0, y1, y2, y3, y4, y5, y6⟩ := s.after (v' := v) (cs' := cs) (Z' := Z) x.len (fun j hj => x.get j (by have := s.lt; omega)) (fun j hj => x.get j (s.s.z j hj).2.1) fun _ h => h
  exact ⟨y0, s.tl, x.some s.box, s.s.ex x, y1, y2, s.zo, s.zf, y3, y4, y5, s.c3, s.c4, y6, s.c6⟩
theorem Tw.reset3 (s : Tw hA h T pc vo ve vf oo ff v cs Z a0 a1 a2 a3 a4 a5 a6) : Tw hA h T pc vo ve vf oo ff (updV v 3 (.slice none 0 0)) (updC cs 3 []) Z a0 a1 a2 [] a4 a5 a6 :=
  ⟨s.ex, s.tl, s.box, s.s.reset 3, s.eo, s.ef, s.zo, s.zf, s.c0, s.c1, s.c2, rfl, s.c4, s.c5, s.c6⟩
theorem Tw.reset4 (s : Tw hA h T pc vo ve vf oo ff v cs Z a0 a1 a2 a3 a4 a5 a6) : Tw hA h T pc vo ve vf oo ff (updV v 4 (.slice none 0 0)) (updC cs 4 []) Z a0 a1 a2 a3 [] a5 a6 :=
  ⟨s.ex, s.tl, s.box, s.s.reset 4, s.eo, s.ef, s.zo, s.zf, s.c0, s.c1, s.c2, s.c3, rfl, s.c5, s.c6⟩
theorem Tw.reset5 (s : Tw hA h T pc vo ve vf oo ff v cs Z a0 a1 a2 a3 a4 a5 a6) : Tw hA h T pc vo ve vf oo ff (updV v 5 (.slice none 0 0)) (updC cs 5 []) Z a0 a1 a2 a3 a4 [] a6 :=
  ⟨s.ex, s.tl, s.box, s.s.reset 5, s.eo, s.ef, s.zo, s.zf, s.c0, s.c1, s.c2, s.c3, s.c4, RowsZ.nil _ _, s.c6⟩
theorem Tw.reset6 (s : Tw hA h T pc vo ve vf oo ff v cs Z a0 a1 a2 a3 a4 a5 a6) : Tw hA h T pc vo ve vf oo ff (updV v 6 (.slice none 0 0)) (updC cs 6 []) Z a0 a1 a2 a3 a4 a5 [] :=
  ⟨s.ex, s.tl, s.box, s.s.reset 6, s.eo, s.ef, s.zo, s.zf, s.c0, s.c1, s.c2, s.c3, s.c4, s.c5, rfl⟩

variable {z : Value} {r : Nat} {Q' : List Value → Nat → Value → AH → Prop}
theorem dead1 (h : AH) : (reserve 1 h)[h.length]? = some .dead := by rw [reserve_one]; exact get_new _ _
theorem Tw.app3 {x : Int} (s : Tw hA h T pc vo ve vf oo ff v cs Z a0 a1 a2 a3 a4 a5 a6) (hn : a3.length ≤ 1000)
    (k : ∀ c j v' h', Tw hA h' T pc vo ve vf oo ff (updV v 3 v') (updC cs 3 (cs 3 ++ [.int .i64 x])) Z a0 a1 a2 (a3 ++ [x]) a4 a5 a6 → Q' c j v' h') :
    optW (bldSl 1 [z] 1 [(0, .int .i64 x)]) fun c => newW none (.row c true) h fun j h15 => appSl 1 (v 3) (.slice (some ⟨j, 0, none⟩) 1 1) h15 fun v' h' => Q' c j v' h' := by
  have sr := s.exx (Ex.res h)
  have key := sr.s.app (i := 3) (r := h.length) (z := z) (x := .int .i64 x) (w := v 3) (Q := Q') (by decide) s.lt (dead1 h) (fun hz => by have := (s.s.z _ hz).2.1; omega) rfl rfl rfl (by rw [s.c3, flat_eI_len]; exact hn) fun c j v' h' s' _ l hTs hZs => by
    obtain ⟨y0, y1, y2, y3, y4, y5, y6⟩ := sr.after (v' := v) (cs' := cs) (Z' := Z) l (fun j hj => hTs j (by omega)) hZs fun _ h => h
    exact k _ _ _ _ ⟨y0, s.tl, (hTs _ (Nat.le_refl _)).trans sr.box, s', y1, y2, s.zo, s.zf, y3, y4, y5, by show cs 3 ++ [_] = _; rw [s.c3, flat_append]; rfl, s.c4, y6, s.c6⟩
  exact optW_mono (fun c hc => n_unres hc) key
theorem Tw.app4 {x : Int} (s : Tw hA h T pc vo ve vf oo ff v cs Z a0 a1 a2 a3 a4 a5 a6) (hn : a4.length ≤ 1000)
    (k : ∀ c j v' h', Tw hA h' T pc vo ve vf oo ff (updV v 4 v') (updC cs 4 (cs 4 ++ [.int .i64 x])) Z a0 a1 a2 a3 (a4 ++ [x]) a5 a6 → Q' c j v' h') :
    optW (bldSl 1 [z] 1 [(0, .int .i64 x)]) fun c => newW none (.row c true) h fun j h15 => appSl 1 (v 4) (.slice (some ⟨j, 0, none⟩) 1 1) h15 fun v' h' => Q' c j v' h' := by
  have sr := s.exx (Ex.res h)
  have key := sr.s.app (i := 4) (r := h.length) (z := z) (x := .int .i64 x) (w := v 4) (Q := Q') (by decide) s.lt (dead1 h) (fun hz => by have := (s.s.z _ hz).2.1; omega) rfl rfl rfl (by rw [s.c4, flat_eI_len]; exact hn) fun c j v' h' s' _ l hTs hZs => by
    obtain ⟨y0, y1, y2, y3, y4, y5, y6⟩ := sr.after (v' := v) (cs' := cs) (Z' := Z) l (fun j hj => hTs j (by omega)) hZs fun _ h => h
    exact k _ _ _ _ ⟨y0, s.tl, (hTs _ (Nat.le_refl _)).trans sr.box, s', y1, y2, s.zo, s.zf, y3, y4, y5, s.c3, by show cs 4 ++ [_] = _; rw [s.c4, flat_append]; rfl, y6, s.c6⟩
  exact optW_mono (fun c hc => n_unres hc) key
theorem Tw.app6 {x : Int} (s : Tw hA h T pc vo ve vf oo ff v cs Z a0 a1 a2 a3 a4 a5 a6) (hn : a6.length ≤ 1000)
    (k : ∀ c j v' h', Tw hA h' T pc vo ve vf oo ff (updV v 6 v') (updC cs 6 (cs 6 ++ [.int .i64 x])) Z a0 a1 a2 a3 a4 a5 (a6 ++ [x]) → Q' c j v' h') :
    optW (bldSl 1 [z] 1 [(0, .int .i64 x)]) fun c => newW (some h.length) (.row c true) (reserve 1 h) fun j h15 => appSl 1 (v 6) (.slice (some ⟨j, 0, none⟩) 1 1) h15 fun v' h' => Q' c j v' h' := by
  have sr := s.exx (Ex.res h)
  refine sr.s.app (i := 6) (by decide) s.lt (dead1 h) (fun hz => by have := (s.s.z _ hz).2.1; omega) rfl rfl rfl (by rw [s.c6, flat_eI_len]; exact hn) fun c j v' h' s' _ l hTs hZs => ?_
  obtain ⟨y0, y1, y2, y3, y4, y5, y6⟩ := sr.after (v' := v) (cs' := cs) (Z' := Z) l (fun j hj => hTs j (by omega)) hZs fun _ h => h
  exact k _ _ _ _ ⟨y0, s.tl, (hTs _ (Nat.le_refl _)).trans sr.box, s', y1, y2, s.zo, s.zf, y3, y4, y5, s.c3, s.c4, y6, by show cs 6 ++ [_] = _; rw [s.c6, flat_append]; rfl⟩
/-- a row is done: it goes to the rows. -/
theorem Tw.app5 (s : Tw hA h T pc vo ve vf oo ff v cs Z a0 a1 a2 a3 a4 a5 a6) (hn : a5.length ≤ 1000)
    (k : ∀ c j v' h' Z' V C, V 5 = v' → V 0 = v 0 → V 1 = v 1 → V 2 = v 2 → V 3 = v 3 → V 4 = v 4 → Tw hA h' T pc vo ve vf oo ff V C Z' a0 a1 a2 a3 a4 (a5 ++ [a6]) [] → Q' c j v' h') :
    optW (bldSl 1 [z] 1 [(0, v 6)]) fun c => newW none (.row c true) h fun j h15 => appSl 1 (v 5) (.slice (some ⟨j, 0, none⟩) 1 1) h15 fun v' h' => Q' c j v' h' := by
  have sr := s.exx (Ex.res h)
  have i6 : Ints (reserve 1 h) (v 6) a6 := by
    have := (sr.s.sl.own 6 (by decide)).sl
    rw [s.c6] at this
    unfold Ints SlT
    rw [flat_eI_len] at this
    exact this
  obtain ⟨ad, nd, cd, ev⟩ := Sl.isSl i6
  have sf := sr.s.freeze 6 (by decide)
  have key := sf.app (i := 5) (r := h.length) (z := z) (x := v 6) (w := v 5) (Q := Q') (by decide) s.lt (dead1 h) (fun hz => by
      rcases hz with hz | hz
      · have := (s.s.z _ hz).2.1; omega
      · have := (s.s.sl.on (by decide) hz).2; omega) rfl (by rw [ev]; rfl) (by rw [ev]; rfl) (by show (cs 5).length ≤ 1000; rw [s.c5.1]; exact hn) fun c j v' h' s' _ l hTs hZs => by
    obtain ⟨y0, y1, y2, y3, y4, y5, y6⟩ := sr.after (v' := v) (cs' := cs) (Z' := fun j => Z j ∨ onId (v 6) j) l (fun j hj => hTs j (by omega)) (fun j hj => hZs j (.inl hj)) fun _ h => .inl h
    refine k c j v' h' (fun j => Z j ∨ onId (v 6) j) (updV (updV v 6 (.slice none 0 0)) 5 v') (updC (updC cs 6 []) 5 (updC cs 6 [] 5 ++ [v 6])) rfl rfl rfl rfl rfl rfl ⟨y0, s.tl, (hTs _ (Nat.le_refl _)).trans sr.box, s', y1, y2, fun j hj => .inl (s.zo j hj), fun j hj => .inl (s.zf j hj), y3, y4, y5, s.c3, s.c4, ?_, rfl⟩
    exact y6.snoc (Sl.keepOn i6 fun j hj => hZs j (.inr hj)) fun j hj => .inr hj
  exact optW_mono (fun c hc => n_unres hc) key

theorem res3 (h : AH) : Ex h (reserve 3 h) ∧ (reserve 3 h).length = h.length + 3 ∧ (reserve 3 h)[h.length]? = some .dead ∧ (reserve 3 h)[h.length + 1]? = some .dead ∧ (reserve 3 h)[h.length + 2]? = some .dead := by
  obtain ⟨a, b, c, d⟩ := res2 h
  have e : reserve 3 h = reserve 2 h ++ [.dead] := rfl
  have x : Ex (reserve 2 h) (reserve 3 h) := by rw [e]; exact .app _ _
  refine ⟨a.trans x, by rw [e, List.length_append, b]; rfl, x.some c, x.some d, ?_⟩
  rw [e, ← b]
  exact get_new _ _
end
end Go.Proofs.Ytnpbehfhncbjfaa.W
end

section
/- Fold's laws: a machine with each state twice: a state's lot is laid; numbers turned by bits. Conditions: none. -/
namespace Go.Proofs.Ytnpbehfhncbjfaa.W
open Go Go.AM FoldPM
set_option linter.unusedVariables false
set_option maxRecDepth 100000

theorem band1 (x : Int) : IntKind.i64.wrap (BitVec.ofInt IntKind.i64.bits x &&& BitVec.ofInt IntKind.i64.bits 1).toNat = 0 ∨ IntKind.i64.wrap (BitVec.ofInt IntKind.i64.bits x &&& BitVec.ofInt IntKind.i64.bits 1).toNat = 1 := by
  have h1 : (BitVec.ofInt IntKind.i64.bits 1).toNat = 1 := by decide
  rw [BitVec.toNat_and, h1, Nat.and_one_is_mod]
  rcases Nat.mod_two_eq_zero_or_one (BitVec.ofInt IntKind.i64.bits x).toNat with h | h
  · left; rw [h]; decide
  · right; rw [h]; decide

theorem u64n (x : Int) : 0 ≤ IntKind.u64.wrap x := by
  simp only [IntKind.wrap, IntKind.bits, IntKind.signed]
  simp
  omega

/-- a number, perhaps with n more. -/
theorem bits {kk bits x n : Int} {Q : Value → Value → Value → Value → Value → Value → Prop} (hn : 0 ≤ n ∧ n ≤ 1000) (hx : 0 ≤ x ∧ x ≤ 1000) (k : ∀ v85 v86 v87 v88 v89 y, (y = x ∨ y = x + n) → Q v85 v86 v87 v88 v89 (.int .i64 y)) :
    optW (pBin Try.prog .rem 3 (.int .i64 kk) (.int .i64 40)) fun v85 => optW (convI .u64 v85) fun v86 => optW (pBin Try.prog .shr 3 (.int .i64 bits) v86) fun v87 => optW (pBin Try.prog .and 3 v87 (.int .i64 1)) fun v88 => optW (pBin Try.prog .mul 3 (.int .i64 n) v88) fun v89 => optW (pBin Try.prog .add 3 (.int .i64 x) v89) fun v90 => Q v85 v86 v87 v88 v89 v90 := by
  refine w_tmod (by decide) ?_
  refine w_some (v := .int .u64 (IntKind.u64.wrap (kk.tmod 40))) rfl ?_
  have h0 := u64n (kk.tmod 40)
  generalize IntKind.u64.wrap (kk.tmod 40) = s at *
  refine w_some (v := .int .i64 (bits.fdiv (2 ^ (min s.toNat IntKind.i64.bits)))) (by show pShift .shr .i64 bits s = _; unfold pShift; rw [if_neg (by omega)]) ?_
  generalize bits.fdiv (2 ^ (min s.toNat IntKind.i64.bits)) = b
  refine w_some (v := .int .i64 (IntKind.i64.wrap (BitVec.ofInt IntKind.i64.bits b &&& BitVec.ofInt IntKind.i64.bits 1).toNat)) (by show (if IntKind.i64 = IntKind.i64 then pBinI .and .i64 b 1 else none) = _; rw [if_pos rfl]; rfl) ?_
  rcases band1 b with h | h
  · rw [h]
    refine w_mul (by omega) (by omega) (w_add (by omega) (by omega) (k _ _ _ _ _ _ (.inl (by omega))))
  · rw [h]
    refine w_mul (by omega) (by omega) (w_add (by omega) (by omega) (k _ _ _ _ _ _ (.inr (by omega))))

/-- of a list, element by element. -/
def DL {β : Type} (P : Nat → β → Prop) (a : List β) (s : Nat) : Prop := a.length = s ∧ ∀ (i : Nat) (b : β), a[i]? = some b → P i b
theorem DL.nil {β : Type} (P : Nat → β → Prop) : DL P [] 0 := ⟨rfl, fun i b h => by simp at h⟩
theorem DL.snoc {β : Type} {P : Nat → β → Prop} {a : List β} {s : Nat} {b : β} (d : DL P a s) (h : P s b) : DL P (a ++ [b]) (s + 1) := by
  refine ⟨by simp [d.1], fun i b' hb => ?_⟩
  rcases getElem?_snoc hb with hb | ⟨rfl, rfl⟩
  · exact d.2 i b' hb
  · rw [d.1]; exact h
def PE (n : Nat) (l : List Int) (i : Nat) (x' : Int) : Prop := ∃ x, l[i]? = some x ∧ (x' = x ∨ x' = x + n)
def PR (n : Nat) (l : List Int) (q : Nat) (x' : Int) : Prop := ∃ x, l[q % n]? = some x ∧ (x' = x ∨ x' = x + n)
def P0 (n : Nat) (L : List (List Int)) (i : Nat) (l' : List Int) : Prop := ∃ l, L[i % n]? = some l ∧ DL (PE n l) l' l.length
def P2r (n : Nat) (r : List (List Int)) (j : Nat) (l' : List Int) : Prop := ∃ l, r[j]? = some l ∧ DL (PR n l) l' (2 * n)
def P2 (n : Nat) (L : List (List (List Int))) (i : Nat) (r' : List (List Int)) : Prop := ∃ r, L[i % n]? = some r ∧ DL (P2r n r) r' r.length

section
variable {hA h : AH} {T : Nat} {pc : Value × Value} {vo ve vf : Value} {oo : List Int} {ff : List Bool} {v : Nat → Value} {cs : Nat → List Value} {Z : Nat → Prop} {a0 a1 : List (List Int)} {a2 : List (List (List Int))} {a3 a4 : List Int} {a5 : List (List Int)} {a6 : List Int}
/-- a state's lot is laid. -/
theorem Tw.fin {w3 w4 w5 : Value} {Q : Value → Value → List Value → Nat → Value → Value → Value → List Value → Nat → Value → Value → Value → List Value → Nat → Value → Value → Value → Value → AH → Prop} (s : Tw hA h T pc vo ve vf oo ff v cs Z a0 a1 a2 a3 a4 a5 a6) (e3 : w3 = v 3) (e4 : w4 = v 4) (e5 : w5 = v 5) (n0 : a0.length ≤ 1000) (n1 : a1.length ≤ 1000) (n2 : a2.length ≤ 1000)
    (k : ∀ v174 v175 c6 i6 v178 v179 v180 c7 i7 v183 v184 v185 c8 i8 v188 v189 v190 v191 h' V C Z', Tw hA h' T pc vo ve vf oo ff V C Z' (a0 ++ [a3]) (a1 ++ [a4]) (a2 ++ [a5]) [] [] [] a6 → Q v174 v175 c6 i6 v178 v179 v180 c7 i7 v183 v184 v185 c8 i8 v188 v189 v190 v191 h') :
    optW (pOff 5 (.pointer (some ⟨T, 0, none⟩))) fun v174 => optW (rdRow false 1 v174 (reserve 3 h)) fun v175 => optW (bldSl 1 [(.slice none 0 0)] 1 [(0, w3)]) fun c_6 => newW (some (h.length)) (.row c_6 true) (reserve 3 h) fun i_6 h_27 =>
      appSl 1 v175 (.slice (some ⟨i_6, 0, none⟩) 1 1) h_27 fun v178 h_28 => optW (pOff 6 (.pointer (some ⟨T, 0, none⟩))) fun v179 => (∀ x ∈ (idOf v179), (h_27 : AH)[x]? = (h_28 : AH)[x]?) ∧ (∀ x ∈ (idOf v179), ((reserve 3 h) : AH)[x]? = (h_27 : AH)[x]?) ∧
      optW (rdRow false 1 v179 h_28) fun v180 => optW (bldSl 1 [(.slice none 0 0)] 1 [(0, w4)]) fun c_7 => newW (some (h.length + 1)) (.row c_7 true) h_28 fun i_7 h_29 => appSl 1 v180 (.slice (some ⟨i_7, 0, none⟩) 1 1) h_29 fun v183 h_30 =>
      optW (pOff 7 (.pointer (some ⟨T, 0, none⟩))) fun v184 => (∀ x ∈ (idOf v184), (h_29 : AH)[x]? = (h_30 : AH)[x]?) ∧ (∀ x ∈ (idOf v184), (h_28 : AH)[x]? = (h_29 : AH)[x]?) ∧ (∀ x ∈ (idOf v184), (h_27 : AH)[x]? = (h_28 : AH)[x]?) ∧ (∀ x ∈ (idOf v184), ((reserve 3 h) : AH)[x]? = (h_27 : AH)[x]?) ∧
      optW (rdRow false 1 v184 h_30) fun v185 => optW (bldSl 1 [(.slice none 0 0)] 1 [(0, w5)]) fun c_8 => newW (some (h.length + 2)) (.row c_8 true) h_30 fun i_8 h_31 => appSl 1 v185 (.slice (some ⟨i_8, 0, none⟩) 1 1) h_31 fun v188 h_32 =>
      optW (pOff 5 (.pointer (some ⟨T, 0, none⟩))) fun v189 => optW (pStore 1 v189 v178 h_32) fun h_33 => optW (pOff 6 (.pointer (some ⟨T, 0, none⟩))) fun v190 => optW (pStore 1 v190 v183 h_33) fun h_34 => optW (pOff 7 (.pointer (some ⟨T, 0, none⟩))) fun v191 => optW (pStore 1 v191 v188 h_34) fun h_35 =>
      Q v174 v175 c_6 i_6 v178 v179 v180 c_7 i_7 v183 v184 v185 c_8 i_8 v188 v189 v190 v191 h_35 := by
  subst e3; subst e4; subst e5
  obtain ⟨xr, lr, d0, d1, d2⟩ := res3 h
  have lT := s.lt
  have sr := s.exx xr
  have own : ∀ {i : Nat} {a : List Int}, i < 11 → cs i = flat eI a → Ints (reserve 3 h) (v i) a := fun {i a} hi e => by
    have := (sr.s.sl.own i hi).sl
    rw [e] at this
    unfold Ints SlT
    rw [flat_eI_len] at this
    exact this
  have i3 := own (by decide) s.c3
  have i4 := own (by decide) s.c4
  have s5 := (sr.s.sl.own 5 (by decide)).sl
  obtain ⟨p3, q3, r3, f3⟩ := Sl.isSl i3
  obtain ⟨p4, q4, r4, f4⟩ := Sl.isSl i4
  obtain ⟨p5, q5, r5, f5⟩ := Sl.isSl s5
  have F1 := ((sr.s.freeze 3 (by decide)).freeze 4 (by decide)).freeze 5 (by decide)
  have hv4 : updV v 3 (.slice none 0 0) 4 = v 4 := rfl
  have hv5 : updV (updV v 3 (.slice none 0 0)) 4 (.slice none 0 0) 5 = v 5 := rfl
  rw [hv4, hv5] at F1
  let Z' : Nat → Prop := fun j => ((Z j ∨ onId (v 3) j) ∨ onId (v 4) j) ∨ onId (v 5) j
  have nz : ∀ d, h.length ≤ d → ¬ Z' d := fun d hd hz => by
    rcases hz with ((hz | hz) | hz) | hz
    · have := (s.s.z _ hz).2.1; omega
    · have := (s.s.sl.on (by decide) hz).2; omega
    · have := (s.s.sl.on (by decide) hz).2; omega
    · have := (s.s.sl.on (by decide) hz).2; omega
  refine w_offP (w_rdP sr.box rfl ?_)
  refine F1.appX (i := 0) (by decide) lT d0 (nz _ (Nat.le_refl _)) rfl (by rw [f3]; rfl) (by rw [f3]; rfl) (by show (cs 0).length ≤ 1000; rw [s.c0.1]; exact n0) fun c6 i6 h27 v178 h28 t27 G1 ⟨b1, b2, b3, eb⟩ l28 T28 Z28 D28 => ?_
  have g27 : h27[T]? = (reserve 3 h)[T]? := t27 T (Nat.le_refl _)
  have g28 : h28[T]? = (reserve 3 h)[T]? := T28 T (Nat.le_refl _)
  refine w_offP ⟨ptr_id (g28.trans g27.symm), ptr_id g27, w_rdP (g28.trans sr.box) rfl ?_⟩
  refine G1.appX (i := 1) (by decide) (by omega) (D28 _ (by omega) d1) (nz _ (by omega)) rfl (by rw [f4]; rfl) (by rw [f4]; rfl) (by show (cs 1).length ≤ 1000; rw [s.c1.1]; exact n1) fun c7 i7 h29 v183 h30 t29 G2 ⟨b4, b5, b6, eb2⟩ l30 T30 Z30 D30 => ?_
  have g29 : h29[T]? = h28[T]? := t29 T (Nat.le_refl _)
  have g30 : h30[T]? = h28[T]? := T30 T (Nat.le_refl _)
  refine w_offP ⟨ptr_id (g30.trans g29.symm), ptr_id g29, ptr_id (g28.trans g27.symm), ptr_id g27, w_rdP (g30.trans (g28.trans sr.box)) rfl ?_⟩
  refine G2.appX (i := 2) (by decide) (by omega) (D30 _ (by omega) (D28 _ (by omega) d2)) (nz _ (by omega)) rfl (by rw [f5]; rfl) (by rw [f5]; rfl) (by show (cs 2).length ≤ 1000; rw [s.c2.1]; exact n2) fun c8 i8 h31 v188 h32 t31 G3 ⟨b7, b8, b9, eb3⟩ l32 T32 Z32 D32 => ?_
  have g32 : h32[T]? = some (.row [pc.1, pc.2, vo, ve, vf, v 0, v 1, v 2] true) := (T32 T (Nat.le_refl _)).trans (g30.trans (g28.trans sr.box))
  subst eb; subst eb2; subst eb3
  refine w_offP (w_stP g32 (by show 0 + 5 < 8; omega) rfl rfl ?_)
  have lt32 := lt_of_get g32
  have g33 : (h32.set T (.row (([pc.1, pc.2, vo, ve, vf, v 0, v 1, v 2] : List Value).set (0 + 5) (.slice b1 b2 b3)) true))[T]? = some (.row [pc.1, pc.2, vo, ve, vf, .slice b1 b2 b3, v 1, v 2] true) := get_set _ lt32 _
  refine w_offP (w_stP g33 (by show 0 + 6 < 8; omega) rfl rfl ?_)
  have lt33 := lt_of_get g33
  have g34 : ((h32.set T (.row (([pc.1, pc.2, vo, ve, vf, v 0, v 1, v 2] : List Value).set (0 + 5) (.slice b1 b2 b3)) true)).set T (.row (([pc.1, pc.2, vo, ve, vf, .slice b1 b2 b3, v 1, v 2] : List Value).set (0 + 6) (.slice b4 b5 b6)) true))[T]? = some (.row [pc.1, pc.2, vo, ve, vf, .slice b1 b2 b3, .slice b4 b5 b6, v 2] true) := get_set _ lt33 _
  refine w_offP (w_stP g34 (by show 0 + 7 < 8; omega) rfl rfl ?_)
  have lt34 := lt_of_get g34
  have g35 : (((h32.set T (.row (([pc.1, pc.2, vo, ve, vf, v 0, v 1, v 2] : List Value).set (0 + 5) (.slice b1 b2 b3)) true)).set T (.row (([pc.1, pc.2, vo, ve, vf, .slice b1 b2 b3, v 1, v 2] : List Value).set (0 + 6) (.slice b4 b5 b6)) true)).set T (.row (([pc.1, pc.2, vo, ve, vf, .slice b1 b2 b3, .slice b4 b5 b6, v 2] : List Value).set (0 + 7) (.slice b7 b8 b9)) true))[T]? = some (.row [pc.1, pc.2, vo, ve, vf, .slice b1 b2 b3, .slice b4 b5 b6, .slice b7 b8 b9] true) := get_set _ lt34 _
  have k35 : ∀ j, j ≠ T → (((h32.set T (.row (([pc.1, pc.2, vo, ve, vf, v 0, v 1, v 2] : List Value).set (0 + 5) (.slice b1 b2 b3)) true)).set T (.row (([pc.1, pc.2, vo, ve, vf, .slice b1 b2 b3, v 1, v 2] : List Value).set (0 + 6) (.slice b4 b5 b6)) true)).set T (.row (([pc.1, pc.2, vo, ve, vf, .slice b1 b2 b3, .slice b4 b5 b6, v 2] : List Value).set (0 + 7) (.slice b7 b8 b9)) true))[j]? = h32[j]? := fun j hj => (get_ne (Ne.symm hj) _).trans ((get_ne (Ne.symm hj) _).trans (get_ne (Ne.symm hj) _))
  have l35 : (((h32.set T (.row (([pc.1, pc.2, vo, ve, vf, v 0, v 1, v 2] : List Value).set (0 + 5) (.slice b1 b2 b3)) true)).set T (.row (([pc.1, pc.2, vo, ve, vf, .slice b1 b2 b3, v 1, v 2] : List Value).set (0 + 6) (.slice b4 b5 b6)) true)).set T (.row (([pc.1, pc.2, vo, ve, vf, .slice b1 b2 b3, .slice b4 b5 b6, v 2] : List Value).set (0 + 7) (.slice b7 b8 b9)) true)).length = h32.length := by rw [List.length_set, List.length_set, List.length_set]
  generalize (((h32.set T (.row (([pc.1, pc.2, vo, ve, vf, v 0, v 1, v 2] : List Value).set (0 + 5) (.slice b1 b2 b3)) true)).set T (.row (([pc.1, pc.2, vo, ve, vf, .slice b1 b2 b3, v 1, v 2] : List Value).set (0 + 6) (.slice b4 b5 b6)) true)).set T (.row (([pc.1, pc.2, vo, ve, vf, .slice b1 b2 b3, .slice b4 b5 b6, v 2] : List Value).set (0 + 7) (.slice b7 b8 b9)) true)) = h35 at g35 k35 l35 ⊢
  have G4 := G3.exT (h' := h35) (by omega) fun j hj _ => k35 j (by omega)
  have tot : ∀ j, j < T → h35[j]? = (reserve 3 h)[j]? := fun j hj => (k35 j (by omega)).trans ((T32 j (by omega)).trans ((T30 j (by omega)).trans (T28 j (by omega))))
  have totZ : ∀ j, Z' j → h35[j]? = (reserve 3 h)[j]? := fun j hj => (k35 j (by have := (F1.z j hj).1; omega)).trans ((Z32 j hj).trans ((Z30 j hj).trans (Z28 j hj)))
  obtain ⟨y0, y1, y2, y3, y4, y5, y6⟩ := sr.after (h' := h35) (v' := v) (cs' := cs) (Z' := Z') (by omega) tot (fun j hj => totZ j (.inl (.inl (.inl hj)))) fun _ h => .inl (.inl (.inl h))
  have l5 := s.c5.1
  rw [l5] at s5
  refine k _ _ _ _ _ _ _ _ _ _ _ _ _ _ _ _ _ _ h35 _ _ Z' ⟨y0, s.tl, g35, G4, y1, y2, fun j hj => .inl (.inl (.inl (s.zo j hj))), fun j hj => .inl (.inl (.inl (s.zf j hj))), ?_, ?_, ?_, rfl, rfl, RowsZ.nil _ _, s.c6⟩
  · exact y3.snoc (Sl.keepOn i3 fun j hj => totZ j (.inl (.inl (.inr hj)))) fun j hj => .inl (.inl (.inr hj))
  · exact y4.snoc (Sl.keepOn i4 fun j hj => totZ j (.inl (.inr hj))) fun j hj => .inl (.inr hj)
  · exact y5.snoc (Sl.keepOn s5 fun j hj => totZ j (.inr hj)) (fun j hj => .inr hj) y6
end
end Go.Proofs.Ytnpbehfhncbjfaa.W
end

section
/- FoldTwice' walk. Conditions: none. -/
namespace Go.Proofs.Ytnpbehfhncbjfaa.W
open Go Go.AM FoldPM
set_option linter.unusedVariables false
set_option maxRecDepth 100000

theorem dbl_get {α : Type} {l : List α} {n : Nat} (hl : l.length = n) {p : Nat} (hp : p < 2 * n) : (l ++ l)[p]? = l[p % n]? := by
  by_cases h : p < n
  · rw [List.getElem?_append_left (by omega), Nat.mod_eq_of_lt h]
  · rw [List.getElem?_append_right (by omega), hl]
    have : p % n = p - n := by
      rw [Nat.mod_eq_sub_mod (by omega), Nat.mod_eq_of_lt (by omega)]
    rw [this]

theorem mod_or {n x : Nat} (hx : x < n) {x' : Int} (h : x' = (x : Int) ∨ x' = (x : Int) + n) : x'.toNat % n = x ∧ x'.toNat < 2 * n ∧ 0 ≤ x' := by
  rcases h with rfl | rfl
  · exact ⟨by rw [Int.toNat_natCast]; exact Nat.mod_eq_of_lt hx, by omega, by omega⟩
  · have e : ((x : Int) + n).toNat = x + n := by omega
    rw [e, Nat.add_mod_right]
    exact ⟨Nat.mod_eq_of_lt hx, by omega, by omega⟩

/-- each state twice. -/
theorem twice_dbl {m : Mo} (v : Valid m) {a0 a1 : List (List Int)} {a2 : List (List (List Int))} (d0 : DL (P0 m.pm.n m.In) a0 (2 * m.pm.n)) (d1 : DL (P0 m.pm.n m.Low) a1 (2 * m.pm.n)) (d2 : DL (P2 m.pm.n m.Ret) a2 (2 * m.pm.n)) (hN : 2 * m.pm.n ≤ 60) :
    Dbl m.pm (Mo.pm ⟨m.pl, m.cl, m.Of ++ m.Of, m.En, m.Fi ++ m.Fi, a0, a1, a2⟩) ∧ Valid ⟨m.pl, m.cl, m.Of ++ m.Of, m.En, m.Fi ++ m.Fi, a0, a1, a2⟩ := by
  have ok := v.ok
  have n1 := ok.n1
  have md : ∀ p, p % m.pm.n < m.pm.n := fun p => Nat.mod_lt _ n1
  have hnn : m.pm.n = m.Of.length := rfl
  let m2 : Mo := ⟨m.pl, m.cl, m.Of ++ m.Of, m.En, m.Fi ++ m.Fi, a0, a1, a2⟩
  have nN : m2.pm.n = 2 * m.pm.n := by show (m.Of ++ m.Of).length = _; rw [List.length_append]; omega
  have inE : ∀ (p : Nat) (l' : List Int), a0[p]? = some l' → l'.length = m.pm.pl ∧ ∀ (i : Nat) (x' : Int), l'[i]? = some x' → x' = (m.pm.inn (p % m.pm.n) i : Int) ∨ x' = (m.pm.inn (p % m.pm.n) i : Int) + m.pm.n := fun p l' hl => by
    obtain ⟨l, h1, h2⟩ := d0.2 p l' hl
    obtain ⟨l2, g1, g2, g3⟩ := v.inAt (md p)
    rw [h1] at g1
    cases g1
    refine ⟨by rw [h2.1, g2], fun i x' hx => ?_⟩
    obtain ⟨x, e1, e2⟩ := h2.2 i x' hx
    have := (g3 i (by have := (List.getElem?_eq_some_iff.1 e1).1; omega)).1
    rw [e1] at this
    cases this
    exact e2
  have lowE : ∀ (p : Nat) (l' : List Int), a1[p]? = some l' → (m.pm.of (p % m.pm.n) = 0 → l'.length = m.pm.cl ∧ ∀ (i : Nat) (x' : Int), l'[i]? = some x' → x' = (m.pm.low (p % m.pm.n) i : Int) ∨ x' = (m.pm.low (p % m.pm.n) i : Int) + m.pm.n) ∧ (m.pm.of (p % m.pm.n) ≠ 0 → l'.length = 0) := fun p l' hl => by
    obtain ⟨l, h1, h2⟩ := d1.2 p l' hl
    obtain ⟨l2, g1, g2, g3⟩ := v.lowAt (md p)
    rw [h1] at g1
    cases g1
    refine ⟨fun h0 => ⟨by rw [h2.1, (g3 h0).1], fun i x' hx => ?_⟩, fun h0 => by rw [h2.1, g2 h0]; rfl⟩
    obtain ⟨x, e1, e2⟩ := h2.2 i x' hx
    have := ((g3 h0).2 i (by have := (List.getElem?_eq_some_iff.1 e1).1; have := (g3 h0).1; omega)).1
    rw [e1] at this
    cases this
    exact e2
  have retE : ∀ (p : Nat) (r' : List (List Int)), a2[p]? = some r' → (m.pm.of (p % m.pm.n) = 0 → r'.length = 0) ∧ (m.pm.of (p % m.pm.n) ≠ 0 → r'.length = m.pm.cl ∧ ∀ (j : Nat) (l' : List Int), r'[j]? = some l' → l'.length = 2 * m.pm.n ∧ ∀ (q : Nat) (x' : Int), l'[q]? = some x' → x' = (m.pm.ret (p % m.pm.n) j (q % m.pm.n) : Int) ∨ x' = (m.pm.ret (p % m.pm.n) j (q % m.pm.n) : Int) + m.pm.n) := fun p r' hr => by
    obtain ⟨r, h1, h2⟩ := d2.2 p r' hr
    obtain ⟨r2, g1, g2, g3⟩ := v.retAt (md p)
    rw [h1] at g1
    cases g1
    refine ⟨fun h0 => by rw [h2.1, g2 h0]; rfl, fun h0 => ⟨by rw [h2.1, (g3 h0).1], fun j l' hl => ?_⟩⟩
    obtain ⟨l, e1, e2⟩ := h2.2 j l' hl
    obtain ⟨l3, f1, f2, f3⟩ := (g3 h0).2 j (by have := (List.getElem?_eq_some_iff.1 e1).1; have := (g3 h0).1; omega)
    rw [e1] at f1
    cases f1
    refine ⟨e2.1, fun q x' hx => ?_⟩
    obtain ⟨x, e3, e4⟩ := e2.2 q x' hx
    have := (f3 (q % m.pm.n) (md q)).1
    rw [e3] at this
    cases this
    exact e4
  have D : Dbl m.pm m2.pm := by
    refine ⟨nN, rfl, rfl, rfl, fun p hp => ?_, fun p hp => ?_, fun c hc => rfl, fun p i hp hi => ?_, fun p j hp h0 hj => ?_, fun p j q hp hq h0 hj => ?_⟩
    · show (m.Of ++ m.Of).getD p 0 = m.Of.getD _ 0
      rw [List.getD_eq_getElem?_getD, List.getD_eq_getElem?_getD, dbl_get rfl (by omega)]
      rfl
    · show (m.Fi ++ m.Fi).getD p false = m.Fi.getD _ false
      rw [List.getD_eq_getElem?_getD, List.getD_eq_getElem?_getD, dbl_get v.lf (by omega)]
      rfl
    · obtain ⟨l', hl⟩ := getElem?_of_lt (l := a0) (i := p) (by have := d0.1; omega)
      have h := inE p l' hl
      obtain ⟨x', hx⟩ := getElem?_of_lt (l := l') (i := i) (by omega)
      have e : m2.pm.inn p i = x'.toNat := by show ((a0.getD p []).getD i 0).toNat = _; rw [getD_of hl, getD_of hx]
      have := mod_or (ok.inn _ i (md p) hi).1 (h.2 i x' hx)
      rw [e, nN]
      exact ⟨this.2.1, this.1⟩
    · obtain ⟨l', hl⟩ := getElem?_of_lt (l := a1) (i := p) (by have := d1.1; omega)
      have h := (lowE p l' hl).1 h0
      obtain ⟨x', hx⟩ := getElem?_of_lt (l := l') (i := j) (by omega)
      have e : m2.pm.low p j = x'.toNat := by show ((a1.getD p []).getD j 0).toNat = _; rw [getD_of hl, getD_of hx]
      have := mod_or (ok.low _ j (md p) h0 hj).1 (h.2 j x' hx)
      rw [e, nN]
      exact ⟨this.2.1, this.1⟩
    · obtain ⟨r', hr⟩ := getElem?_of_lt (l := a2) (i := p) (by have := d2.1; omega)
      have h := (retE p r' hr).2 h0
      obtain ⟨l', hl⟩ := getElem?_of_lt (l := r') (i := j) (by omega)
      have h' := h.2 j l' hl
      obtain ⟨x', hx⟩ := getElem?_of_lt (l := l') (i := q) (by omega)
      have e : m2.pm.ret p j q = x'.toNat := by show (((a2.getD p []).getD j []).getD q 0).toNat = _; rw [getD_of hr, getD_of hl, getD_of hx]
      have := mod_or (ok.ret _ j _ (md p) (md q) h0 hj).1 (h'.2 q x' hx)
      rw [e, nN]
      exact ⟨this.2.1, this.1⟩
  have nn : ∀ {x : Nat} {x' : Int}, (x' = (x : Int) ∨ x' = (x : Int) + m.pm.n) → 0 ≤ x' := fun h => by rcases h with rfl | rfl <;> omega
  have lO : m2.Of.length = 2 * m.pm.n := nN
  have ofE : ∀ p, p < 2 * m.pm.n → m2.pm.of p = m.pm.of (p % m.pm.n) := fun p hp => D.of p (by rw [nN]; exact hp)
  refine ⟨D, Valid.of_shape (D.ok ok) v.pl v.cl (by rw [lO]; exact hN) (by have := v.k2; show m.En.length ≤ 21; omega) (by rw [lO]; show (m.Fi ++ m.Fi).length = _; rw [List.length_append, v.lf]; omega) (by rw [lO]; exact d0.1) (by rw [lO]; exact d1.1) (by rw [lO]; exact d2.1) (fun x hx => (v.enEl.2 x hx).1) (fun p l hl => ?_) (fun p l hl => ?_) (fun p r hr => ?_)⟩
  · have h := inE p l hl
    exact ⟨h.1, fun x hx => by obtain ⟨i, hi⟩ := List.getElem?_of_mem hx; exact nn (h.2 i x hi)⟩
  · have hp : p < 2 * m.pm.n := by have h1 : p < a1.length := (List.getElem?_eq_some_iff.1 hl).1; have := d1.1; omega
    have h := lowE p l hl
    rw [ofE p hp]
    refine ⟨fun h0 => (h.1 h0).1, h.2, fun x hx => ?_⟩
    obtain ⟨i, hi⟩ := List.getElem?_of_mem hx
    by_cases h0 : m.pm.of (p % m.pm.n) = 0
    · exact nn ((h.1 h0).2 i x hi)
    · have := h.2 h0
      have := (List.getElem?_eq_some_iff.1 hi).1
      omega
  · have hp : p < 2 * m.pm.n := by have h1 : p < a2.length := (List.getElem?_eq_some_iff.1 hr).1; have := d2.1; omega
    have h := retE p r hr
    rw [ofE p hp]
    refine ⟨h.1, fun h0 => (h.2 h0).1, fun l hl => ?_⟩
    obtain ⟨j, hj⟩ := List.getElem?_of_mem hl
    by_cases h0 : m.pm.of (p % m.pm.n) = 0
    · have := h.1 h0
      have := (List.getElem?_eq_some_iff.1 hj).1
      omega
    · have h' := (h.2 h0).2 j l hj
      exact ⟨by rw [nN]; exact h'.1, fun x hx => by obtain ⟨i, hi⟩ := List.getElem?_of_mem hx; exact nn (h'.2 i x hi)⟩
end Go.Proofs.Ytnpbehfhncbjfaa.W
end

section
/- FoldTwice' walk. Conditions: none. -/
namespace Go.Proofs.Ytnpbehfhncbjfaa.W
open Go Go.AM FoldPM
set_option linter.unusedVariables false
set_option maxRecDepth 100000

theorem twice6 {h : AH} {a0 a2 : Int} {v1 : Value} {ns : List Int} (hns : Ints h v1 ns) (hm : h.length = 1) : callW Try.prog 6 [.int .i64 a0, v1, .int .i64 a2] h fun v _ => v = .bool true := by
  refine c6 ?_
  unfold s6
  refine lawStart hns (.inl hm) fun h4 b0 o u m bx x4 mo hb0 v g4 hbx nob => ?_
  have mh := mo.toH fun _ _ => rfl
  have ok := v.ok
  have n1 := ok.n1
  have hnn : m.pm.n = m.Of.length := rfl
  have n10 := mo.szO
  have hN : 2 * m.pm.n ≤ 60 := by omega
  have lbx := lt_of_get g4
  have lf := v.lf
  obtain ⟨xr, lr, d0, d1, d2⟩ := res3 h4
  refine w_offP (w_rdP g4 (v := sv u.vo) rfl (w_len mh.of ?_))
  refine w_offP (w_rdP (xr.some g4) (v := .int .i64 m.pl) rfl (w_offP (w_rdP (xr.some g4) (v := .int .i64 m.cl) rfl ?_)))
  refine w_some (v := []) rfl (n_slot ?_)
  have x5 : Ex h4 ((reserve 3 h4).set h4.length (.row [] true)) := xr.set (Nat.le_refl _) _
  have g5 : ((reserve 3 h4).set h4.length (.row [] true))[h4.length]? = some (.row [] true) := get_set _ (by omega) _
  have l5 : ((reserve 3 h4).set h4.length (.row [] true)).length = h4.length + 3 := by rw [List.length_set]; exact lr
  have e5 : ((reserve 3 h4).set h4.length (.row [] true))[bx]? = (reserve 3 h4)[bx]? := get_ne (by omega) _
  generalize (reserve 3 h4).set h4.length (.row [] true) = h5 at x5 g5 l5 e5 ⊢
  refine w_offP ⟨ptr_id e5, w_rdP (x5.some g4) (v := sv u.vo) rfl ?_⟩
  have of5 := (mh.ex x5).of
  refine cloneApp (by decide) g5 of5 (by omega) (by have := bigR; omega) ?_
  have x6 : Ex h5 (h5 ++ [AObj.row (flat eI m.Of) true]) := .app _ _
  have o6 : OwnG 1 (fun j => j = h5.length) (h5 ++ [AObj.row (flat eI m.Of) true]) (.slice (some ⟨h5.length, 0, none⟩) m.Of.length (openCap + 1)) m.Of.length (flat eI m.Of) := ownNew (by rw [flat_eI_len]; omega)
  have l6 : (h5 ++ [AObj.row (flat eI m.Of) true]).length = h5.length + 1 := by simp
  generalize h5 ++ [AObj.row (flat eI m.Of) true] = h6 at x6 o6 l6 ⊢
  have e6 : h6[bx]? = h5[bx]? := x6.get _ (by omega)
  refine ⟨ptr_id e6, ptr_id e6, w_offP ⟨ptr_id e6, ptr_id e5, w_rdP (x6.some (x5.some g4)) (v := sv u.vo) rfl ?_⟩⟩
  have of6 := (mh.ex (x5.trans x6)).of
  refine appSl_sl of6 (app_g (by decide) o6 (srcL_sl (by decide) of6) (by rw [flat_eI_len]; omega) (by have := bigR; omega) fun v43 h7 p1 p2 p3 p4 => ?_)
  have n6 : ∀ j, j < h5.length → h7[j]? = h6[j]? := fun j hj => p3 j (by omega) fun hh => by have : j = h5.length := (o6.on hh).1; omega
  have e7 : h7[bx]? = h6[bx]? := n6 _ (by omega)
  have x47 : Ex h4 h7 := (x5.trans x6).below p2 fun j hj => n6 j (by omega)
  refine ⟨ptr_id e7, ptr_id e7, w_offP ⟨ptr_id e7, ptr_id e6, ptr_id e5, w_rdP (x47.some g4) (v := sv u.ve) rfl ?_⟩⟩
  refine w_some (v := []) rfl (n_slot ?_)
  have o7 : OwnG 1 (fun j => h5.length ≤ j) h7 v43 (m.Of.length + m.Of.length) (flat eI m.Of ++ flat eI m.Of) := p1.mono (fun j _ hj => hj.elim (fun e => by show h5.length ≤ j; have : j = h5.length := e; omega) fun e => by show h5.length ≤ j; omega) fun _ _ _ => rfl
  have x8 : Ex h4 (h7.set (h4.length + 1) (.row [] true)) := x47.set (by omega) _
  have g8 : (h7.set (h4.length + 1) (.row [] true))[h4.length + 1]? = some (.row [] true) := get_set _ (by omega) _
  have o8 := o7.mono (F' := fun j => h5.length ≤ j) (h' := h7.set (h4.length + 1) (.row [] true)) (fun _ _ h => h) fun j _ hf => get_ne (by have : h5.length ≤ j := hf; omega) _
  have l8 : (h7.set (h4.length + 1) (.row [] true)).length = h7.length := List.length_set
  have e8 : (h7.set (h4.length + 1) (.row [] true))[bx]? = h7[bx]? := get_ne (by omega) _
  generalize h7.set (h4.length + 1) (.row [] true) = h8 at x8 g8 o8 l8 e8 ⊢
  refine w_offP ⟨ptr_id e8, ptr_id e7, ptr_id e6, ptr_id e5, w_rdP (x8.some g4) (v := sv u.vf) rfl ?_⟩
  have fi8 := (mh.ex x8).fi
  refine cloneApp (by decide) g8 fi8 (by omega) (by have := bigR; omega) ?_
  have x9 : Ex h8 (h8 ++ [AObj.row (flat eBo m.Fi) true]) := .app _ _
  have o9 : OwnG 1 (fun j => j = h8.length) (h8 ++ [AObj.row (flat eBo m.Fi) true]) (.slice (some ⟨h8.length, 0, none⟩) m.Fi.length (openCap + 1)) m.Fi.length (flat eBo m.Fi) := ownNew (by rw [flat_eBo_len]; omega)
  have q9 := o8.mono (F' := fun j => h5.length ≤ j) (h' := h8 ++ [AObj.row (flat eBo m.Fi) true]) (fun _ _ h => h) fun j hj _ => x9.get j (o8.on hj).2
  have l9 : (h8 ++ [AObj.row (flat eBo m.Fi) true]).length = h8.length + 1 := by simp
  generalize h8 ++ [AObj.row (flat eBo m.Fi) true] = h9 at x9 o9 q9 l9 ⊢
  have e9 : h9[bx]? = h8[bx]? := x9.get _ (by omega)
  refine ⟨ptr_id e9, ptr_id e9, ptr_id e9, w_offP ⟨ptr_id e9, ptr_id e8, ptr_id e7, ptr_id e6, ptr_id e5, w_rdP (x9.some (x8.some g4)) (v := sv u.vf) rfl ?_⟩⟩
  have fi9 := (mh.ex (x8.trans x9)).fi
  refine appSl_sl fi9 (app_g (by decide) o9 (srcL_sl (by decide) fi9) (by rw [flat_eBo_len]; omega) (by have := bigR; omega) fun v52 h10 r1 r2 r3 r4 => ?_)
  have n9 : ∀ j, j < h8.length → h10[j]? = h9[j]? := fun j hj => r3 j (by omega) fun hh => by have : j = h8.length := (o9.on hh).1; omega
  have e10 : h10[bx]? = h9[bx]? := n9 _ (by omega)
  have x410 : Ex h4 h10 := (x8.trans x9).below r2 fun j hj => n9 j (by omega)
  refine ⟨ptr_id e10, ptr_id e10, ptr_id e10, ?_⟩
  have q10 := q9.mono (F' := fun j => h5.length ≤ j) (h' := h10) (fun _ _ h => h) fun j hj _ => n9 j (by have := (o8.on hj).2; omega)
  have o10 : OwnG 1 (fun j => h5.length ≤ j) h10 v52 (m.Fi.length + m.Fi.length) (flat eBo m.Fi ++ flat eBo m.Fi) := r1.mono (fun j _ hj => hj.elim (fun e => by show h5.length ≤ j; have : j = h8.length := e; omega) fun e => by show h5.length ≤ j; omega) fun _ _ _ => rfl
  obtain ⟨b1, b2, b3, eb⟩ : ∃ a n c, v43 = .slice a n c := by obtain ⟨a, n, c, e⟩ := Sl.isSl q10.sl; exact ⟨a, n, c, e⟩
  obtain ⟨b4, b5, b6, eb2⟩ : ∃ a n c, v52 = .slice a n c := by obtain ⟨a, n, c, e⟩ := Sl.isSl o10.sl; exact ⟨a, n, c, e⟩
  subst eb; subst eb2
  refine w_some (v := .agg #[.int .i64 m.pl, .int .i64 m.cl, .slice b1 b2 b3, sv u.ve, .slice b4 b5 b6, .slice none 0 0, .slice none 0 0, .slice none 0 0]) rfl (n_slot ?_)
  have l10 : h4.length + 3 ≤ h10.length := by omega
  refine w_stPA (get_set _ (by omega) _) rfl (Nat.le_refl 8) rfl ?_
  have gT : ((h10.set (h4.length + 2) (.row [(.int .i64 0), (.int .i64 0), (.slice none 0 0), (.slice none 0 0), (.slice none 0 0), (.slice none 0 0), (.slice none 0 0), (.slice none 0 0)] true)).set (h4.length + 2) (.row (spliceL [(.int .i64 0), (.int .i64 0), (.slice none 0 0), (.slice none 0 0), (.slice none 0 0), (.slice none 0 0), (.slice none 0 0), (.slice none 0 0)] 0 (cellsL (.agg #[.int .i64 m.pl, .int .i64 m.cl, .slice b1 b2 b3, sv u.ve, .slice b4 b5 b6, .slice none 0 0, .slice none 0 0, .slice none 0 0]))) true))[h4.length + 2]? = some (.row [.int .i64 m.pl, .int .i64 m.cl, .slice b1 b2 b3, sv u.ve, .slice b4 b5 b6, .slice none 0 0, .slice none 0 0, .slice none 0 0] true) := get_set _ (by rw [List.length_set]; omega) _
  have xT : Ex h4 ((h10.set (h4.length + 2) (.row [(.int .i64 0), (.int .i64 0), (.slice none 0 0), (.slice none 0 0), (.slice none 0 0), (.slice none 0 0), (.slice none 0 0), (.slice none 0 0)] true)).set (h4.length + 2) (.row (spliceL [(.int .i64 0), (.int .i64 0), (.slice none 0 0), (.slice none 0 0), (.slice none 0 0), (.slice none 0 0), (.slice none 0 0), (.slice none 0 0)] 0 (cellsL (.agg #[.int .i64 m.pl, .int .i64 m.cl, .slice b1 b2 b3, sv u.ve, .slice b4 b5 b6, .slice none 0 0, .slice none 0 0, .slice none 0 0]))) true)) := (x410.set (by omega) _).set (by omega) _
  have kT : ∀ j, j ≠ h4.length + 2 → ((h10.set (h4.length + 2) (.row [(.int .i64 0), (.int .i64 0), (.slice none 0 0), (.slice none 0 0), (.slice none 0 0), (.slice none 0 0), (.slice none 0 0), (.slice none 0 0)] true)).set (h4.length + 2) (.row (spliceL [(.int .i64 0), (.int .i64 0), (.slice none 0 0), (.slice none 0 0), (.slice none 0 0), (.slice none 0 0), (.slice none 0 0), (.slice none 0 0)] 0 (cellsL (.agg #[.int .i64 m.pl, .int .i64 m.cl, .slice b1 b2 b3, sv u.ve, .slice b4 b5 b6, .slice none 0 0, .slice none 0 0, .slice none 0 0]))) true))[j]? = h10[j]? := fun j hj => (get_ne (Ne.symm hj) _).trans (get_ne (Ne.symm hj) _)
  have lT : ((h10.set (h4.length + 2) (.row [(.int .i64 0), (.int .i64 0), (.slice none 0 0), (.slice none 0 0), (.slice none 0 0), (.slice none 0 0), (.slice none 0 0), (.slice none 0 0)] true)).set (h4.length + 2) (.row (spliceL [(.int .i64 0), (.int .i64 0), (.slice none 0 0), (.slice none 0 0), (.slice none 0 0), (.slice none 0 0), (.slice none 0 0), (.slice none 0 0)] 0 (cellsL (.agg #[.int .i64 m.pl, .int .i64 m.cl, .slice b1 b2 b3, sv u.ve, .slice b4 b5 b6, .slice none 0 0, .slice none 0 0, .slice none 0 0]))) true)).length = h10.length := by rw [List.length_set, List.length_set]
  generalize (h10.set (h4.length + 2) (.row [(.int .i64 0), (.int .i64 0), (.slice none 0 0), (.slice none 0 0), (.slice none 0 0), (.slice none 0 0), (.slice none 0 0), (.slice none 0 0)] true)).set (h4.length + 2) (.row (spliceL [(.int .i64 0), (.int .i64 0), (.slice none 0 0), (.slice none 0 0), (.slice none 0 0), (.slice none 0 0), (.slice none 0 0), (.slice none 0 0)] 0 (cellsL (.agg #[.int .i64 m.pl, .int .i64 m.cl, .slice b1 b2 b3, sv u.ve, .slice b4 b5 b6, .slice none 0 0, .slice none 0 0, .slice none 0 0]))) true) = hT at gT xT kT lT ⊢
  have S0 : Tw h4 hT (h4.length + 2) (.int .i64 m.pl, .int .i64 m.cl) (.slice b1 b2 b3) (sv u.ve) (.slice b4 b5 b6) (m.Of ++ m.Of) (m.Fi ++ m.Fi) wnil (fun _ => []) (fun j => onId (.slice b1 b2 b3) j ∨ onId (.slice b4 b5 b6) j) [] [] [] [] [] [] [] := by
    refine ⟨xT, by omega, gT, ⟨SL.nil _ _, fun j hj => ?_⟩, ?_, ?_, fun j hj => .inl hj, fun j hj => .inr hj, RowsZ.nil _ _, RowsZ.nil _ _, RetsZ.nil _ _, rfl, rfl, RowsZ.nil _ _, rfl⟩
    · have a : h5.length ≤ j ∧ j < h10.length := by
        rcases hj with hj | hj
        · exact q10.on hj
        · exact o10.on hj
      exact ⟨by omega, by omega, fun _ _ hh => hh.elim⟩
    · have := (q10.mono (F' := fun j => h5.length ≤ j) (h' := hT) (fun _ _ h => h) fun j hj hf => kT j (by have : h5.length ≤ j := hf; omega)).sl
      unfold Ints SlT
      rw [List.length_append, flat_append]
      exact this
    · have := (o10.mono (F' := fun j => h5.length ≤ j) (h' := hT) (fun _ _ h => h) fun j hj hf => kT j (by have : h5.length ≤ j := hf; omega)).sl
      unfold SlT
      rw [List.length_append, flat_append]
      exact this
  clear kT lT gT xT q10 o10 q9 o9 o8 o7 o6 p1 p2 p3 p4 r1 r2 r3 r4 n9 n6 e5 e6 e7 e8 e9 e10 x6 x8 x9 x47 x410 g5 g8 l5 l6 l8 l9 l10 of5 of6 fi8 fi9 d0 d1 d2 lr xr x5
  have ms4 := mh
  obtain ⟨vin, sin, rin⟩ := mh.inn
  obtain ⟨vlo, slo, rlo⟩ := mh.low
  obtain ⟨vre, sre, rre⟩ := mh.ret
  refine loopE_intro (fun mm e h' => ∃ (c : Nat) (kk : Int) (vv : Nat → Value) (cs : Nat → List Value) (Z : Nat → Prop) (a0 a1 : List (List Int)) (a2' : List (List (List Int))) (a3 a4 : List Int) (a5 : List (List Int)) (a6 : List Int), c ≤ 2 ∧ mm = 2 - c ∧ e 2 = .int .i64 a2 ∧ e 7 = .pointer (some ⟨bx, 0, none⟩) ∧ e 8 = .int .i64 (m.pm.n : Nat) ∧ e 9 = .pointer (some ⟨h4.length + 2, 0, none⟩) ∧ e 10 = .int .i64 kk ∧ e 11 = .int .i64 (c : Nat) ∧
      DL (P0 m.pm.n m.In) a0 (c * m.pm.n) ∧ DL (P0 m.pm.n m.Low) a1 (c * m.pm.n) ∧ DL (P2 m.pm.n m.Ret) a2' (c * m.pm.n) ∧
      Tw h4 h' (h4.length + 2) (.int .i64 m.pl, .int .i64 m.cl) (.slice b1 b2 b3) (sv u.ve) (.slice b4 b5 b6) (m.Of ++ m.Of) (m.Fi ++ m.Fi) vv cs Z a0 a1 a2' a3 a4 a5 a6) 2
    ⟨0, 0, wnil, fun _ => [], _, [], [], [], [], [], [], [], by decide, rfl, rfl, rfl, rfl, rfl, rfl, rfl, by rw [Nat.zero_mul]; exact DL.nil _, by rw [Nat.zero_mul]; exact DL.nil _, by rw [Nat.zero_mul]; exact DL.nil _, S0⟩ ?_
  clear S0
  clear hT
  rintro J mm e h13 ⟨c, kk, vv, cs, Z, A0, A1, A2, a3, a4, a5, a6, hc, hmm, e2, e7, e8, e9, e10, e11, D0, D1, D2, S⟩ ih
  rw [e11]
  refine w_lss (c_dec (fun q => ?_) (fun q => ?_))
  · have hc2 : c < 2 := by omega
    have hcn : c * m.pm.n ≤ m.pm.n := by
      have : c ≤ 1 := by omega
      calc c * m.pm.n ≤ 1 * m.pm.n := Nat.mul_le_mul_right _ this
        _ = m.pm.n := Nat.one_mul _
    refine loopE_intro (fun mm e' h' => ∃ (p : Nat) (kk : Int) (vv : Nat → Value) (cs : Nat → List Value) (Z : Nat → Prop) (a0 a1 : List (List Int)) (a2' : List (List (List Int))) (a3 a4 : List Int) (a5 : List (List Int)) (a6 : List Int), p ≤ m.pm.n ∧ mm = m.pm.n - p ∧ e' 2 = .int .i64 a2 ∧ e' 7 = .pointer (some ⟨bx, 0, none⟩) ∧ e' 8 = .int .i64 (m.pm.n : Nat) ∧ e' 9 = .pointer (some ⟨h4.length + 2, 0, none⟩) ∧ e' 10 = .int .i64 kk ∧ e' 11 = .int .i64 (c : Nat) ∧ e' 12 = .int .i64 (p : Nat) ∧
        DL (P0 m.pm.n m.In) a0 (c * m.pm.n + p) ∧ DL (P0 m.pm.n m.Low) a1 (c * m.pm.n + p) ∧ DL (P2 m.pm.n m.Ret) a2' (c * m.pm.n + p) ∧
        Tw h4 h' (h4.length + 2) (.int .i64 m.pl, .int .i64 m.cl) (.slice b1 b2 b3) (sv u.ve) (.slice b4 b5 b6) (m.Of ++ m.Of) (m.Fi ++ m.Fi) vv cs Z a0 a1 a2' a3 a4 a5 a6) m.pm.n
      ⟨0, kk, vv, cs, Z, A0, A1, A2, a3, a4, a5, a6, Nat.zero_le _, rfl, e2, e7, e8, e9, e10, e11, rfl, D0, D1, D2, S⟩ ?_
    clear D0 D1 D2 S e2 e7 e8 e9 e10 e11
    clear A0 A1 A2 a3 a4 a5 a6 vv cs Z kk h13
    rintro J1 mm1 e1v h14 ⟨p, kk, vv, cs, Z, A0, A1, A2, a3, a4, a5, a6, hp, hmm1, e2, e7, e8, e9, e10, e11, e12, D0, D1, D2, S⟩ ih1
    rw [e8, e12]
    refine w_lss (c_dec (fun q2 => ?_) (fun q2 => ?_))
    · have hpn : p < m.pm.n := by omega
      have hmod : (c * m.pm.n + p) % m.pm.n = p := by rw [Nat.mul_comm, Nat.mul_add_mod]; exact Nat.mod_eq_of_lt hpn
      obtain ⟨li, hli, lli, gli⟩ := v.inAt hpn
      obtain ⟨lo, hlo, _, _⟩ := v.lowAt hpn
      obtain ⟨re, hre, _, _⟩ := v.retAt hpn
      have eli := v.inEl hpn hli
      have elo := v.lowEl hpn hlo
      have ere := v.retEl hpn hre
      have eli1 := eli.1
      have elo1 := elo.1
      have ere1 := ere.1
      obtain ⟨wi, hwi, ii⟩ := rin p li hli
      obtain ⟨wl, hwl, il⟩ := rlo p lo hlo
      obtain ⟨wr, hwr, vs, svs, rvs⟩ := rre p re hre
      have S1 := ((S.reset3).reset4).reset5
      -- by plain symbols
      refine loopE_intro (fun mm e' h' => ∃ (i : Nat) (kk : Int) (vv : Nat → Value) (cs : Nat → List Value) (Z : Nat → Prop) (a3 a6 : List Int), i ≤ li.length ∧ mm = li.length - i ∧ e' 2 = .int .i64 a2 ∧ e' 7 = .pointer (some ⟨bx, 0, none⟩) ∧ e' 8 = .int .i64 (m.pm.n : Nat) ∧ e' 9 = .pointer (some ⟨h4.length + 2, 0, none⟩) ∧ e' 10 = .int .i64 kk ∧ e' 11 = .int .i64 (c : Nat) ∧ e' 12 = .int .i64 (p : Nat) ∧ e' 13 = vv 3 ∧ e' 14 = vv 4 ∧ e' 15 = vv 5 ∧ e' 16 = .int .i64 (i : Nat) ∧
          DL (PE m.pm.n li) a3 i ∧
          Tw h4 h' (h4.length + 2) (.int .i64 m.pl, .int .i64 m.cl) (.slice b1 b2 b3) (sv u.ve) (.slice b4 b5 b6) (m.Of ++ m.Of) (m.Fi ++ m.Fi) vv cs Z A0 A1 A2 a3 [] [] a6) li.length
        ⟨0, kk, _, _, _, [], a6, Nat.zero_le _, rfl, e2, e7, e8, e9, e10, e11, e12, ?_, ?_, ?_, rfl, DL.nil _, S1⟩ ?_
      · exact rfl
      · exact rfl
      · exact rfl
      clear S1 S e2 e7 e8 e9 e10 e11 e12
      clear a3 a4 a5 a6 vv cs Z kk
      rintro J2 mm2 e2v h15 ⟨i, kk, vv, cs, Z, a3, a6, hi, hmm2, e2, e7, e8, e9, e10, e11, e12, e13, e14, e15, e16, D3, S⟩ ih2
      rw [e7, e12, e16]
      refine w_offP (w_rdP (S.ex.some g4) (v := sv u.vi) rfl (idxV (sin.ex S.ex) hwi fun z hz => w_rd1 hz rfl (w_len ii (w_lss (c_dec (fun q3 => ?_) (fun q3 => ?_))))))
      · obtain ⟨x, hx⟩ := getElem?_of_lt (l := li) (i := i) (by omega)
        have ex := eli.2 x (List.mem_of_getElem? hx)
        refine w_offP (w_rdP (S.ex.some g4) (v := sv u.vi) rfl (idxV (sin.ex S.ex) hwi fun z hz => w_rd1 hz rfl (w_idxN eI_len (Sl.ex ii S.ex) hx fun z hz => w_rd1 hz rfl ?_)))
        rw [e10, e2, e8, e13]
        refine bits (by omega) (by omega) fun v85 v86 v87 v88 v89 y hy => ?_
        refine S.app3 (by have := D3.1; omega) fun c2 j2 v92 h17 S2 => ?_
        refine w_addw (w_add (by omega) (by omega) ?_)
        refine ih2 (li.length - (i + 1)) _ _ (by omega) ⟨i + 1, _, _, _, _, _, a6, by omega, rfl, e2, e7, e8, e9, rfl, e11, e12, ?_, ?_, ?_, rfl, D3.snoc ⟨x, hx, hy⟩, S2⟩
        · exact rfl
        · exact e14
        · exact e15
      · have ei : i = li.length := by omega
        subst ei
        clear ih2
        -- by symbols that close
        refine loopE_intro (fun mm e' h' => ∃ (i : Nat) (kk : Int) (vv : Nat → Value) (cs : Nat → List Value) (Z : Nat → Prop) (a4 a6 : List Int), i ≤ lo.length ∧ mm = lo.length - i ∧ e' 2 = .int .i64 a2 ∧ e' 7 = .pointer (some ⟨bx, 0, none⟩) ∧ e' 8 = .int .i64 (m.pm.n : Nat) ∧ e' 9 = .pointer (some ⟨h4.length + 2, 0, none⟩) ∧ e' 10 = .int .i64 kk ∧ e' 11 = .int .i64 (c : Nat) ∧ e' 12 = .int .i64 (p : Nat) ∧ e' 13 = vv 3 ∧ e' 14 = vv 4 ∧ e' 15 = vv 5 ∧ e' 17 = .int .i64 (i : Nat) ∧
            DL (PE m.pm.n lo) a4 i ∧
            Tw h4 h' (h4.length + 2) (.int .i64 m.pl, .int .i64 m.cl) (.slice b1 b2 b3) (sv u.ve) (.slice b4 b5 b6) (m.Of ++ m.Of) (m.Fi ++ m.Fi) vv cs Z A0 A1 A2 a3 a4 [] a6) lo.length
          ⟨0, kk, vv, cs, Z, [], a6, Nat.zero_le _, rfl, e2, e7, e8, e9, e10, e11, e12, e13, e14, e15, rfl, DL.nil _, S⟩ ?_
        clear S e2 e7 e8 e9 e10 e11 e12 e13 e14 e15 e16
        clear a6 vv cs Z kk hmm2
        rintro J3 mm3 e3v h18 ⟨i, kk, vv, cs, Z, a4, a6, hi2, hmm3, e2, e7, e8, e9, e10, e11, e12, e13, e14, e15, e17, D4, S⟩ ih3
        rw [e7, e12, e17]
        refine w_offP (w_rdP (S.ex.some g4) (v := sv u.vl) rfl (idxV (slo.ex S.ex) hwl fun z hz => w_rd1 hz rfl (w_len il (w_lss (c_dec (fun q4 => ?_) (fun q4 => ?_))))))
        · obtain ⟨x, hx⟩ := getElem?_of_lt (l := lo) (i := i) (by omega)
          have ex := elo.2 x (List.mem_of_getElem? hx)
          refine w_offP (w_rdP (S.ex.some g4) (v := sv u.vl) rfl (idxV (slo.ex S.ex) hwl fun z hz => w_rd1 hz rfl (w_idxN eI_len (Sl.ex il S.ex) hx fun z hz => w_rd1 hz rfl ?_)))
          rw [e10, e2, e8, e14]
          refine bits (by omega) (by omega) fun v85 v86 v87 v88 v89 y hy => ?_
          refine S.app4 (by have := D4.1; omega) fun c2 j2 v92 h17 S2 => ?_
          refine w_addw (w_add (by omega) (by omega) ?_)
          refine ih3 (lo.length - (i + 1)) _ _ (by omega) ⟨i + 1, _, _, _, _, _, a6, by omega, rfl, e2, e7, e8, e9, rfl, e11, e12, ?_, ?_, ?_, rfl, D4.snoc ⟨x, hx, hy⟩, S2⟩
          · exact e13
          · exact rfl
          · exact e15
        · have ei : i = lo.length := by omega
          subst ei
          clear ih3
          -- what comes back
          refine loopE_intro (fun mm e' h' => ∃ (j : Nat) (kk : Int) (vv : Nat → Value) (cs : Nat → List Value) (Z : Nat → Prop) (a5 : List (List Int)) (a6 : List Int), j ≤ re.length ∧ mm = re.length - j ∧ e' 2 = .int .i64 a2 ∧ e' 7 = .pointer (some ⟨bx, 0, none⟩) ∧ e' 8 = .int .i64 (m.pm.n : Nat) ∧ e' 9 = .pointer (some ⟨h4.length + 2, 0, none⟩) ∧ e' 10 = .int .i64 kk ∧ e' 11 = .int .i64 (c : Nat) ∧ e' 12 = .int .i64 (p : Nat) ∧ e' 13 = vv 3 ∧ e' 14 = vv 4 ∧ e' 15 = vv 5 ∧ e' 18 = .int .i64 (j : Nat) ∧
              DL (P2r m.pm.n re) a5 j ∧
              Tw h4 h' (h4.length + 2) (.int .i64 m.pl, .int .i64 m.cl) (.slice b1 b2 b3) (sv u.ve) (.slice b4 b5 b6) (m.Of ++ m.Of) (m.Fi ++ m.Fi) vv cs Z A0 A1 A2 a3 a4 a5 a6) re.length
            ⟨0, kk, vv, cs, Z, [], a6, Nat.zero_le _, rfl, e2, e7, e8, e9, e10, e11, e12, e13, e14, e15, rfl, DL.nil _, S⟩ ?_
          clear S e2 e7 e8 e9 e10 e11 e12 e13 e14 e15 e17
          clear a6 vv cs Z kk hmm3
          rintro J4 mm4 e4v h21 ⟨j, kk, vv, cs, Z, a5, a6, hj, hmm4, e2, e7, e8, e9, e10, e11, e12, e13, e14, e15, e18, D5, S⟩ ih4
          rw [e7, e12, e18]
          refine w_offP (w_rdP (S.ex.some g4) (v := sv u.vr) rfl (idxV (sre.ex S.ex) hwr fun z hz => w_rd1 hz rfl (w_len svs (w_lss (c_dec (fun q5 => ?_) (fun q5 => ?_))))))
          · obtain ⟨l, hl⟩ := getElem?_of_lt (l := re) (i := j) (by omega)
            have el := ere.2 l (List.mem_of_getElem? hl)
            obtain ⟨w, hw, iw⟩ := rvs j l hl
            have S1 := S.reset6
            refine loopE_intro (fun mm e' h' => ∃ (q : Nat) (kk : Int) (vv : Nat → Value) (cs : Nat → List Value) (Z : Nat → Prop) (a6 : List Int), q ≤ 2 * m.pm.n ∧ mm = 2 * m.pm.n - q ∧ e' 2 = .int .i64 a2 ∧ e' 7 = .pointer (some ⟨bx, 0, none⟩) ∧ e' 8 = .int .i64 (m.pm.n : Nat) ∧ e' 9 = .pointer (some ⟨h4.length + 2, 0, none⟩) ∧ e' 10 = .int .i64 kk ∧ e' 11 = .int .i64 (c : Nat) ∧ e' 12 = .int .i64 (p : Nat) ∧ e' 13 = vv 3 ∧ e' 14 = vv 4 ∧ e' 15 = vv 5 ∧ e' 18 = .int .i64 (j : Nat) ∧ e' 19 = vv 6 ∧ e' 20 = .int .i64 (q : Nat) ∧
                DL (PR m.pm.n l) a6 q ∧
                Tw h4 h' (h4.length + 2) (.int .i64 m.pl, .int .i64 m.cl) (.slice b1 b2 b3) (sv u.ve) (.slice b4 b5 b6) (m.Of ++ m.Of) (m.Fi ++ m.Fi) vv cs Z A0 A1 A2 a3 a4 a5 a6) (2 * m.pm.n)
              ⟨0, kk, _, _, _, [], Nat.zero_le _, rfl, e2, e7, e8, e9, e10, e11, e12, ?_, ?_, ?_, e18, ?_, rfl, DL.nil _, S1⟩ ?_
            · exact e13
            · exact e14
            · exact e15
            · exact rfl
            clear S1 S e2 e7 e8 e9 e10 e11 e12 e13 e14 e15 e18
            clear a6 vv cs Z kk
            rintro J5 mm5 e5v h22 ⟨q, kk, vv, cs, Z, a6, hq, hmm5, e2, e7, e8, e9, e10, e11, e12, e13, e14, e15, e18, e19, e20, D6, S⟩ ih5
            rw [e8, e20]
            refine w_mul (by omega) (by omega) (w_lss (c_dec (fun q6 => ?_) (fun q6 => ?_)))
            · have hq2 : q < 2 * m.pm.n := by omega
              have Sr := S.exx (Ex.res h22)
              obtain ⟨x, hx⟩ := getElem?_of_lt (l := l) (i := q % m.pm.n) (by rw [el.1]; exact Nat.mod_lt _ n1)
              have ex := el.2 x (List.mem_of_getElem? hx)
              rw [e7, e12, e18]
              refine w_offP (w_rdP (Sr.ex.some g4) (v := sv u.vr) rfl (idxV (sre.ex Sr.ex) hwr fun z hz => w_rd1 hz rfl (idxV (svs.ex Sr.ex) hw fun z hz => w_rd1 hz rfl ?_)))
              refine w_rem (by omega) (by omega) ?_
              have em : ((q : Nat) : Int) % ((m.pm.n : Nat) : Int) = ((q % m.pm.n : Nat) : Int) := by omega
              rw [em]
              refine w_idxN eI_len (Sl.ex iw Sr.ex) hx fun z hz => w_rd1 hz rfl ?_
              rw [e10, e2, e19]
              refine bits (by omega) (by omega) fun v85 v86 v87 v88 v89 y hy => ?_
              refine S.app6 (by have := D6.1; omega) fun c2 j2 v92 h17 S2 => ?_
              refine w_addw (w_add (by omega) (by omega) ?_)
              refine ih5 (2 * m.pm.n - (q + 1)) _ _ (by omega) ⟨q + 1, _, _, _, _, _, by omega, rfl, e2, e7, e8, e9, rfl, e11, e12, ?_, ?_, ?_, e18, ?_, rfl, D6.snoc ⟨x, hx, hy⟩, S2⟩
              · exact e13
              · exact e14
              · exact e15
              · exact rfl
            · have eq : q = 2 * m.pm.n := by omega
              subst eq
              rw [e19, e15]
              refine S.app5 (by have := D5.1; omega) fun c2 j2 v92 h17 Z' V C v5 v0 v1' v2 v3 v4 S2 => ?_
              rw [e18]
              refine w_add (by omega) (by omega) ?_
              exact ih4 (re.length - (j + 1)) _ _ (by omega) ⟨j + 1, kk, V, C, Z', _, [], by omega, rfl, e2, e7, e8, e9, e10, e11, e12, e13.trans v3.symm, e14.trans v4.symm, v5.symm, rfl, D5.snoc ⟨l, hl, D6⟩, S2⟩
          · have ej : j = re.length := by omega
            subst ej
            rw [e9]
            refine S.fin e13 e14 e15 (by have := D0.1; omega) (by have := D1.1; omega) (by have := D2.1; omega) fun v174 v175 c6 i6 v178 v179 v180 c7 i7 v183 v184 v185 c8 i8 v188 v189 v190 v191 h35 V C Z' S2 => ?_
            refine w_add (by omega) (by omega) ?_
            refine ih1 (m.pm.n - (p + 1)) _ _ (by omega) ⟨p + 1, kk, V, C, Z', _, _, _, [], [], [], a6, by omega, rfl, e2, e7, e8, e9, e10, e11, rfl, ?_, ?_, ?_, S2⟩
            · exact D0.snoc ⟨li, by rw [hmod]; exact hli, D3⟩
            · exact D1.snoc ⟨lo, by rw [hmod]; exact hlo, D4⟩
            · exact D2.snoc ⟨re, by rw [hmod]; exact hre, D5⟩
    · have ep : p = m.pm.n := by omega
      subst ep
      rw [e11]
      refine w_add (by omega) (by omega) ?_
      have ec : c * m.pm.n + m.pm.n = (c + 1) * m.pm.n := by rw [Nat.add_mul, Nat.one_mul]
      rw [ec] at D0 D1 D2
      exact ih (2 - (c + 1)) _ _ (by omega) ⟨c + 1, kk, vv, cs, Z, _, _, _, a3, a4, a5, a6, by omega, rfl, e2, e7, e8, e9, e10, rfl, D0, D1, D2, S⟩
  · have ec : c = 2 := by omega
    subst ec
    obtain ⟨DB, v2'⟩ := twice_dbl v D0 D1 D2 hN
    rw [e7, e9]
    refine w_rdPA (S.ex.some g4) (Nat.le_refl 8) ?_
    refine small18 (mh.ex S.ex) v fun h36 ua ca cnta fa x36 Ca hfa ma => ?_
    refine w_some (v := .agg (moRow ua (sm m ca cnta fa)).toArray) rfl (w_some (v := .int .i64 0) rfl ?_)
    refine n_rowv fun h37 x37 l37 g37 => stM g37 rfl ?_
    have g38 : (h37.set h36.length (.row (moRow ua (sm m ca cnta fa)) true))[h36.length]? = some (.row (moRow ua (sm m ca cnta fa)) true) := get_set _ (lt_of_get g37) _
    have x38 : Ex h36 (h37.set h36.length (.row (moRow ua (sm m ca cnta fa)) true)) := x37.set (Nat.le_refl _) _
    generalize h37.set h36.length (.row (moRow ua (sm m ca cnta fa)) true) = h38 at g38 x38 ⊢
    have y38 := x36.trans x38
    have S38 := S.exx y38
    obtain ⟨p0, q0, r0, f0⟩ := Sl.isSl (S38.s.sl.own 0 (by decide)).sl
    obtain ⟨p1, q1, r1, f1⟩ := Sl.isSl (S38.s.sl.own 1 (by decide)).sl
    obtain ⟨p2, q2, r2, f2⟩ := Sl.isSl (S38.s.sl.own 2 (by decide)).sl
    let u2 : MoV := ⟨(b1, b2, b3), u.ve, (b4, b5, b6), (p0, q0, r0), (p1, q1, r1), (p2, q2, r2)⟩
    let m2 : Mo := ⟨m.pl, m.cl, m.Of ++ m.Of, m.En, m.Fi ++ m.Fi, A0, A1, A2⟩
    have bx38 : h38[h4.length + 2]? = some (.row (moRow u2 m2) true) := by
      have := S38.box
      rw [f0, f1, f2] at this
      exact this
    have m4 := mh.ex S38.ex
    have mh2 : MoH h38 u2 m2 := by
      have s0 := (S38.s.sl.own 0 (by decide)).sl
      have s1 := (S38.s.sl.own 1 (by decide)).sl
      have s2 := (S38.s.sl.own 2 (by decide)).sl
      rw [f0, S38.c0.1] at s0
      rw [f1, S38.c1.1] at s1
      rw [f2, S38.c2.1] at s2
      refine ⟨S38.eo, m4.en, S38.ef, S38.c0.rows s0, S38.c1.rows s1, S38.c2.rets s2, ?_, m4.szE, fun l hl => ?_, fun l hl => ?_, fun r hr => ?_⟩
      · show (m.Of ++ m.Of).length ≤ 1000
        rw [List.length_append]; omega
      · obtain ⟨i, hi⟩ := List.getElem?_of_mem hl
        obtain ⟨l0, e1, e2⟩ := D0.2 i l hi
        have := m4.szI l0 (List.mem_of_getElem? e1)
        rw [e2.1]; exact this
      · obtain ⟨i, hi⟩ := List.getElem?_of_mem hl
        obtain ⟨l0, e1, e2⟩ := D1.2 i l hi
        have := m4.szL l0 (List.mem_of_getElem? e1)
        rw [e2.1]; exact this
      · obtain ⟨i, hi⟩ := List.getElem?_of_mem hr
        obtain ⟨l0, e1, e2⟩ := D2.2 i r hi
        have := m4.szR l0 (List.mem_of_getElem? e1)
        refine ⟨by rw [e2.1]; exact this.1, fun l hl => ?_⟩
        obtain ⟨j, hj⟩ := List.getElem?_of_mem hl
        obtain ⟨l1, e3, e4⟩ := e2.2 j l hj
        rw [e4.1]; omega
    refine w_rdPA bx38 (Nat.le_refl 8) ?_
    refine small18 (m := m2) (u := u2) mh2 v2' fun h39 ub cb cntb fb x39 Cb hfb mb => ?_
    refine w_some (v := .agg (moRow ub (sm m2 cb cntb fb)).toArray) rfl (w_some (v := .int .i64 0) rfl ?_)
    refine n_rowv fun h40 x40 l40 g40 => stM g40 rfl ?_
    have g41 : (h40.set h39.length (.row (moRow ub (sm m2 cb cntb fb)) true))[h39.length]? = some (.row (moRow ub (sm m2 cb cntb fb)) true) := get_set _ (lt_of_get g40) _
    have x41 : Ex h39 (h40.set h39.length (.row (moRow ub (sm m2 cb cntb fb)) true)) := x40.set (Nat.le_refl _) _
    generalize h40.set h39.length (.row (moRow ub (sm m2 cb cntb fb)) true) = h41 at g41 x41 ⊢
    have ecnt : cnta = cntb := DB.cnt ok Ca Cb
    have ga := (x39.trans x41).some g38
    have la : (sm m ca cnta fa).Of.length = cnta := by show (smOf m fa cnta).length = cnta; unfold smOf; simp
    have lb : (sm m2 cb cntb fb).Of.length = cntb := by show (smOf m2 fb cntb).length = cntb; unfold smOf; simp
    have ma' := ma.ex (x38.trans (x39.trans x41))
    have mb' := mb.ex x41
    have y0 : (0 : Int) = 0 := rfl
    refine w_eql (g_tt y0 (g_tt y0 (w_eql (pk_tt y0 ?_))))
    refine g_tt y0 (w_offP (g_tt y0 (w_rdP ga (v := sv ua.vo) rfl (g_tt y0 (w_len ma'.of (g_tt y0 (w_offP (g_tt y0 (w_rdP g41 (v := sv ub.vo) rfl (g_tt y0 (w_len mb'.of (g_tt y0 (w_eql (pk_tt y0 ?_))))))))))))))
    show Value.bool (decide _) = Value.bool true
    congr 1
    exact decide_eq_true (by omega)

theorem foldTwice_walk (h : AH) (a0 : Int) (_ : I64 a0) (v1 : Value) (ns : List Int) (i1 : Ints h v1 ns) (_ : ∀ n ∈ ns, I64 n) (a2 : Int) (_ : I64 a2) (hm : h.length = 1) : callW Try.prog 6 [.int .i64 a0, v1, .int .i64 a2] h fun v _ => v = .bool true := twice6 i1 hm
end Go.Proofs.Ytnpbehfhncbjfaa.W
end
