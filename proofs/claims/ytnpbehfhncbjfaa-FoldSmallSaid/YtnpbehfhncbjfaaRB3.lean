/- Parts of a proof, joined by a program. Conditions: none. -/
import Derived.Test.YtnpbehfhncbjfaaRB2
import Derived.Test.YtnpbehfhncbjfaaRS0

section
/- Fold's laws: the code's Small. Conditions: none. -/
namespace Go.Proofs.Ytnpbehfhncbjfaa.W
open Go Go.AM FoldPM
set_option linter.unusedVariables false
set_option maxRecDepth 100000

theorem Valid.inEl {m : Mo} (v : Valid m) {p : Nat} (hp : p < m.pm.n) {l : List Int} (hl : m.In[p]? = some l) : l.length ≤ 20 ∧ ∀ x ∈ l, 0 ≤ x ∧ x.toNat < m.pm.n := by
  have h := (v.st p hp).1 _ l (v.ofAt hp) hl
  refine ⟨by have := h.1; have := v.pl.2; omega, fun x hx => ?_⟩
  obtain ⟨i, hi⟩ := List.getElem?_of_mem hx
  have g := h.2 i x hi
  exact ⟨g.1, by show x.toNat < m.Of.length; have := g.1; have := g.2.1; omega⟩
theorem Valid.lowEl {m : Mo} (v : Valid m) {p : Nat} (hp : p < m.pm.n) {l : List Int} (hl : m.Low[p]? = some l) : l.length ≤ 20 ∧ ∀ x ∈ l, 0 ≤ x ∧ x.toNat < m.pm.n := by
  obtain ⟨lo, re, h1, h2, hc⟩ := v.rows hp
  rw [hl] at h1
  cases h1
  have h := hc _ l re (v.ofAt hp) hl h2
  by_cases h0 : m.pm.of p = 0
  · have h := (h.1 h0).2
    refine ⟨by have := h.1; have := v.cl.2; omega, fun x hx => ?_⟩
    obtain ⟨i, hi⟩ := List.getElem?_of_mem hx
    have g := h.2 i x hi
    exact ⟨g.1, by show x.toNat < m.Of.length; have := g.1; have := g.2.1; omega⟩
  · have := List.eq_nil_of_length_eq_zero (h.2 h0).1
    subst this
    exact ⟨Nat.zero_le _, fun x hx => by cases hx⟩
theorem Valid.enEl {m : Mo} (v : Valid m) : m.En.length ≤ 21 ∧ ∀ x ∈ m.En, 0 ≤ x ∧ x.toNat < m.pm.n := by
  refine ⟨by have := v.k2; omega, fun x hx => ?_⟩
  obtain ⟨i, hi⟩ := List.getElem?_of_mem hx
  have g := v.en i x hi
  exact ⟨g.1, by show x.toNat < m.Of.length; have := g.1; have := g.2.1; omega⟩
theorem Valid.retEl {m : Mo} (v : Valid m) {p : Nat} (hp : p < m.pm.n) {r : List (List Int)} (hr : m.Ret[p]? = some r) : r.length ≤ 20 ∧ ∀ l ∈ r, l.length = m.pm.n ∧ ∀ x ∈ l, 0 ≤ x ∧ x.toNat < m.pm.n := by
  obtain ⟨lo, re, h1, h2, hc⟩ := v.rows hp
  rw [hr] at h2
  cases h2
  have h := hc _ lo r (v.ofAt hp) h1 hr
  by_cases h0 : m.pm.of p = 0
  · have := List.eq_nil_of_length_eq_zero (h.1 h0).1
    subst this
    exact ⟨Nat.zero_le _, fun x hx => by cases hx⟩
  · have h := (h.2 h0).2
    refine ⟨by have := h.1; have := v.cl.2; omega, fun l hl => ?_⟩
    obtain ⟨j, hj⟩ := List.getElem?_of_mem hl
    have g := h.2 j l hj
    refine ⟨g.1, fun x hx => ?_⟩
    obtain ⟨i, hi⟩ := List.getElem?_of_mem hx
    obtain ⟨c, _, gx⟩ := g.2 i x hi
    exact ⟨gx.1, by show x.toNat < m.Of.length; have := gx.1; have := gx.2.1; omega⟩

theorem Part.keep {h h' : AH} {X C : Nat} {u : MoV} {m : Mo} {vis vc : Value} {c : List Int} {cnt : Nat} (p : Part h X C u m vis vc c cnt) (hX : h'[X]? = h[X]?) (hC : h'[C]? = h[C]?) : Part h' X C u m vis vc c cnt :=
  ⟨hX.trans p.row, p.cls.mono (fun _ _ h => h) fun j hj hf => by have : j = C := hf; rw [this]; exact hC, p.ne⟩

theorem lr1 (h : AH) : (reserve 1 h).length = h.length + 1 := by rw [reserve_one]; simp

theorem small18 {h : AH} {u : MoV} {m : Mo} {K : Value → AH → Prop} (mh : MoH h u m) (v : Valid m)
    (k : ∀ h' u' c cnt f, Ex h h' → Canon m.pm.n (Rch m.pm) (EE m.pm) c cnt → (∀ d, d < cnt → Fst c d (f d) ∧ f d < m.pm.n) → MoH h' u' (sm m c cnt f) → K (.tuple #[.agg (moRow u' (sm m c cnt f)).toArray, .int .i64 0]) h') : callW Try.prog 18 [.agg (moRow u m).toArray] h K := by
  have ok := v.ok
  have n1 := ok.n1
  have n2 := v.n2
  have hnn : m.pm.n = m.Of.length := rfl
  have hn60 : m.pm.n ≤ 60 := by omega
  refine c18 ?_
  unfold s18
  refine n_boxv rfl fun h1 x1 l1 g1 => n_rowv fun h2 x2 l2 g2 => ?_
  have g1' : h1[h.length]? = some (.row (moRow u m) true) := g1
  have gb2 := x2.some g1'
  refine w_rdPA gb2 (Nat.le_refl 8) ?_
  refine check15 (mh.ex (x1.trans x2)) (fun nv => absurd v nv) fun _ h3 x3 => w_neq (c_ff (by decide) ?_)
  have x03 := (x1.trans x2).trans x3
  have gb3 := x3.some gb2
  have gR3 := x3.some g2
  refine w_rdPA gb3 (Nat.le_refl 8) ?_
  refine classes38 v (mh.ex x03) fun h5 X C vis vc c cnt x5 hX hC lC Pa Ca => ?_
  have lX := lt_of_get Pa.row
  have hcl := Ca.len
  have cn := Ca.le
  refine n_var rfl rfl rfl fun h7 x7 l7 g7 => ?_
  have gP : h7[h5.length]? = some (.row [.pointer (some ⟨X, 0, none⟩)] true) := g7
  have Pa7 := Pa.ex x7
  refine w_rdP gP rfl (w_nilc (w_offP (w_rdP Pa7.row (v := .int .i64 (cnt : Nat)) rfl ?_)))
  refine w_mk1 (by decide) (by omega) ?_
  refine n_newv fun h8 x8 l8 g8 => ?_
  have gF8 : h8[h7.length]? = some (.row (flat eI (List.replicate cnt 0)) true) := by rw [← repL_zero]; exact g8
  have x58 := x7.trans x8
  have x08 := x03.trans (x5.trans x58)
  have gb8 := (x5.trans x58).some gb3
  have gR8 := (x5.trans x58).some gR3
  have gP8 := x8.some gP
  have Pa8 := Pa7.ex x8
  have m8 := mh.ex x08
  refine w_offP (w_rdP gb8 (v := sv u.vo) rfl (w_len m8.of (w_sub (by omega) (by omega) ?_)))
  -- the first states
  refine loopE_intro (fun mm e h' => ∃ (i : Nat) (fl : List Int), i ≤ m.pm.n ∧ mm = i ∧ e 1 = .pointer (some ⟨h.length, 0, none⟩) ∧ e 2 = .pointer (some ⟨h1.length, 0, none⟩) ∧ e 5 = .pointer (some ⟨h5.length, 0, none⟩) ∧ e 6 = .slice (some ⟨h7.length, 0, none⟩) cnt cnt ∧ e 7 = .int .i64 ((i : Int) - 1) ∧
      Exx h7.length h8 h' ∧ h'[h7.length]? = some (.row (flat eI fl) true) ∧ fl.length = cnt ∧ ∀ d, d < cnt → (∃ q : Nat, i ≤ q ∧ c[q]? = some (d : Int)) → ∃ p0 : Nat, fl[d]? = some (p0 : Int) ∧ i ≤ p0 ∧ c[p0]? = some (d : Int) ∧ ∀ q : Nat, i ≤ q → q < p0 → c[q]? ≠ some (d : Int)) m.pm.n
    ⟨m.pm.n, _, Nat.le_refl _, rfl, rfl, rfl, rfl, rfl, rfl, Exx.refl _ _, gF8, List.length_replicate, fun d hd ⟨q, h1, h2⟩ => by have := (List.getElem?_eq_some_iff.1 h2).1; omega⟩ ?_
  rintro J mm e hA ⟨i, fl, hi, hmm, e1, e2, e5, e6, e7, xA, gF, lfl, hfl⟩ ih
  rw [e7, e5, e6, e1]
  have nF : ∀ j, j ≤ h7.length → j ≠ h7.length → hA[j]? = h8[j]? := fun j hj hne => xA.get j (by omega) hne
  have gPA : hA[h5.length]? = some (.row [.pointer (some ⟨X, 0, none⟩)] true) := xA.some gP8 (by omega)
  have PaA : Part hA X C u m vis vc c cnt := Pa8.keep (nF _ (by omega) (by omega)) (nF _ (by omega) (by omega))
  refine w_geq (c_dec (fun q => ?_) (fun q => ?_))
  · obtain ⟨p, rfl⟩ : ∃ p, i = p + 1 := ⟨i - 1, by omega⟩
    have ep : (((p + 1 : Nat) : Int)) - 1 = ((p : Nat) : Int) := by omega
    rw [ep]
    refine w_rdP gPA rfl (w_nilc (w_offP (w_rdP PaA.row (v := vc) rfl ?_)))
    obtain ⟨x, hx⟩ := getElem?_of_lt (l := c) (i := p) (by omega)
    refine w_idxN eI_len PaA.cls.sl hx fun z hz => w_rd1 hz rfl (w_geq (c_dec (fun q1 => ?_) (fun q1 => ?_)))
    · have rp : Rch m.pm p := by
        by_cases r : Rch m.pm p
        · exact r
        · have := Ca.un p (by omega) r
          rw [hx] at this
          cases this
          omega
      obtain ⟨d, hd, hdx⟩ := Ca.re p (by omega) rp
      rw [hx] at hdx
      cases hdx
      refine w_ix hd (w_stP gF (by rw [flat_eI_len]; omega) rfl rfl ?_)
      rw [flat_eI_set]
      refine w_sub (by omega) (by omega) ?_
      refine ih p _ _ (by omega) ⟨p, fl.set d (p : Int), by omega, rfl, e1, e2, e5, e6, rfl, xA.set _, get_set _ (lt_of_get gF) _, by rw [List.length_set]; exact lfl, fun d' hd' ⟨q, h1, h2⟩ => ?_⟩
      by_cases ed : d' = d
      · subst ed
        exact ⟨p, List.getElem?_set_self (by omega), Nat.le_refl _, hx, fun q' h3 h4 => by omega⟩
      · have hq : q ≠ p := fun e => by
          subst e
          rw [hx] at h2
          injection h2 with h2
          omega
        obtain ⟨p0, a1, a2, a3, a4⟩ := hfl d' hd' ⟨q, by omega, h2⟩
        refine ⟨p0, by rw [List.getElem?_set_ne (Ne.symm ed)]; exact a1, by omega, a3, fun q' h3 h4 => ?_⟩
        by_cases eq : q' = p
        · subst eq
          rw [hx]
          intro hh
          injection hh with hh
          omega
        · exact a4 q' (by omega) h4
    · refine w_sub (by omega) (by omega) ?_
      refine ih p _ _ (by omega) ⟨p, fl, by omega, rfl, e1, e2, e5, e6, rfl, xA, gF, lfl, fun d' hd' ⟨q, h1, h2⟩ => ?_⟩
      have hq : q ≠ p := fun e => by
        subst e
        rw [hx] at h2
        injection h2 with h2
        omega
      obtain ⟨p0, a1, a2, a3, a4⟩ := hfl d' hd' ⟨q, by omega, h2⟩
      refine ⟨p0, a1, by omega, a3, fun q' h3 h4 => ?_⟩
      by_cases eq : q' = p
      · subst eq
        rw [hx]
        intro hh
        injection hh with hh
        omega
      · exact a4 q' (by omega) h4
  · obtain ⟨f, hf⟩ : ∃ f : Nat → Nat, ∀ d, d < cnt → fl[d]? = some ((f d : Nat) : Int) ∧ Fst c d (f d) ∧ f d < m.pm.n := by
      refine ⟨fun d => (fl.getD d 0).toNat, fun d hd => ?_⟩
      obtain ⟨p, hp, hpd⟩ := Ca.all d hd
      obtain ⟨p0, a1, a2, a3, a4⟩ := hfl d hd ⟨p, by omega, hpd⟩
      have e : (fl.getD d 0).toNat = p0 := by rw [getD_some a1]; rfl
      dsimp only
      rw [e]
      exact ⟨a1, ⟨a3, fun q hq => a4 q (by omega) hq⟩, by have := (List.getElem?_eq_some_iff.1 a3).1; omega⟩
    clear ih hfl
    have xA8 : Ex h5 hA := Exx.base x58 xA (by have := x7.len; omega)
    have x0A : Ex h hA := (x03.trans x5).trans xA8
    have gbA : hA[h.length]? = some (.row (moRow u m) true) := (x5.trans xA8).some gb3
    have gRA : hA[h1.length]? = some (.row z8 true) := (x5.trans xA8).some gR3
    have mA := mh.ex x0A
    have lA := xA.len
    have lF := lt_of_get gF
    have xr := Ex.res hA
    have lr : (reserve 1 hA).length = hA.length + 1 := by rw [reserve_one]; simp
    refine w_offP (w_rdP (xr.some gbA) (v := .int .i64 m.pl) rfl (w_offP (w_rdP (xr.some gbA) (v := .int .i64 m.cl) rfl (w_offP (w_rdP (xr.some gbA) (v := sv u.ve) rfl ?_)))))
    refine to39 (mA.ex xr).en (by have := v.enEl.1; omega) (xr.some gPA) (PaA.ex xr) (fun x hx => by have := v.enEl.2 x hx; rw [hcl]; exact this) fun v61 h11 x11 i61 on61 => ?_
    obtain ⟨a61, n61, c61, rfl⟩ := Sl.isSl i61
    refine ⟨ptr_id (x11.get _ (by have := lt_of_get gbA; omega)), ptr_id (x11.get _ (by have := lt_of_get gbA; omega)), ?_⟩
    refine w_some (v := .agg #[.int .i64 m.pl, .int .i64 m.cl, .slice none 0 0, .slice a61 n61 c61, .slice none 0 0, .slice none 0 0, .slice none 0 0, .slice none 0 0]) rfl ?_
    have gd : (reserve 1 hA)[hA.length]? = some .dead := by rw [reserve_one]; exact get_new _ _
    refine n_slot ?_
    have lT := lt_of_get (x11.some gd)
    refine w_stPA (get_set _ lT _) rfl (Nat.le_refl 8) rfl ?_
    have gT : ((h11.set hA.length (.row [(.int .i64 0), (.int .i64 0), (.slice none 0 0), (.slice none 0 0), (.slice none 0 0), (.slice none 0 0), (.slice none 0 0), (.slice none 0 0)] true)).set hA.length (.row (spliceL [(.int .i64 0), (.int .i64 0), (.slice none 0 0), (.slice none 0 0), (.slice none 0 0), (.slice none 0 0), (.slice none 0 0), (.slice none 0 0)] 0 (cellsL (.agg #[.int .i64 m.pl, .int .i64 m.cl, .slice none 0 0, .slice a61 n61 c61, .slice none 0 0, .slice none 0 0, .slice none 0 0, .slice none 0 0]))) true))[hA.length]? = some (.row [.int .i64 m.pl, .int .i64 m.cl, .slice none 0 0, .slice a61 n61 c61, .slice none 0 0, .slice none 0 0, .slice none 0 0, .slice none 0 0] true) := get_set _ (by rw [List.length_set]; exact lT) _
    have xT : Ex hA ((h11.set hA.length (.row [(.int .i64 0), (.int .i64 0), (.slice none 0 0), (.slice none 0 0), (.slice none 0 0), (.slice none 0 0), (.slice none 0 0), (.slice none 0 0)] true)).set hA.length (.row (spliceL [(.int .i64 0), (.int .i64 0), (.slice none 0 0), (.slice none 0 0), (.slice none 0 0), (.slice none 0 0), (.slice none 0 0), (.slice none 0 0)] 0 (cellsL (.agg #[.int .i64 m.pl, .int .i64 m.cl, .slice none 0 0, .slice a61 n61 c61, .slice none 0 0, .slice none 0 0, .slice none 0 0, .slice none 0 0]))) true)) := ((xr.trans x11).set (Nat.le_refl _) _).set (Nat.le_refl _) _
    have kT : ∀ j, j ≠ hA.length → ((h11.set hA.length (.row [(.int .i64 0), (.int .i64 0), (.slice none 0 0), (.slice none 0 0), (.slice none 0 0), (.slice none 0 0), (.slice none 0 0), (.slice none 0 0)] true)).set hA.length (.row (spliceL [(.int .i64 0), (.int .i64 0), (.slice none 0 0), (.slice none 0 0), (.slice none 0 0), (.slice none 0 0), (.slice none 0 0), (.slice none 0 0)] 0 (cellsL (.agg #[.int .i64 m.pl, .int .i64 m.cl, .slice none 0 0, .slice a61 n61 c61, .slice none 0 0, .slice none 0 0, .slice none 0 0, .slice none 0 0]))) true))[j]? = h11[j]? := fun j hj => (get_ne (Ne.symm hj) _).trans (get_ne (Ne.symm hj) _)
    have lTT : ((h11.set hA.length (.row [(.int .i64 0), (.int .i64 0), (.slice none 0 0), (.slice none 0 0), (.slice none 0 0), (.slice none 0 0), (.slice none 0 0), (.slice none 0 0)] true)).set hA.length (.row (spliceL [(.int .i64 0), (.int .i64 0), (.slice none 0 0), (.slice none 0 0), (.slice none 0 0), (.slice none 0 0), (.slice none 0 0), (.slice none 0 0)] 0 (cellsL (.agg #[.int .i64 m.pl, .int .i64 m.cl, .slice none 0 0, .slice a61 n61 c61, .slice none 0 0, .slice none 0 0, .slice none 0 0, .slice none 0 0]))) true)).length = h11.length := by rw [List.length_set, List.length_set]
    generalize (h11.set hA.length (.row [(.int .i64 0), (.int .i64 0), (.slice none 0 0), (.slice none 0 0), (.slice none 0 0), (.slice none 0 0), (.slice none 0 0), (.slice none 0 0)] true)).set hA.length (.row (spliceL [(.int .i64 0), (.int .i64 0), (.slice none 0 0), (.slice none 0 0), (.slice none 0 0), (.slice none 0 0), (.slice none 0 0), (.slice none 0 0)] 0 (cellsL (.agg #[.int .i64 m.pl, .int .i64 m.cl, .slice none 0 0, .slice a61 n61 c61, .slice none 0 0, .slice none 0 0, .slice none 0 0, .slice none 0 0]))) true) = hT at gT xT kT lTT ⊢
    let v61 : Value := .slice a61 n61 c61
    have S0 : SmI hA hT hA.length (.int .i64 m.pl, .int .i64 m.cl) (.slice a61 n61 c61) (m.En.map (cOf c)) wnil (fun _ => []) (fun j => onId (.slice a61 n61 c61) j) [] [] [] [] [] [] [] :=
      ⟨xT, rfl, gT, ⟨SL.nil _ _, fun j hj => ⟨by have := (on61 j hj).1; omega, by rw [lTT]; exact (on61 j hj).2, fun _ _ hh => hh.elim⟩⟩, Sl.keepOn i61 fun j hj => kT j (by have := (on61 j hj).1; omega), fun j hj => hj, rfl, rfl, RowsZ.nil _ _, RowsZ.nil _ _, RetsZ.nil _ _, RowsZ.nil _ _, rfl⟩
    refine w_lenSl ?_
    refine loopE_intro (fun mm e' h' => ∃ (d : Nat) (vv : Nat → Value) (cs : Nat → List Value) (Z : Nat → Prop) (a5 : List (List Int)) (a6 : List Int), d ≤ cnt ∧ mm = cnt - d ∧ e' 1 = .pointer (some ⟨h.length, 0, none⟩) ∧ e' 2 = .pointer (some ⟨h1.length, 0, none⟩) ∧ e' 5 = .pointer (some ⟨h5.length, 0, none⟩) ∧ e' 6 = .slice (some ⟨h7.length, 0, none⟩) cnt cnt ∧
        e' 9 = .func (.func 39) #[] #[.pointer (some ⟨h5.length, 0, none⟩)] ∧ e' 10 = .pointer (some ⟨hA.length, 0, none⟩) ∧ e' 63 = .slice (some ⟨h7.length, 0, none⟩) cnt cnt ∧ e' 64 = .int .i64 (cnt : Nat) ∧ e' 65 = .int .i64 (d : Nat) ∧
        SmI hA h' hA.length (.int .i64 m.pl, .int .i64 m.cl) (.slice a61 n61 c61) (m.En.map (cOf c)) vv cs Z (smOf m f d) (smFi m f d) (smIn m c f d) (smLow m c f d) (smRet m c cnt f d) a5 a6) cnt
      ⟨0, wnil, fun _ => [], _, [], [], Nat.zero_le _, rfl, e1, e2, e5, e6, rfl, rfl, rfl, rfl, rfl, S0⟩ ?_
    clear e1 e2 e5 e6 e7 hmm q hi S0 gT xT kT lTT lT x11 on61 i61 gd
    clear e mm J i hT h11
    rintro J mm e h14 ⟨d, vv, cs, Z, a5, a6, hd, hmm, e1, e2, e5, e6, e9, e10, e63, e64, e65, S⟩ ih
    rw [e63, e64, e65, e10, e1, e9]
    have slF : ∀ {h' : AH}, Ex hA h' → Ints h' (.slice (some ⟨h7.length, 0, none⟩) cnt cnt) fl := fun x => slI (x.some gF) lfl (by omega)
    refine w_lss (c_dec (fun q => ?_) (fun q => ?_))
    · have hdc : d < cnt := by omega
      obtain ⟨fd, fst, fdn⟩ := hf d hdc
      obtain ⟨li, hli⟩ := getElem?_of_lt (l := m.In) (i := f d) (by have := v.li; show f d < m.In.length; rw [this]; exact fdn)
      obtain ⟨lo, hlo⟩ := getElem?_of_lt (l := m.Low) (i := f d) (by have := v.ll; show f d < m.Low.length; rw [this]; exact fdn)
      obtain ⟨re, hre⟩ := getElem?_of_lt (l := m.Ret) (i := f d) (by have := v.lr; show f d < m.Ret.length; rw [this]; exact fdn)
      refine w_idxN eI_len (slF S.ex) fd fun z hz => w_rd1 hz rfl ?_
      -- its module
      have dd : ∀ (h : AH), (reserve 1 h)[h.length]? = some .dead := fun h => by rw [reserve_one]; exact get_new _ _
      have S1 := S.exx (Ex.res h14)
      have bA1 := S1.ex.some gbA
      have nz : ∀ {h : AH} {vv : Nat → Value} {cs : Nat → List Value} {Z : Nat → Prop}, SMs h hA.length vv cs Z → ¬ Z h.length := fun s hz => by have := (s.z _ hz).2.1; omega
      refine w_offP (w_rdP S1.box rfl (w_offP (w_rdP bA1 (v := sv u.vo) rfl (w_idxN eI_len (mA.ex S1.ex).of (v.ofAt fdn) fun z hz => w_rd1 hz rfl ?_))))
      refine S1.app0 S.lt (dd h14) (nz S.s) (by unfold smOf; simp; omega) fun c1 j1 v1 q1 h17 l17 S2 => ?_
      -- is it final
      have S3 := S2.exx (Ex.res h17)
      refine w_offP (w_rdP S3.box rfl (w_offP (w_rdP (S3.ex.some gbA) (v := sv u.vf) rfl (w_idxN eBo_len (mA.ex S3.ex).fi (v.fiAt fdn) fun z hz => w_rd1 hz rfl ?_))))
      refine S3.app1 S2.lt (dd h17) (nz S2.s) (by unfold smFi; simp; omega) fun c2 j2 v2 q2 h20 l20 S4 => ?_
      -- by plain symbols
      have S5 := S4.exx (Ex.res h20)
      obtain ⟨vin, sin, rin⟩ := (mA.ex S5.ex).inn
      obtain ⟨win, hwin, iin⟩ := rin _ li hli
      refine w_offP (w_rdP S5.box rfl (w_offP (w_rdP (S5.ex.some gbA) (v := sv u.vi) rfl (idxV sin hwin fun z hz => w_rd1 hz rfl ?_))))
      have eln := v.inEl fdn hli
      refine to39 iin (by omega) (S5.ex.some gPA) (PaA.ex S5.ex) (fun x hx => by have := eln.2 x hx; rw [hcl]; exact this) fun w97 h21 x21 i97 on97 => ?_
      refine ⟨ptr_id (x21.get _ (by have := S5.lt; exact this)), ?_⟩
      have S6 := S5.addZ x21 on97
      refine S6.app2 i97 (fun j hj => .inr hj) S4.lt (x21.some (dd h20)) (fun hz => hz.elim (nz S4.s) fun hh => by have := (on97 _ hh).1; rw [lr1] at this; omega) (by unfold smIn; simp; omega) fun c3 j3 v3 q3 h24 l24 S7 => ?_
      -- by symbols that close
      have S8 := S7.exx (Ex.res h24)
      obtain ⟨vlo, slo, rlo⟩ := (mA.ex S8.ex).low
      obtain ⟨wlo, hwlo, ilo⟩ := rlo _ lo hlo
      refine w_offP (w_rdP S8.box rfl (w_offP (w_rdP (S8.ex.some gbA) (v := sv u.vl) rfl (idxV slo hwlo fun z hz => w_rd1 hz rfl ?_))))
      have ell := v.lowEl fdn hlo
      refine to39 ilo (by omega) (S8.ex.some gPA) (PaA.ex S8.ex) (fun x hx => by have := ell.2 x hx; rw [hcl]; exact this) fun w109 h25 x25 i109 on109 => ?_
      refine ⟨ptr_id (x25.get _ (by have := S8.lt; exact this)), ?_⟩
      have S9 := S8.addZ x25 on109
      refine S9.app3 i109 (fun j hj => .inr hj) S7.lt (x25.some (dd h24)) (fun hz => hz.elim (nz S7.s) fun hh => by have := (on109 _ hh).1; rw [lr1] at this; omega) (by unfold smLow; simp; omega) fun c4 j4 v4 q4 h28 l28 S10 => ?_
      -- what comes back
      have elr := v.retEl fdn hre
      have elr1 := elr.1
      obtain ⟨vre, sre, rre⟩ := mA.ret
      obtain ⟨wre, hwre, vsr, svr, rvr⟩ := rre _ re hre
      refine w_offP (w_rdP (S10.ex.some gbA) (v := sv u.vr) rfl (idxV (sre.ex S10.ex) hwre fun z hz => w_rd1 hz rfl (w_len svr ?_)))
      have S11 := S10.reset5
      have t0 : smOf m f (d + 1) = smOf m f d ++ [m.pm.of (f d)] := range_succ _ d
      have t1 : smFi m f (d + 1) = smFi m f d ++ [m.pm.fi (f d)] := range_succ _ d
      have t2 : smIn m c f (d + 1) = smIn m c f d ++ [li.map (cOf c)] := by
        have : (m.In.getD (f d) []) = li := getD_of hli
        rw [← this]; exact range_succ _ d
      have t3 : smLow m c f (d + 1) = smLow m c f d ++ [lo.map (cOf c)] := by
        have : (m.Low.getD (f d) []) = lo := getD_of hlo
        rw [← this]; exact range_succ _ d
      rw [← t0, ← t1, ← t2, ← t3] at S11
      refine loopE_intro (fun mm e' h' => ∃ (j : Nat) (vv : Nat → Value) (cs : Nat → List Value) (Z : Nat → Prop) (a6 : List Int), j ≤ re.length ∧ mm = re.length - j ∧ e' 1 = .pointer (some ⟨h.length, 0, none⟩) ∧ e' 2 = .pointer (some ⟨h1.length, 0, none⟩) ∧ e' 5 = .pointer (some ⟨h5.length, 0, none⟩) ∧ e' 6 = .slice (some ⟨h7.length, 0, none⟩) cnt cnt ∧
          e' 9 = .func (.func 39) #[] #[.pointer (some ⟨h5.length, 0, none⟩)] ∧ e' 10 = .pointer (some ⟨hA.length, 0, none⟩) ∧ e' 63 = .slice (some ⟨h7.length, 0, none⟩) cnt cnt ∧ e' 64 = .int .i64 (cnt : Nat) ∧ e' 65 = .int .i64 (d : Nat) ∧ e' 13 = vv 5 ∧ e' 117 = wre ∧ e' 118 = .int .i64 (re.length : Nat) ∧ e' 119 = .int .i64 (j : Nat) ∧
          SmI hA h' hA.length (.int .i64 m.pl, .int .i64 m.cl) (.slice a61 n61 c61) (m.En.map (cOf c)) vv cs Z (smOf m f (d + 1)) (smFi m f (d + 1)) (smIn m c f (d + 1)) (smLow m c f (d + 1)) (smRet m c cnt f d) ((re.take j).map fun l => smRow c f l cnt) a6) re.length
        ⟨0, _, _, _, a6, Nat.zero_le _, rfl, e1, e2, e5, e6, e9, e10, e63, e64, e65, ?_, rfl, rfl, rfl, S11⟩ ?_
      · exact rfl
      clear S11
      have S10ex := S10.ex
      clear S10 S9 S8 S7 S6 S5 S4 S3 S2 S1 S hz x25 on109 ilo hwlo rlo slo x21 on97 iin hwin rin sin bA1 l28 l24 l20 l17 i109 i97
      clear e1 e2 e5 e6 e9 e10 e63 e64 e65 q
      rintro I2 mm2 e2v h29 ⟨j, vv2, cs2, Z2, a62, hj, hmm2, f1, f2, f5, f6, f9, f10, f63, f64, f65, f13, f117, f118, f119, T0⟩ ih2
      rw [f117, f118, f119, f6, f10]
      refine w_lss (c_dec (fun q2 => ?_) (fun q2 => ?_))
      · obtain ⟨l, hl⟩ := getElem?_of_lt (l := re) (i := j) (by omega)
        obtain ⟨w, hw, iw⟩ := rvr j l hl
        have ell2 := elr.2 l (List.mem_of_getElem? hl)
        refine idxV (svr.ex T0.ex) hw fun z hz => w_rd1 hz rfl (w_lenSl ?_)
        refine loopE_intro (fun mm e' h' => ∃ (k : Nat) (vv : Nat → Value) (cs : Nat → List Value) (Z : Nat → Prop), k ≤ cnt ∧ mm = cnt - k ∧ e' 1 = .pointer (some ⟨h.length, 0, none⟩) ∧ e' 2 = .pointer (some ⟨h1.length, 0, none⟩) ∧ e' 5 = .pointer (some ⟨h5.length, 0, none⟩) ∧ e' 6 = .slice (some ⟨h7.length, 0, none⟩) cnt cnt ∧
            e' 9 = .func (.func 39) #[] #[.pointer (some ⟨h5.length, 0, none⟩)] ∧ e' 10 = .pointer (some ⟨hA.length, 0, none⟩) ∧ e' 63 = .slice (some ⟨h7.length, 0, none⟩) cnt cnt ∧ e' 64 = .int .i64 (cnt : Nat) ∧ e' 65 = .int .i64 (d : Nat) ∧ e' 13 = vv 5 ∧ e' 117 = wre ∧ e' 118 = .int .i64 (re.length : Nat) ∧ e' 119 = .int .i64 (j : Nat) ∧
            e' 15 = w ∧ e' 16 = vv 6 ∧ e' 123 = .slice (some ⟨h7.length, 0, none⟩) cnt cnt ∧ e' 124 = .int .i64 (cnt : Nat) ∧ e' 125 = .int .i64 (k : Nat) ∧
            SmI hA h' hA.length (.int .i64 m.pl, .int .i64 m.cl) (.slice a61 n61 c61) (m.En.map (cOf c)) vv cs Z (smOf m f (d + 1)) (smFi m f (d + 1)) (smIn m c f (d + 1)) (smLow m c f (d + 1)) (smRet m c cnt f d) ((re.take j).map fun l => smRow c f l cnt) (smRow c f l k)) cnt
          ⟨0, _, _, _, Nat.zero_le _, rfl, f1, f2, f5, f6, f9, f10, f63, f64, f65, ?_, f117, f118, f119, rfl, ?_, rfl, rfl, rfl, T0.reset6⟩ ?_
        · exact f13
        · exact rfl
        have T0ex := T0.ex
        clear f1 f2 f5 f6 f9 f10 f63 f64 f65 f13 f117 f118 f119 T0 hz
        rintro I3 mm3 e3v h30 ⟨kk, vv3, cs3, Z3, hk, hmm3, g1, g2, g5, g6, g9, g10, g63, g64, g65, g13, g117, g118, g119, g15, g16, g123, g124, g125, U⟩ ih3
        rw [g123, g124, g125, g5, g15, g16]
        refine w_lss (c_dec (fun q3 => ?_) (fun q3 => ?_))
        · obtain ⟨fk, _, fkn⟩ := hf kk (by omega)
          refine w_idxN eI_len (slF U.ex) fk fun z hz => w_rd1 hz rfl ?_
          have U1 := U.exx (Ex.res h30)
          have PaU := PaA.ex U1.ex
          obtain ⟨t, ht⟩ := getElem?_of_lt (l := l) (i := f kk) (by rw [ell2.1]; exact fkn)
          have tn := ell2.2 t (List.mem_of_getElem? ht)
          obtain ⟨y, hy⟩ := getElem?_of_lt (l := c) (i := t.toNat) (by omega)
          refine w_rdP (U1.ex.some gPA) rfl (w_nilc (w_offP (w_rdP PaU.row (v := vc) rfl ?_)))
          refine w_idxN eI_len (Sl.ex iw U1.ex) ht fun z hz => w_rd1 hz rfl (w_idxT eI_len PaU.cls.sl tn.1 hy fun z hz => w_rd1 hz rfl ?_)
          refine U1.app6 U.lt (dd h30) (nz U.s) (by unfold smRow; simp; omega) fun c9 j9 v9 h32 l32 U2 => ?_
          refine w_add (by omega) (by omega) ?_
          have er : smRow c f l (kk + 1) = smRow c f l kk ++ [y] := by
            have : cOf c (l.getD (f kk) 0) = y := by rw [getD_some ht]; exact getD_some hy
            rw [← this]; exact range_succ _ kk
          rw [← er] at U2
          refine ih3 (cnt - (kk + 1)) _ _ (by omega) ⟨kk + 1, _, _, _, by omega, rfl, g1, g2, g5, g6, g9, g10, g63, g64, g65, ?_, g117, g118, g119, g15, ?_, g123, g124, rfl, U2⟩
          · exact g13
          · exact rfl
        · have ek : kk = cnt := by omega
          subst ek
          have o6 := (U.s.sl.own 6 (by decide)).sl
          rw [U.c6, flat_eI_len] at o6
          refine clone40 o6 (by unfold smRow; simp; omega) fun v145 h33 x33 i145 on145 => ?_
          have U3 := U.addZ x33 on145
          rw [g13]
          refine U3.app5 (l := smRow c f l kk) i145 (fun j hj => .inr hj) (by rw [List.length_map, List.length_take]; omega) fun c7 j7 v7 h35 l35 U4 => ?_
          rw [g119]
          refine w_add (by omega) (by omega) ?_
          have er : (re.take (j + 1)).map (fun l => smRow c f l kk) = (re.take j).map (fun l => smRow c f l kk) ++ [smRow c f l kk] := by
            rw [take_succ_get hl, List.map_append]; rfl
          rw [← er] at U4
          refine ih2 (re.length - (j + 1)) _ _ (by omega) ⟨j + 1, _, _, _, _, by omega, rfl, g1, g2, g5, g6, g9, g10, g63, g64, g65, ?_, g117, g118, rfl, U4⟩
          exact rfl
      · have ej : re.take j = re := List.take_of_length_le (by omega)
        rw [ej] at T0
        have T1 := T0.exx (Ex.res h29)
        refine w_offP (w_rdP T1.box rfl ?_)
        have o5 := (T1.s.sl.own 5 (by decide)).sl
        rw [f13]
        have lc5 := T1.c5.1
        refine clone41 o5 (by rw [lc5, List.length_map]; omega) fun v152 h36 x36 i152 on152 => ?_
        refine ⟨ptr_id (x36.get _ (by have := T1.lt; exact this)), ?_⟩
        have T2 := T1.addZ x36 on152
        rw [lc5] at i152
        refine T2.app4 i152 (fun j hj => .inr hj) T2.c5 T0.lt (x36.some (dd h29)) (fun hz => hz.elim (nz T0.s) fun hh => by have := (on152 _ hh).1; rw [lr1] at this; omega) (by unfold smRet; simp; omega) fun c8 j8 v8 q8 h39 l39 T3 => ?_
        rw [f65]
        refine w_add (by omega) (by omega) ?_
        have er : smRet m c cnt f (d + 1) = smRet m c cnt f d ++ [re.map fun l => smRow c f l cnt] := by
          have : (m.Ret.getD (f d) []) = re := getD_of hre
          rw [← this]; exact range_succ _ d
        rw [← er] at T3
        exact ih (cnt - (d + 1)) _ _ (by omega) ⟨d + 1, _, _, _, _, _, by omega, rfl, f1, f2, f5, f6, f9, f10, f63, f64, rfl, T3⟩
    · have ed : d = cnt := by omega
      subst ed
      have l14 := S.lt
      rw [e2]
      let F : Nat → Prop := fun j => j = hA.length
      have s0 := (S.s.sl.own 0 (by decide)).sl
      have s1 := (S.s.sl.own 1 (by decide)).sl
      have s2 := (S.s.sl.own 2 (by decide)).sl
      have s3 := (S.s.sl.own 3 (by decide)).sl
      have s4 := (S.s.sl.own 4 (by decide)).sl
      have z0 : (cs 0).length = d := by rw [S.c0, flat_eI_len]; unfold smOf; simp
      have z1 : (cs 1).length = d := by rw [S.c1, flat_eBo_len]; unfold smFi; simp
      have z2 : (cs 2).length = d := by rw [S.c2.1]; unfold smIn; simp
      have z3 : (cs 3).length = d := by rw [S.c3.1]; unfold smLow; simp
      have z4 : (cs 4).length = d := by rw [S.c4.1]; unfold smRet; simp
      rw [z0] at s0
      rw [z1] at s1
      rw [z2] at s2
      rw [z3] at s3
      rw [z4] at s4
      refine w_offP (w_rdP S.box rfl (clone40 s0 (by omega) fun v159 h40 x40 i159 on159 => ?_))
      refine w_offP ⟨ptr_id (x40.get _ l14), w_rdP (x40.some S.box) rfl (clone42 (s1.ex x40) (by omega) fun v162 h41 x41 i162 on162 => ?_)⟩
      obtain ⟨p0, q0, r0, rfl⟩ := Sl.isSl i159
      obtain ⟨p1, q1, r1, rfl⟩ := Sl.isSl i162
      have x1441 := x40.trans x41
      have g41 := x1441.some S.box
      have l41 := lt_of_get g41
      refine w_offP (w_stP g41 (by show 0 + 2 < 8; omega) rfl rfl ?_)
      have g42 : (h41.set hA.length (.row (([.int .i64 m.pl, .int .i64 m.cl, vv 0, .slice a61 n61 c61, vv 1, vv 2, vv 3, vv 4] : List Value).set (0 + 2) (.slice p0 q0 r0)) true))[hA.length]? = some (.row [.int .i64 m.pl, .int .i64 m.cl, .slice p0 q0 r0, .slice a61 n61 c61, vv 1, vv 2, vv 3, vv 4] true) := get_set _ l41 _
      have x42 : ExF F h41 (h41.set hA.length (.row (([.int .i64 m.pl, .int .i64 m.cl, vv 0, .slice a61 n61 c61, vv 1, vv 2, vv 3, vv 4] : List Value).set (0 + 2) (.slice p0 q0 r0)) true)) := (ExF.refl F h41).set rfl _
      have l42 : (h41.set hA.length (.row (([.int .i64 m.pl, .int .i64 m.cl, vv 0, .slice a61 n61 c61, vv 1, vv 2, vv 3, vv 4] : List Value).set (0 + 2) (.slice p0 q0 r0)) true)).length = h41.length := List.length_set
      show optW (pOff 4 (.pointer (some ⟨hA.length, 0, none⟩))) fun v164 => optW (pStore 1 v164 (.slice p1 q1 r1) (h41.set hA.length (.row (([.int .i64 m.pl, .int .i64 m.cl, vv 0, .slice a61 n61 c61, vv 1, vv 2, vv 3, vv 4] : List Value).set (0 + 2) (.slice p0 q0 r0)) true))) _
      generalize h41.set hA.length (.row (([.int .i64 m.pl, .int .i64 m.cl, vv 0, .slice a61 n61 c61, vv 1, vv 2, vv 3, vv 4] : List Value).set (0 + 2) (.slice p0 q0 r0)) true) = h42 at g42 x42 l42 ⊢
      refine w_offP (w_stP g42 (by show 0 + 4 < 8; omega) rfl rfl ?_)
      have g43 : (h42.set hA.length (.row (([.int .i64 m.pl, .int .i64 m.cl, .slice p0 q0 r0, .slice a61 n61 c61, vv 1, vv 2, vv 3, vv 4] : List Value).set (0 + 4) (.slice p1 q1 r1)) true))[hA.length]? = some (.row [.int .i64 m.pl, .int .i64 m.cl, .slice p0 q0 r0, .slice a61 n61 c61, .slice p1 q1 r1, vv 2, vv 3, vv 4] true) := get_set _ (by omega) _
      have x43 : ExF F h41 (h42.set hA.length (.row (([.int .i64 m.pl, .int .i64 m.cl, .slice p0 q0 r0, .slice a61 n61 c61, vv 1, vv 2, vv 3, vv 4] : List Value).set (0 + 4) (.slice p1 q1 r1)) true)) := x42.set rfl _
      generalize h42.set hA.length (.row (([.int .i64 m.pl, .int .i64 m.cl, .slice p0 q0 r0, .slice a61 n61 c61, vv 1, vv 2, vv 3, vv 4] : List Value).set (0 + 4) (.slice p1 q1 r1)) true) = h43 at g43 x43 ⊢
      have x1443 : ExF F h14 h43 := (ExF.ex x1441).trans x43
      have nS : ∀ (i : Nat) {n : Nat} {cs' : List Value} {h' : AH}, i < 11 → Sl 1 h14 (vv i) n cs' → ExF F h14 h' → Sl 1 h' (vv i) n cs' := fun i n cs' h' hi sl y => sl.keepOn fun j hj => y.get j (S.s.sl.on hi hj).2 fun e => by have := (S.s.sl.on hi hj).1; have : j = hA.length := e; omega
      have l43 := lt_of_get g43
      refine w_offP (w_rdP g43 rfl (clone41 (nS 2 (by decide) s2 x1443) (by omega) fun v167 h44 x44 i167 on167 => ?_))
      have x1444 := x1443.trans (.ex x44)
      refine w_offP ⟨ptr_id (x44.get _ l43), w_rdP (x44.some g43) rfl (clone41 (nS 3 (by decide) s3 x1444) (by omega) fun v170 h45 x45 i170 on170 => ?_)⟩
      have x1445 := x1444.trans (.ex x45)
      refine w_offP ⟨ptr_id (x45.get _ (x44.lt l43)), ptr_id (x44.get _ l43), w_rdP (x45.some (x44.some g43)) rfl (clone43 (nS 4 (by decide) s4 x1445) (by omega) fun v173 h46 x46 i173 on173 => ?_)⟩
      obtain ⟨p2, q2, r2, rfl⟩ := Sl.isSl i167
      obtain ⟨p3, q3, r3, rfl⟩ := Sl.isSl i170
      obtain ⟨p4, q4, r4, rfl⟩ := Sl.isSl i173
      have x4346 := (x44.trans x45).trans x46
      have g46 := x4346.some g43
      have l46 := lt_of_get g46
      refine w_offP (w_stP g46 (by show 0 + 5 < 8; omega) rfl rfl ?_)
      have g47 : (h46.set hA.length (.row (([.int .i64 m.pl, .int .i64 m.cl, .slice p0 q0 r0, .slice a61 n61 c61, .slice p1 q1 r1, vv 2, vv 3, vv 4] : List Value).set (0 + 5) (.slice p2 q2 r2)) true))[hA.length]? = some (.row [.int .i64 m.pl, .int .i64 m.cl, .slice p0 q0 r0, .slice a61 n61 c61, .slice p1 q1 r1, .slice p2 q2 r2, vv 3, vv 4] true) := get_set _ l46 _
      have x47 : ExF F h46 (h46.set hA.length (.row (([.int .i64 m.pl, .int .i64 m.cl, .slice p0 q0 r0, .slice a61 n61 c61, .slice p1 q1 r1, vv 2, vv 3, vv 4] : List Value).set (0 + 5) (.slice p2 q2 r2)) true)) := (ExF.refl F h46).set rfl _
      generalize h46.set hA.length (.row (([.int .i64 m.pl, .int .i64 m.cl, .slice p0 q0 r0, .slice a61 n61 c61, .slice p1 q1 r1, vv 2, vv 3, vv 4] : List Value).set (0 + 5) (.slice p2 q2 r2)) true) = h47 at g47 x47 ⊢
      refine w_offP (w_stP g47 (by show 0 + 6 < 8; omega) rfl rfl ?_)
      have g48 : (h47.set hA.length (.row (([.int .i64 m.pl, .int .i64 m.cl, .slice p0 q0 r0, .slice a61 n61 c61, .slice p1 q1 r1, .slice p2 q2 r2, vv 3, vv 4] : List Value).set (0 + 6) (.slice p3 q3 r3)) true))[hA.length]? = some (.row [.int .i64 m.pl, .int .i64 m.cl, .slice p0 q0 r0, .slice a61 n61 c61, .slice p1 q1 r1, .slice p2 q2 r2, .slice p3 q3 r3, vv 4] true) := get_set _ (lt_of_get g47) _
      have x48 : ExF F h46 (h47.set hA.length (.row (([.int .i64 m.pl, .int .i64 m.cl, .slice p0 q0 r0, .slice a61 n61 c61, .slice p1 q1 r1, .slice p2 q2 r2, vv 3, vv 4] : List Value).set (0 + 6) (.slice p3 q3 r3)) true)) := x47.set rfl _
      generalize h47.set hA.length (.row (([.int .i64 m.pl, .int .i64 m.cl, .slice p0 q0 r0, .slice a61 n61 c61, .slice p1 q1 r1, .slice p2 q2 r2, vv 3, vv 4] : List Value).set (0 + 6) (.slice p3 q3 r3)) true) = h48 at g48 x48 ⊢
      refine w_offP (w_stP g48 (by show 0 + 7 < 8; omega) rfl rfl ?_)
      have g49 : (h48.set hA.length (.row (([.int .i64 m.pl, .int .i64 m.cl, .slice p0 q0 r0, .slice a61 n61 c61, .slice p1 q1 r1, .slice p2 q2 r2, .slice p3 q3 r3, vv 4] : List Value).set (0 + 7) (.slice p4 q4 r4)) true))[hA.length]? = some (.row [.int .i64 m.pl, .int .i64 m.cl, .slice p0 q0 r0, .slice a61 n61 c61, .slice p1 q1 r1, .slice p2 q2 r2, .slice p3 q3 r3, .slice p4 q4 r4] true) := get_set _ (lt_of_get g48) _
      have x49 : ExF F h46 (h48.set hA.length (.row (([.int .i64 m.pl, .int .i64 m.cl, .slice p0 q0 r0, .slice a61 n61 c61, .slice p1 q1 r1, .slice p2 q2 r2, .slice p3 q3 r3, vv 4] : List Value).set (0 + 7) (.slice p4 q4 r4)) true)) := x48.set rfl _
      generalize h48.set hA.length (.row (([.int .i64 m.pl, .int .i64 m.cl, .slice p0 q0 r0, .slice a61 n61 c61, .slice p1 q1 r1, .slice p2 q2 r2, .slice p3 q3 r3, vv 4] : List Value).set (0 + 7) (.slice p4 q4 r4)) true) = h49 at g49 x49 ⊢
      refine w_rdPA g49 (Nat.le_refl 8) ?_
      have x1449 : ExF F h14 h49 := (x1443.trans (.ex x4346)).trans x49
      have lR := lt_of_get gRA
      have gR49 : h49[h1.length]? = some (.row z8 true) := x1449.some (S.ex.some gRA) (by show ¬ h1.length = hA.length; omega)
      refine w_stPA gR49 rfl (Nat.le_refl 8) rfl ?_
      let u' : MoV := ⟨(p0, q0, r0), (a61, n61, c61), (p1, q1, r1), (p2, q2, r2), (p3, q3, r3), (p4, q4, r4)⟩
      have lR49 := lt_of_get gR49
      have gF50 : (h49.set h1.length (.row (spliceL z8 0 (cellsL (.agg ((List.drop 0 [Value.int .i64 m.pl, .int .i64 m.cl, .slice p0 q0 r0, .slice a61 n61 c61, .slice p1 q1 r1, .slice p2 q2 r2, .slice p3 q3 r3, .slice p4 q4 r4]).take 8).toArray))) true))[h1.length]? = some (.row (moRow u' (sm m c d f)) true) := get_set _ lR49 _
      rw [res18]
      refine w_some (v := [.agg (moRow u' (sm m c d f)).toArray, .int .i64 0]) ?_ ?_
      · show Option.map (fun v => [v, Value.int .i64 0]) (rdRow true 8 (e 2) _) = _
        rw [e2]
        have e := hopt (o := rdRow true 8 (.pointer (some ⟨h1.length, 0, none⟩)) _) (w_rdPA gF50 (Nat.le_refl 8) rfl)
        rw [e]
        rfl
      · -- all that was told stays
        have kR : ∀ (h0 : AH) (j : Nat), ExF F h0 h49 → h14.length ≤ h0.length → hA.length < j → j < h0.length → (h49.set h1.length (.row (spliceL z8 0 (cellsL (.agg ((List.drop 0 [Value.int .i64 m.pl, .int .i64 m.cl, .slice p0 q0 r0, .slice a61 n61 c61, .slice p1 q1 r1, .slice p2 q2 r2, .slice p3 q3 r3, .slice p4 q4 r4]).take 8).toArray))) true))[j]? = h0[j]? := fun h0 j y l0 h1' h2' => (get_ne (by omega) _).trans (y.get j h2' fun e => by have : j = hA.length := e; omega)
        have y40 : ExF F h40 h49 := (((ExF.ex x41).trans x43).trans (.ex x4346)).trans x49
        have y41 : ExF F h41 h49 := (x43.trans (.ex x4346)).trans x49
        have y44 : ExF F h44 h49 := (ExF.ex (x45.trans x46)).trans x49
        have y45 : ExF F h45 h49 := (ExF.ex x46).trans x49
        have l1443 := x1443.len
        have l1444 := x1444.len
        have l1445 := x1445.len
        have l1441 := x1441.len
        have l1440 := x40.len
        have l46' := x46.len
        have o0 := i159.keepOn fun j hj => kR h40 j y40 l1440 (by have := (on159 j hj).1; omega) (on159 j hj).2
        have o1 := i162.keepOn fun j hj => kR h41 j y41 l1441 (by have := (on162 j hj).1; omega) (on162 j hj).2
        have o2 := i167.keepOn fun j hj => kR h44 j y44 l1444 (by have := (on167 j hj).1; omega) (on167 j hj).2
        have o3 := i170.keepOn fun j hj => kR h45 j y45 l1445 (by have := (on170 j hj).1; omega) (on170 j hj).2
        have o4 := i173.keepOn fun j hj => kR h46 j x49 (by omega) (by have := (on173 j hj).1; omega) (on173 j hj).2
        have kZ : ∀ j, Z j → (h49.set h1.length (.row (spliceL z8 0 (cellsL (.agg ((List.drop 0 [Value.int .i64 m.pl, .int .i64 m.cl, .slice p0 q0 r0, .slice a61 n61 c61, .slice p1 q1 r1, .slice p2 q2 r2, .slice p3 q3 r3, .slice p4 q4 r4]).take 8).toArray))) true))[j]? = h14[j]? := fun j hj => kR h14 j x1449 (Nat.le_refl _) (S.s.z j hj).1 (S.s.z j hj).2.1
        have c2' := S.c2.to (fun _ h => h) kZ
        have c3' := S.c3.to (fun _ h => h) kZ
        have c4' := S.c4.to (fun _ h => h) kZ
        have en' := Sl.keepOn S.en fun j hj => kZ j (S.ez j hj)
        have ll : ∀ {α : Type} (g : Nat → α), ((List.range d).map g).length = d := fun g => by simp
        have x050 : Ex h (h49.set h1.length (.row (spliceL z8 0 (cellsL (.agg ((List.drop 0 [Value.int .i64 m.pl, .int .i64 m.cl, .slice p0 q0 r0, .slice a61 n61 c61, .slice p1 q1 r1, .slice p2 q2 r2, .slice p3 q3 r3, .slice p4 q4 r4]).take 8).toArray))) true)) := (ExF.base (x0A.trans S.ex) x1449 fun j hj => by have : j = hA.length := hj; have := x0A.len; omega).set (by omega) _
        rw [S.c0] at o0
        rw [S.c1] at o1
        refine k _ u' c d f x050 Ca (fun d' hd' => (hf d' hd').2) ⟨?_, en', ?_, ?_, ?_, ?_, ?_, ?_, ?_, ?_, ?_⟩
        · show Sl 1 _ (.slice p0 q0 r0) (smOf m f d).length _
          rw [show (smOf m f d).length = d from ll _]
          exact o0
        · show Sl 1 _ (.slice p1 q1 r1) (smFi m f d).length _
          rw [show (smFi m f d).length = d from ll _]
          exact o1
        · exact c2'.rows (by rw [show (smIn m c f d).length = d from ll _]; exact o2)
        · exact c3'.rows (by rw [show (smLow m c f d).length = d from ll _]; exact o3)
        · exact c4'.rets (by rw [show (smRet m c d f d).length = d from ll _]; exact o4)
        · show (smOf m f d).length ≤ 1000
          rw [show (smOf m f d).length = d from ll _]; omega
        · show (m.En.map (cOf c)).length ≤ 1000
          rw [List.length_map]
          have := v.enEl.1; omega
        · intro l hl
          obtain ⟨e', he, rfl⟩ := List.mem_map.1 hl
          rw [List.length_map]
          have := hf e' (List.mem_range.1 he)
          obtain ⟨li, hli⟩ := getElem?_of_lt (l := m.In) (i := f e') (by have h1 := v.li; show f e' < m.In.length; rw [h1]; exact this.2.2)
          rw [getD_of hli]
          have := (v.inEl this.2.2 hli).1; omega
        · intro l hl
          obtain ⟨e', he, rfl⟩ := List.mem_map.1 hl
          rw [List.length_map]
          have := hf e' (List.mem_range.1 he)
          obtain ⟨li, hli⟩ := getElem?_of_lt (l := m.Low) (i := f e') (by have h1 := v.ll; show f e' < m.Low.length; rw [h1]; exact this.2.2)
          rw [getD_of hli]
          have := (v.lowEl this.2.2 hli).1; omega
        · intro r hr
          obtain ⟨e', he, rfl⟩ := List.mem_map.1 hr
          have := hf e' (List.mem_range.1 he)
          obtain ⟨li, hli⟩ := getElem?_of_lt (l := m.Ret) (i := f e') (by have h1 := v.lr; show f e' < m.Ret.length; rw [h1]; exact this.2.2)
          rw [getD_of hli, List.length_map]
          refine ⟨by have := (v.retEl this.2.2 hli).1; omega, fun l hl => ?_⟩
          obtain ⟨l', _, rfl⟩ := List.mem_map.1 hl
          rw [show (smRow c f l' d).length = d from ll _]; omega
end Go.Proofs.Ytnpbehfhncbjfaa.W
end

section
/- Fold's laws: the small machine, plain: it may be, it is the machine of the classes, small again it is itself. Conditions: none. -/
namespace Go.Proofs.Ytnpbehfhncbjfaa.W
open Go Go.AM FoldPM
set_option linter.unusedVariables false
set_option maxRecDepth 100000

/-- what may be, of lists so long. -/
theorem Valid.of_shape {m : Mo} (ok : m.pm.OK) (pl : 0 ≤ m.pl ∧ m.pl < 21) (cl : 0 ≤ m.cl ∧ m.cl < 21) (n2 : m.Of.length ≤ 60) (k2 : m.En.length ≤ 21) (lf : m.Fi.length = m.Of.length) (li : m.In.length = m.Of.length) (ll : m.Low.length = m.Of.length) (lr : m.Ret.length = m.Of.length)
    (en0 : ∀ x ∈ m.En, 0 ≤ x) (hin : ∀ (p : Nat) (l : List Int), m.In[p]? = some l → l.length = m.pm.pl ∧ ∀ x ∈ l, 0 ≤ x)
    (hlow : ∀ (p : Nat) (l : List Int), m.Low[p]? = some l → (m.pm.of p = 0 → l.length = m.pm.cl) ∧ (m.pm.of p ≠ 0 → l.length = 0) ∧ ∀ x ∈ l, 0 ≤ x)
    (hret : ∀ (p : Nat) (r : List (List Int)), m.Ret[p]? = some r → (m.pm.of p = 0 → r.length = 0) ∧ (m.pm.of p ≠ 0 → r.length = m.pm.cl) ∧ ∀ l ∈ r, l.length = m.pm.n ∧ ∀ x ∈ l, 0 ≤ x) : Valid m := by
  have hpl : ((m.pm.pl : Nat) : Int) = m.pl := Int.toNat_of_nonneg pl.1
  have hcl : ((m.pm.cl : Nat) : Int) = m.cl := Int.toNat_of_nonneg cl.1
  have ofAt : ∀ {p : Nat} {x : Int}, m.Of[p]? = some x → m.pm.of p = x := fun h => getD_of h
  have ofN : ∀ {p : Nat}, p < m.Of.length → m.Of[p]? = some (m.pm.of p) := fun {p} hp => by
    obtain ⟨x, hx⟩ := getElem?_of_lt hp
    rw [ofAt hx, hx]
  have mem : ∀ {x : Int} {q : Nat} {c : Int}, 0 ≤ x → q = x.toNat → q < m.pm.n → m.pm.of q = c → Mem m.Of m.Of.length c x := fun {x q c} h0 hq hn hc => by
    subst hq
    have hn' : x.toNat < m.Of.length := hn
    exact ⟨h0, by omega, by rw [ofN hn', hc]⟩
  refine ⟨pl, cl, by have h1 := ok.n1; have : 1 ≤ m.Of.length := h1; omega, by omega, by have h1 := ok.k1; have : 1 ≤ m.En.length := h1; omega, by omega, fun k x hx => ?_, fun k x hx => ?_, lf, li, ll, lr, fun p hp => ⟨fun c l hc hl => ?_, fun c lo re hc hlo hre => ?_⟩⟩
  · have := ok.of k (List.getElem?_eq_some_iff.1 hx).1
    rw [ofAt hx] at this
    exact this
  · have h1 := ok.en k (List.getElem?_eq_some_iff.1 hx).1
    have e : m.pm.en k = x.toNat := by show (m.En.getD k 0).toNat = _; rw [getD_of hx]
    exact mem (en0 x (List.mem_of_getElem? hx)) e h1.1 h1.2
  · have h1 := hin p l hl
    refine ⟨by rw [h1.1]; exact hpl, fun i x hx => ?_⟩
    have hi : i < m.pm.pl := by have := (List.getElem?_eq_some_iff.1 hx).1; omega
    have h2 := ok.inn p i hp hi
    have e : m.pm.inn p i = x.toNat := by show ((m.In.getD p []).getD i 0).toNat = _; rw [getD_of hl, getD_of hx]
    exact mem (h1.2 x (List.mem_of_getElem? hx)) e h2.1 (h2.2.trans (ofAt hc))
  · have h1 := hlow p lo hlo
    have h2 := hret p re hre
    rw [ofAt hc] at h1 h2
    refine ⟨fun c0 => ⟨h2.1 c0, by rw [h1.1 c0]; exact hcl, fun i x hx => ?_⟩, fun c0 => ⟨h1.2.1 c0, by rw [h2.2.1 c0]; exact hcl, fun j l hl => ⟨(h2.2.2 l (List.mem_of_getElem? hl)).1, fun i x hx => ?_⟩⟩⟩
    · have hi : i < m.pm.cl := by have := (List.getElem?_eq_some_iff.1 hx).1; have := h1.1 c0; omega
      have h3 := ok.low p i hp ((ofAt hc).trans c0) hi
      have e : m.pm.low p i = x.toNat := by show ((m.Low.getD p []).getD i 0).toNat = _; rw [getD_of hlo, getD_of hx]
      exact mem (h1.2.2 x (List.mem_of_getElem? hx)) e h3.1 h3.2
    · have hj : j < m.pm.cl := by have := (List.getElem?_eq_some_iff.1 hl).1; have := h2.2.1 c0; omega
      have h4 := h2.2.2 l (List.mem_of_getElem? hl)
      have hi : i < m.pm.n := by have := (List.getElem?_eq_some_iff.1 hx).1; omega
      have h3 := ok.ret p j i hp hi (by rw [ofAt hc]; exact c0) hj
      have e : m.pm.ret p j i = x.toNat := by show (((m.Ret.getD p []).getD j []).getD i 0).toNat = _; rw [getD_of hre, getD_of hl, getD_of hx]
      exact ⟨m.pm.of i, ofN hi, mem (h4.2 x (List.mem_of_getElem? hx)) e h3.1 h3.2⟩

section
variable {m : Mo} {c : List Int} {cnt : Nat} {f : Nat → Nat}

def cN (c : List Int) (p : Nat) : Nat := (c.getD p 0).toNat

theorem range_getD {α : Type} {g : Nat → α} {n e : Nat} {d : α} (h : e < n) : ((List.range n).map g).getD e d = g e := getD_of (by simp [h])

theorem map_getD {α : Type} {l : List Int} {g : Int → α} {i : Nat} {x : Int} {d : α} (h : l[i]? = some x) : (l.map g).getD i d = g x := getD_of (by rw [List.getElem?_map, h]; rfl)

theorem sm_quot (v : Valid m) (Ca : Canon m.pm.n (Rch m.pm) (EE m.pm) c cnt) (hf : ∀ d, d < cnt → Fst c d (f d) ∧ f d < m.pm.n) : Quot m.pm (sm m c cnt f).pm (cN c) := by
  have ok := v.ok
  have nN : (sm m c cnt f).pm.n = cnt := by show (smOf m f cnt).length = cnt; unfold smOf; simp
  have at_ : ∀ p, Rch m.pm p → c[p]? = some ((cN c p : Nat) : Int) ∧ cN c p < cnt := fun p hp => by
    obtain ⟨d, hd, hx⟩ := Ca.re p (hp.lt ok) hp
    have : cN c p = d := by unfold cN; rw [getD_some hx]; rfl
    rw [this]
    exact ⟨hx, hd⟩
  have rf : ∀ d, d < cnt → Rch m.pm (f d) := fun d hd => Ca.reached (hf d hd).2 (hf d hd).1.1
  have ee : ∀ p, Rch m.pm p → EE m.pm (f (cN c p)) p := fun p hp => by
    have h1 := at_ p hp
    exact (Ca.eq _ p (hf _ h1.2).2 (hp.lt ok) (rf _ h1.2) hp).1 ((hf _ h1.2).1.1.trans h1.1.symm)
  have cc : ∀ p q, Rch m.pm p → Rch m.pm q → (cN c p = cN c q ↔ EE m.pm p q) := fun p q hp hq => by
    rw [← Ca.eq p q (hp.lt ok) (hq.lt ok) hp hq, (at_ p hp).1, (at_ q hq).1]
    constructor
    · intro h; rw [h]
    · intro h; injection h with h; omega
  have cNI : ∀ {x : Int} {p : Nat}, x = ((p : Nat) : Int) → (cOf c x).toNat = cN c p := fun h => by subst h; rfl
  refine ⟨by show (m.En.map (cOf c)).length = m.En.length; rw [List.length_map], rfl, rfl, fun d hd => ?_, fun p hp => by rw [nN]; exact (at_ p hp).2, cc, fun p hp => ?_, fun p hp => ?_, fun i hi => ?_, fun p i hp hi => ?_, fun p j hp h0 hj => ?_, fun p j x hp hx h0 hj => ?_⟩
  · rw [nN] at hd
    have h1 := hf d hd
    exact ⟨f d, rf d hd, by unfold cN; rw [getD_some h1.1.1]; rfl⟩
  · have h1 := (at_ p hp).2
    show (smOf m f cnt).getD (cN c p) 0 = _
    unfold smOf
    rw [range_getD h1]
    exact (ee p hp).of
  · have h1 := (at_ p hp).2
    show (smFi m f cnt).getD (cN c p) false = _
    unfold smFi
    rw [range_getD h1]
    exact (ee p hp).fi
  · have h1 := (v.enAt hi).1
    show ((m.En.map (cOf c)).getD i 0).toNat = _
    rw [map_getD h1]
    exact cNI rfl
  · have h1 := (at_ p hp).2
    obtain ⟨l, hl, _, h2⟩ := v.inAt (hf _ h1).2
    show (((smIn m c f cnt).getD (cN c p) []).getD i 0).toNat = _
    unfold smIn
    rw [range_getD h1, getD_of hl, map_getD (h2 i hi).1, cNI rfl]
    exact (cc _ _ (.inn (rf _ h1) hi) (.inn hp hi)).2 ((ee p hp).inn hi)
  · have h1 := (at_ p hp).2
    have h0' : m.pm.of (f (cN c p)) = 0 := (ee p hp).of.trans h0
    obtain ⟨l, hl, _, h2⟩ := v.lowAt (hf _ h1).2
    show (((smLow m c f cnt).getD (cN c p) []).getD j 0).toNat = _
    unfold smLow
    rw [range_getD h1, getD_of hl, map_getD ((h2 h0').2 j hj).1, cNI rfl]
    exact (cc _ _ (.low (rf _ h1) h0' hj) (.low hp h0 hj)).2 ((ee p hp).low h0' hj)
  · have h1 := (at_ p hp).2
    have h3 := (at_ x hx).2
    have h0' : m.pm.of (f (cN c p)) ≠ 0 := by rw [(ee p hp).of]; exact h0
    obtain ⟨r, hr, _, h2⟩ := v.retAt (hf _ h1).2
    obtain ⟨l, hl, _, h4⟩ := (h2 h0').2 j hj
    show ((((smRet m c cnt f cnt).getD (cN c p) []).getD j []).getD (cN c x) 0).toNat = _
    unfold smRet
    rw [range_getD h1, getD_of hr]
    have e : (r.map fun l => smRow c f l cnt).getD j [] = smRow c f l cnt := getD_of (by rw [List.getElem?_map, hl]; rfl)
    rw [e]
    unfold smRow
    rw [range_getD h3, getD_of (h4 _ (hf _ h3).2).1, cNI rfl]
    exact (cc _ _ (.ret (rf _ h1) (rf _ h3) h0' hj) (.ret hp hx h0 hj)).2 ((ee p hp).ret (ee x hx) h0' hj (rf _ h3) hp)

theorem sm_valid (v : Valid m) (Ca : Canon m.pm.n (Rch m.pm) (EE m.pm) c cnt) (hf : ∀ d, d < cnt → Fst c d (f d) ∧ f d < m.pm.n) : Valid (sm m c cnt f) := by
  have ok := v.ok
  have Q := sm_quot v Ca hf
  have okN := Q.ok ok
  have lO : (sm m c cnt f).Of.length = cnt := by show (smOf m f cnt).length = cnt; unfold smOf; simp
  have cn := Ca.le
  have n2 := v.n2
  have hnn : m.pm.n = m.Of.length := rfl
  have rf : ∀ d, d < cnt → Rch m.pm (f d) := fun d hd => Ca.reached (hf d hd).2 (hf d hd).1.1
  have nn : ∀ p, Rch m.pm p → ∀ {x : Int}, x = ((p : Nat) : Int) → 0 ≤ cOf c x := fun p hp x hx => by
    subst hx
    obtain ⟨d, _, h⟩ := Ca.re p (hp.lt ok) hp
    unfold cOf
    rw [show (((p : Nat) : Int)).toNat = p from rfl, getD_some h]
    omega
  have ofS : ∀ p, p < cnt → (sm m c cnt f).pm.of p = m.pm.of (f p) := fun p hp => by
    show (smOf m f cnt).getD p 0 = _
    unfold smOf
    rw [range_getD hp]
    rfl
  refine Valid.of_shape okN v.pl v.cl (by omega) (by show (m.En.map (cOf c)).length ≤ 21; rw [List.length_map]; have := v.k2; omega) ?_ ?_ ?_ ?_ (fun x hx => ?_) (fun p l hl => ?_) (fun p l hl => ?_) (fun p r hr => ?_)
  · rw [lO]; show (smFi m f cnt).length = cnt; unfold smFi; simp
  · rw [lO]; show (smIn m c f cnt).length = cnt; unfold smIn; simp
  · rw [lO]; show (smLow m c f cnt).length = cnt; unfold smLow; simp
  · rw [lO]; show (smRet m c cnt f cnt).length = cnt; unfold smRet; simp
  · obtain ⟨y, hy, rfl⟩ := List.mem_map.1 hx
    obtain ⟨i, hi⟩ := List.getElem?_of_mem hy
    have hik := (List.getElem?_eq_some_iff.1 hi).1
    have h1 := (v.enAt (c := i) hik).1
    rw [hi] at h1
    injection h1 with h1
    exact nn _ (.en hik) h1
  · have hl' : (smIn m c f cnt)[p]? = some l := hl
    unfold smIn at hl'
    have hp : p < cnt := by have := (List.getElem?_eq_some_iff.1 hl').1; simpa using this
    obtain ⟨li, hli, len, h2⟩ := v.inAt (hf p hp).2
    have e : l = li.map (cOf c) := by
      rw [List.getElem?_map, List.getElem?_range hp] at hl'
      injection hl' with hl'
      rw [← hl']; dsimp only; rw [getD_of hli]
    subst e
    refine ⟨by rw [List.length_map, len]; rfl, fun x hx => ?_⟩
    obtain ⟨y, hy, rfl⟩ := List.mem_map.1 hx
    obtain ⟨i, hi⟩ := List.getElem?_of_mem hy
    have hik := (List.getElem?_eq_some_iff.1 hi).1
    have h3 := (h2 i (by omega)).1
    rw [hi] at h3
    injection h3 with h3
    exact nn _ (.inn (rf p hp) (by omega)) h3
  · have hl' : (smLow m c f cnt)[p]? = some l := hl
    unfold smLow at hl'
    have hp : p < cnt := by have := (List.getElem?_eq_some_iff.1 hl').1; simpa using this
    obtain ⟨li, hli, z1, z2⟩ := v.lowAt (hf p hp).2
    have e : l = li.map (cOf c) := by
      rw [List.getElem?_map, List.getElem?_range hp] at hl'
      injection hl' with hl'
      rw [← hl']; dsimp only; rw [getD_of hli]
    subst e
    rw [ofS p hp]
    refine ⟨fun h0 => by rw [List.length_map, (z2 h0).1]; rfl, fun h0 => by rw [z1 h0]; rfl, fun x hx => ?_⟩
    obtain ⟨y, hy, rfl⟩ := List.mem_map.1 hx
    obtain ⟨i, hi⟩ := List.getElem?_of_mem hy
    have hik := (List.getElem?_eq_some_iff.1 hi).1
    by_cases h0 : m.pm.of (f p) = 0
    · have h3 := ((z2 h0).2 i (by have := (z2 h0).1; omega)).1
      rw [hi] at h3
      injection h3 with h3
      exact nn _ (.low (rf p hp) h0 (by have := (z2 h0).1; omega)) h3
    · rw [z1 h0] at hik; simp at hik
  · have hr' : (smRet m c cnt f cnt)[p]? = some r := hr
    unfold smRet at hr'
    have hp : p < cnt := by have := (List.getElem?_eq_some_iff.1 hr').1; simpa using this
    obtain ⟨re, hre, z1, z2⟩ := v.retAt (hf p hp).2
    have e : r = re.map fun l => smRow c f l cnt := by
      rw [List.getElem?_map, List.getElem?_range hp] at hr'
      injection hr' with hr'
      rw [← hr']; dsimp only; rw [getD_of hre]
    subst e
    rw [ofS p hp]
    refine ⟨fun h0 => by rw [z1 h0]; rfl, fun h0 => by rw [List.length_map, (z2 h0).1]; rfl, fun l hl => ?_⟩
    obtain ⟨lr, hlr, rfl⟩ := List.mem_map.1 hl
    refine ⟨by show (smRow c f lr cnt).length = _; rw [show (sm m c cnt f).pm.n = cnt from lO]; unfold smRow; simp, fun x hx => ?_⟩
    unfold smRow at hx
    obtain ⟨e, he, rfl⟩ := List.mem_map.1 hx
    have he' := List.mem_range.1 he
    obtain ⟨j, hj⟩ := List.getElem?_of_mem hlr
    have hjl := (List.getElem?_eq_some_iff.1 hj).1
    by_cases h0 : m.pm.of (f p) = 0
    · rw [z1 h0] at hjl; simp at hjl
    · have hjc : j < m.pm.cl := by have := (z2 h0).1; omega
      obtain ⟨l', hl', _, h4⟩ := (z2 h0).2 j hjc
      rw [hj] at hl'
      cases hl'
      rw [getD_of (h4 _ (hf e he').2).1]
      exact nn _ (.ret (rf p hp) (rf e he') h0 hjc) rfl

theorem map_id_on {l : List Int} {g : Int → Int} (h : ∀ x ∈ l, g x = x) : l.map g = l := by
  conv => rhs; rw [← List.map_id l]
  exact List.map_congr_left fun x hx => h x hx
theorem range_back {α : Type} {l : List α} {n : Nat} {g : Nat → α} (hl : l.length = n) (h : ∀ (e : Nat) (x : α), l[e]? = some x → g e = x) : (List.range n).map g = l := by
  apply List.ext_getElem?
  intro e
  rw [List.getElem?_map]
  by_cases he : e < n
  · obtain ⟨x, hx⟩ := getElem?_of_lt (l := l) (i := e) (by omega)
    rw [List.getElem?_range he, hx]
    show some (g e) = _
    rw [h e x hx]
  · rw [List.getElem?_eq_none (by simpa using he), List.getElem?_eq_none (by omega)]
    rfl

/-- small again it is itself. -/
theorem sm_self (v : Valid m) (hc : c = (List.range m.pm.n).map fun (d : Nat) => (d : Int)) (hf : ∀ d, d < m.pm.n → f d = d) : sm m c m.pm.n f = m := by
  have hnn : m.pm.n = m.Of.length := rfl
  have cid : ∀ x : Int, 0 ≤ x → x.toNat < m.pm.n → cOf c x = x := fun x h0 h1 => by
    unfold cOf
    rw [hc, range_getD h1]
    omega
  have lf := v.lf
  have li := v.li
  have ll := v.ll
  have lr := v.lr
  have e1 : smOf m f m.pm.n = m.Of := range_back rfl fun e x hx => by
    have he := (List.getElem?_eq_some_iff.1 hx).1
    rw [hf e he, getD_of hx]
  have e2 : smFi m f m.pm.n = m.Fi := range_back lf fun e x hx => by
    have he := (List.getElem?_eq_some_iff.1 hx).1
    rw [hf e (by omega), getD_of hx]
  have e3 : m.En.map (cOf c) = m.En := map_id_on fun x hx => cid x (v.enEl.2 x hx).1 (v.enEl.2 x hx).2
  have e4 : smIn m c f m.pm.n = m.In := range_back li fun e x hx => by
    have he := (List.getElem?_eq_some_iff.1 hx).1
    rw [hf e (by omega), getD_of hx]
    exact map_id_on fun y hy => cid y ((v.inEl (by omega) hx).2 y hy).1 ((v.inEl (by omega) hx).2 y hy).2
  have e5 : smLow m c f m.pm.n = m.Low := range_back ll fun e x hx => by
    have he := (List.getElem?_eq_some_iff.1 hx).1
    rw [hf e (by omega), getD_of hx]
    exact map_id_on fun y hy => cid y ((v.lowEl (by omega) hx).2 y hy).1 ((v.lowEl (by omega) hx).2 y hy).2
  have e6 : smRet m c m.pm.n f m.pm.n = m.Ret := range_back lr fun e x hx => by
    have he := (List.getElem?_eq_some_iff.1 hx).1
    rw [hf e (by omega), getD_of hx]
    have h2 := (v.retEl (by omega) hx).2
    conv => rhs; rw [← List.map_id x]
    refine List.map_congr_left fun l hl => ?_
    have h3 := h2 l hl
    show smRow c f l m.pm.n = l
    exact range_back h3.1 fun e' y hy => by
      have he' := (List.getElem?_eq_some_iff.1 hy).1
      rw [hf e' (by omega), getD_of hy]
      have := h3.2 y (List.mem_of_getElem? hy)
      exact cid y this.1 this.2
  unfold sm
  rw [e1, e2, e3, e4, e5, e6]
end
end Go.Proofs.Ytnpbehfhncbjfaa.W
end

section
/- FoldReaches' walk. Conditions: none. -/
namespace Go.Proofs.Ytnpbehfhncbjfaa.W
open Go Go.AM FoldPM
set_option linter.unusedVariables false
set_option maxRecDepth 100000

theorem bo0 (a b : Bool) : pBin Try.prog .neq 4 (.bool a) (.bool b) = some (.bool (!(a == b))) ∧ pBin Try.prog .eql 4 (.bool a) (.bool b) = some (.bool (a == b)) := ⟨by kernel_rfl, by kernel_rfl⟩
theorem w_neqBo {a b : Bool} {K : Value → Prop} (k : K (.bool (!(a == b)))) : optW (pBin Try.prog .neq 4 (.bool a) (.bool b)) K := w_some (bo0 a b).1 k
theorem w_eqlBo {a b : Bool} {K : Value → Prop} (k : K (.bool (a == b))) : optW (pBin Try.prog .eql 4 (.bool a) (.bool b)) K := w_some (bo0 a b).2 k

/-- how a law begins. -/
theorem lawStart {h : AH} {a0 : Int} {v1 : Value} {ns : List Int} {A : Value → AH → Prop} {Q : Value → Value → Value → Value → AH → Prop} (hns : Ints h v1 ns) (hm : h.length = 1 ∨ h.length = 2 ∨ h.length = 3)
    (k : ∀ h4 b o u m bx, Ex h h4 → MoO h4 b o u m → h.length ≤ b → Valid m → h4[bx]? = some (.row (moRow u m) true) → h.length ≤ bx → o bx = .no → Q (.bool true) (.bool false) (.agg (moRow u m).toArray) (.pointer (some ⟨bx, 0, none⟩)) h4) :
    callW Try.prog 13 [] h fun v10 h_1 => optW (pUn .not v10) fun v11 => condW v11 (A v10 h_1) (callW Try.prog 14 [.int .i64 a0, v1] h_1 fun v14 h_2 =>
      newR none [(.int .i64 0), (.int .i64 0), (.slice none 0 0), (.slice none 0 0), (.slice none 0 0), (.slice none 0 0), (.slice none 0 0), (.slice none 0 0)] h_2 fun v7 h_3 => optW (pStore 8 v7 v14 h_3) fun h_4 => Q v10 v11 v14 v7 h_4) := by
  refine known13 hm fun h1 x1 => w_notb (c_f ?_)
  refine make14o (Sl.ex hns x1) fun h2 u m o x2 mo v => ?_
  refine n_rowv fun h3 x3 l3 g3 => stM g3 rfl ?_
  have lt3 := lt_of_get g3
  have x4 : Ex h2 (h3.set h2.length (.row (moRow u m) true)) := x3.set (Nat.le_refl _) _
  have l4 : (h3.set h2.length (.row (moRow u m) true)).length = h2.length + 1 := by rw [List.length_set]; exact l3
  refine k _ h1.length o u m h2.length ((x1.trans x2).trans x4) (mo.keep (by omega) fun j hj => x4.get j (mo.on j hj).2) x1.len v (get_set _ lt3 _) (by have := x1.len; have := x2.len; omega) ?_
  by_cases e : o h2.length = .no
  · exact e
  · have := (mo.on _ e).2
    omega

/-- a copy: an empty one, then all behind it. -/
theorem cloneApp {s : Nat} {h : AH} {i n : Nat} {v : Value} {cs : List Value} {K : Value → AH → Prop} (hs : 0 < s) (g : h[i]? = some (.row [] true)) (hv : Sl s h v n cs) (n0 : 0 < n) (hn : n < room40)
    (k : K (.slice (some ⟨h.length, 0, none⟩) n (openCap + s)) (h ++ [.row cs true])) : appSl s (.slice (some ⟨i, 0, none⟩) 0 0) v h K := by
  refine appSl_sl hv (.inl ?_)
  have hsrc := srcL_sl hs hv
  have : pAppS s (.slice (some ⟨i, 0, none⟩) 0 0) v h = some (.slice (some ⟨h.length, 0, none⟩) (0 + n) (openCap + s), h ++ [AObj.row ([] ++ cs) true]) := by
    unfold pAppS
    simp only [hsrc]
    rw [if_pos (by omega), if_pos (by decide)]
    simp only [pAppEx]
    rw [if_neg (by omega), Nat.zero_mul]
    simp [firstL]
  rw [this, Nat.zero_add, List.nil_append]
  exact k

theorem ownNew {s n : Nat} {h : AH} {cs : List Value} (hl : cs.length = n * s) : OwnG s (fun j => j = h.length) (h ++ [.row cs true]) (.slice (some ⟨h.length, 0, none⟩) n (openCap + s)) n cs :=
  ⟨hl, .inr ⟨h.length, cs, rfl, rfl, get_new _ _, by omega, by rw [← hl, List.take_length]⟩⟩

end Go.Proofs.Ytnpbehfhncbjfaa.W
end

section
/- Fold's laws: two machines are told the same; FoldSmall's walk. Conditions: none. -/
namespace Go.Proofs.Ytnpbehfhncbjfaa.W
open Go Go.AM FoldPM
set_option linter.unusedVariables false
set_option maxRecDepth 100000

theorem ints23 {h : AH} {v w : Value} {l : List Int} {K : Value → AH → Prop} (hv : Ints h v l) (hw : Ints h w l) (sz : l.length ≤ 100000) (k : K (.bool true) h) : callW Try.prog 23 [v, w] h K := by
  refine c23 ?_
  unfold s23
  refine w_len hv (w_len hw (w_neq (c_ff (by omega) ?_)))
  refine loopE_intro (fun mm e h' => ∃ i : Nat, i ≤ l.length ∧ mm = l.length - i ∧ e 0 = v ∧ e 1 = w ∧ e 5 = .int .i64 (i : Nat) ∧ h = h') l.length
    ⟨0, Nat.zero_le _, rfl, rfl, rfl, rfl, rfl⟩ ?_
  rintro I mm e h' ⟨i, hi, hmm, e0, e1, e5, rfl⟩ ih
  rw [e0, e1, e5]
  refine w_len hv (w_lss (c_dec (fun q => ?_) (fun q => k)))
  obtain ⟨x, hx⟩ := getElem?_of_lt (l := l) (i := i) (by omega)
  refine w_idxN eI_len hv hx fun z hz => w_rd1 hz rfl (w_idxN eI_len hw hx fun z hz => w_rd1 hz rfl (w_neq (c_ff (by omega) (w_add (by omega) (by omega) ?_))))
  exact ih (l.length - (i + 1)) _ _ (by omega) ⟨i + 1, by omega, rfl, e0, e1, rfl, rfl⟩

theorem rows47 {h : AH} {v w : Value} {l : List (List Int)} {K : Value → AH → Prop} (hv : RowsR h v l) (hw : RowsR h w l) (sz : l.length ≤ 1000) (szl : ∀ r ∈ l, r.length ≤ 1000) (k : K (.bool true) h) : callW Try.prog 47 [v, w] h K := by
  obtain ⟨vs, sv', rv⟩ := hv
  obtain ⟨ws, sw, rw_⟩ := hw
  refine c47 ?_
  unfold s47
  refine w_len sv' (w_len sw (w_neq (c_ff (by omega) ?_)))
  refine loopE_intro (fun mm e h' => ∃ i : Nat, i ≤ l.length ∧ mm = l.length - i ∧ e 0 = v ∧ e 1 = w ∧ e 5 = .int .i64 (i : Nat) ∧ h = h') l.length
    ⟨0, Nat.zero_le _, rfl, rfl, rfl, rfl, rfl⟩ ?_
  rintro I mm e h' ⟨i, hi, hmm, e0, e1, e5, rfl⟩ ih
  rw [e0, e1, e5]
  refine w_len sv' (w_lss (c_dec (fun q => ?_) (fun q => k)))
  obtain ⟨r, hr⟩ := getElem?_of_lt (l := l) (i := i) (by omega)
  obtain ⟨a, ha, ia⟩ := rv i r hr
  obtain ⟨b, hb, ib⟩ := rw_ i r hr
  refine idxV sv' ha fun z hz => w_rd1 hz rfl (idxV sw hb fun z hz => w_rd1 hz rfl ?_)
  refine ints23 ia ib (by have := szl r (List.mem_of_getElem? hr); omega) (w_notb (c_f (w_add (by omega) (by omega) ?_)))
  exact ih (l.length - (i + 1)) _ _ (by omega) ⟨i + 1, by omega, rfl, e0, e1, rfl, rfl⟩

theorem same26 {h : AH} {u u' : MoV} {m : Mo} {K : Value → AH → Prop} (mh : MoH h u m) (mh' : MoH h u' m) (szI : m.In.length ≤ 1000) (szL : m.Low.length ≤ 1000) (szR : m.Ret.length ≤ 1000) (szF : m.Fi.length ≤ 1000) (k : ∀ h', Ex h h' → K (.bool true) h') : callW Try.prog 26 [.agg (moRow u m).toArray, .agg (moRow u' m).toArray] h K := by
  refine c26 ?_
  unfold s26
  refine n_boxv rfl fun h1 x1 l1 g1 => n_boxv rfl fun h2 x2 l2 g2 => ?_
  have ga : h2[h.length]? = some (.row (moRow u m) true) := x2.some g1
  have gb : h2[h1.length]? = some (.row (moRow u' m) true) := g2
  have x02 := x1.trans x2
  have ma := mh.ex x02
  have mb := mh'.ex x02
  obtain ⟨ra, sa, va⟩ := ma.ret
  obtain ⟨rb, sb, vb⟩ := mb.ret
  have nq : ∀ {a : Int}, ¬ ¬ a = a := fun h => h rfl
  refine w_offP (w_rdP ga (v := .int .i64 m.pl) rfl (w_offP (w_rdP gb (v := .int .i64 m.pl) rfl (w_neq ?_))))
  refine g_ff nq (w_offP (g_ff nq (w_rdP ga (v := .int .i64 m.cl) rfl (g_ff nq (w_offP (g_ff nq (w_rdP gb (v := .int .i64 m.cl) rfl (g_ff nq (w_neq (pk_ff nq ?_))))))))))
  refine g_ff nq (w_offP (g_ff nq (w_rdP ga (v := sv u.vo) rfl (g_ff nq (w_offP (g_ff nq (w_rdP gb (v := sv u'.vo) rfl (g_ff nq (ints23 ma.of mb.of (by have := ma.szO; omega) (g_ff nq (w_notb (pk_ff nq ?_))))))))))))
  refine gc_ff (w_offP (gc_ff (w_rdP ga (v := sv u.ve) rfl (gc_ff (w_offP (gc_ff (w_rdP gb (v := sv u'.ve) rfl (gc_ff (ints23 ma.en mb.en (by have := ma.szE; omega) (gc_ff (w_notb (pk_f ?_))))))))))))
  refine gc_ff (w_offP (gc_ff (w_rdP ga (v := sv u.vf) rfl (gc_ff (w_len ma.fi (gc_ff (w_offP (gc_ff (w_rdP gb (v := sv u'.vf) rfl (gc_ff (w_len mb.fi (gc_ff (w_neq (pk_f ?_))))))))))))))
  refine g_ff nq (w_offP (g_ff nq (w_rdP ga (v := sv u.vi) rfl (g_ff nq (w_offP (g_ff nq (w_rdP gb (v := sv u'.vi) rfl (g_ff nq (rows47 ma.inn mb.inn szI ma.szI (g_ff nq (w_notb (pk_ff nq ?_))))))))))))
  refine gc_ff (w_offP (gc_ff (w_rdP ga (v := sv u.vl) rfl (gc_ff (w_offP (gc_ff (w_rdP gb (v := sv u'.vl) rfl (gc_ff (rows47 ma.low mb.low szL ma.szL (gc_ff (w_notb (pk_f ?_))))))))))))
  refine gc_ff (w_offP (gc_ff (w_rdP ga (v := sv u.vr) rfl (gc_ff (w_len sa (gc_ff (w_offP (gc_ff (w_rdP gb (v := sv u'.vr) rfl (gc_ff (w_len sb (gc_ff (w_neq (pk_f (c_ff nq ?_)))))))))))))))
  refine loopE_intro (fun mm e h' => ∃ i : Nat, i ≤ m.Fi.length ∧ mm = m.Fi.length - i ∧ e 2 = .pointer (some ⟨h.length, 0, none⟩) ∧ e 3 = .pointer (some ⟨h1.length, 0, none⟩) ∧ e 5 = .int .i64 (i : Nat) ∧ h2 = h') m.Fi.length
    ⟨0, Nat.zero_le _, rfl, rfl, rfl, rfl, rfl⟩ ?_
  rintro I mm e h' ⟨i, hi, hmm, e2, e3, e5, rfl⟩ ih
  rw [e2, e3, e5]
  refine w_offP (w_rdP ga (v := sv u.vf) rfl (w_len ma.fi (w_lss (c_dec (fun q => ?_) (fun q => ?_)))))
  · obtain ⟨b, hb⟩ := getElem?_of_lt (l := m.Fi) (i := i) (by omega)
    refine w_offP (w_rdP ga (v := sv u.vf) rfl (w_idxN eBo_len ma.fi hb fun z hz => w_rd1 hz rfl (w_offP (w_rdP gb (v := sv u'.vf) rfl (w_idxN eBo_len mb.fi hb fun z hz => w_rd1 hz rfl (w_neqBo ?_))))))
    have e5 : (!(b == b)) = false := by simp
    rw [e5]
    refine c_f (w_add (by omega) (by omega) ?_)
    exact ih (m.Fi.length - (i + 1)) _ _ (by omega) ⟨i + 1, by omega, rfl, e2, e3, rfl, rfl⟩
  · clear ih
    refine loopE_intro (fun mm e h' => ∃ i : Nat, i ≤ m.Ret.length ∧ mm = m.Ret.length - i ∧ e 2 = .pointer (some ⟨h.length, 0, none⟩) ∧ e 3 = .pointer (some ⟨h1.length, 0, none⟩) ∧ e 6 = .int .i64 (i : Nat) ∧ h2 = h') m.Ret.length
      ⟨0, Nat.zero_le _, rfl, e2, e3, rfl, rfl⟩ ?_
    clear e2 e3 e5 hmm q hi
    clear e mm I i
    rintro I mm e h' ⟨i, hi, hmm, e2, e3, e6, rfl⟩ ih
    rw [e2, e3, e6]
    refine w_offP (w_rdP ga (v := sv u.vr) rfl (w_len sa (w_lss (c_dec (fun q => ?_) (fun q => k _ x02)))))
    obtain ⟨r, hr⟩ := getElem?_of_lt (l := m.Ret) (i := i) (by omega)
    obtain ⟨a, ha, ra'⟩ := va i r hr
    obtain ⟨b, hb, rb'⟩ := vb i r hr
    have sz := ma.szR r (List.mem_of_getElem? hr)
    refine w_offP (w_rdP ga (v := sv u.vr) rfl (idxV sa ha fun z hz => w_rd1 hz rfl (w_offP (w_rdP gb (v := sv u'.vr) rfl (idxV sb hb fun z hz => w_rd1 hz rfl ?_)))))
    refine rows47 ra' rb' sz.1 sz.2 (w_notb (c_f (w_add (by omega) (by omega) ?_)))
    exact ih (m.Ret.length - (i + 1)) _ _ (by omega) ⟨i + 1, by omega, rfl, e2, e3, rfl, rfl⟩

theorem small5 {h : AH} {a0 : Int} {v1 v2 : Value} {ns ws : List Int} (hns : Ints h v1 ns) (hws : Ints h v2 ws) (hm : h.length = 2) : callW Try.prog 5 [.int .i64 a0, v1, v2] h fun v _ => v = .bool true := by
  refine c5 ?_
  unfold s5
  refine lawStart hns (.inr (.inl hm)) fun h4 b0 o u m bx x4 mo hb0 v g4 hbx nob => ?_
  have mh := mo.toH fun _ _ => rfl
  have ok := v.ok
  have n2 := v.n2
  have hnn : m.pm.n = m.Of.length := rfl
  refine w_rdPA g4 (Nat.le_refl 8) ?_
  refine small18 mh v fun h5 us c cnt f x5 Ca hf ms => ?_
  have vs := sm_valid v Ca hf
  have Q := sm_quot v Ca hf
  have cn := Ca.le
  have lO : (sm m c cnt f).Of.length = cnt := by show (smOf m f cnt).length = cnt; unfold smOf; simp
  have lE : (sm m c cnt f).En.length = m.En.length := by show (m.En.map (cOf c)).length = _; rw [List.length_map]
  refine w_some (v := .agg (moRow us (sm m c cnt f)).toArray) rfl (w_some (v := .int .i64 0) rfl ?_)
  generalize hs : sm m c cnt f = s at *
  refine n_rowv fun h6 x6 l6 g6 => stM g6 rfl ?_
  have g7 : (h6.set h5.length (.row (moRow us s) true))[h5.length]? = some (.row (moRow us s) true) := get_set _ (lt_of_get g6) _
  have x7 : Ex h5 (h6.set h5.length (.row (moRow us s) true)) := x6.set (Nat.le_refl _) _
  generalize h6.set h5.length (.row (moRow us s) true) = h7 at g7 x7 ⊢
  have x47 := x5.trans x7
  have nq0 : ¬ ¬ (0 : Int) = 0 := fun h => h rfl
  refine w_neq (g_ff nq0 (w_rdPA g7 (Nat.le_refl 8) (g_ff nq0 (refcheck17 (ms.ex x7) (fun nv => absurd vs nv) fun _ h8 x8 => g_ff nq0 (w_neq (pk_ff nq0 ?_))))))
  have g8 := x8.some g7
  have x48 := x47.trans x8
  have gb8 := x48.some g4
  have ms8 := ms.ex (x7.trans x8)
  have mh8 := mh.ex x48
  refine g_ff nq0 (w_offP (g_ff nq0 (w_rdP g8 (v := sv us.vo) rfl (g_ff nq0 (w_len ms8.of (g_ff nq0 (w_offP (g_ff nq0 (w_rdP gb8 (v := sv u.vo) rfl (g_ff nq0 (w_len mh8.of (g_ff nq0 (w_gtr (pk_ff nq0 ?_))))))))))))))
  have q2 : ¬ ((m.Of.length : Nat) : Int) < (s.Of.length : Nat) := by omega
  refine g_ff q2 (w_offP (g_ff q2 (w_rdP g8 (v := sv us.ve) rfl (g_ff q2 (w_len ms8.en (g_ff q2 (w_offP (g_ff q2 (w_rdP gb8 (v := sv u.ve) rfl (g_ff q2 (w_len mh8.en (g_ff q2 (w_neq (pk_ff q2 (c_ff (by omega) ?_)))))))))))))))
  refine w_rdPA gb8 (Nat.le_refl 8) ?_
  refine word22 mh8 v (Sl.ex hws (x4.trans x48)) (by decide) fun vw h9 w x9 ow lw => ?_
  have g9 := x9.some g8
  have gb9 := x9.some gb8
  have ms9 := ms8.ex x9
  have mh9 := mh8.ex x9
  refine loopE_intro (fun mm e' h' => ∃ i : Nat, i ≤ w.length + 1 ∧ mm = w.length + 1 - i ∧ e' 7 = .pointer (some ⟨bx, 0, none⟩) ∧ e' 8 = .pointer (some ⟨h5.length, 0, none⟩) ∧ e' 10 = vw ∧ e' 11 = .int .i64 (i : Nat) ∧ Ex h9 h') (w.length + 1)
    ⟨0, Nat.zero_le _, rfl, rfl, rfl, rfl, rfl, Ex.refl _⟩ ?_
  rintro J mm e h13 ⟨i, hi, hmm, e7, e8, e10, e11, x13⟩ ih
  rw [e7, e8, e10, e11]
  have sw : Pairs h13 vw w := Sl.ex (OwnSl.sl ow) x13
  refine w_len sw (w_leq (c_dec (fun q => ?_) (fun q => ?_)))
  · refine w_rdPA (x13.some gb9) (Nat.le_refl 8) ?_
    refine w_sliceT (i := 0) (j := i) eP_len sw (Nat.zero_le _) (by omega) (.inl ⟨rfl, rfl⟩) (.inr ⟨.i64, rfl⟩) fun vs' s1 s2 => ?_
    rw [List.drop_zero, Nat.sub_zero] at s1
    have lt : (w.take i).length ≤ 100000 := by rw [List.length_take]; omega
    refine takes27 (mh9.ex x13) s1 lt (fun nv => absurd v nv) fun _ h14 x14 => ?_
    have g14 := (x13.trans x14).some g9
    refine ⟨ptr_id (x14.get _ (lt_of_get (x13.some g9))), ?_⟩
    refine w_rdPA g14 (Nat.le_refl 8) ?_
    refine w_sliceT (i := 0) (j := i) eP_len (Sl.ex sw x14) (Nat.zero_le _) (by omega) (.inl ⟨rfl, rfl⟩) (.inr ⟨.i64, rfl⟩) fun vs'' s1' s2' => ?_
    rw [List.drop_zero, Nat.sub_zero] at s1'
    refine takes27 (ms9.ex (x13.trans x14)) s1' lt (fun nv => absurd vs nv) fun _ h15 x15 => ?_
    refine w_neqBo ?_
    rw [Q.takes ok]
    have e5 : (!(takes s.pm (w.take i) == takes s.pm (w.take i))) = false := by simp
    rw [e5]
    refine c_f (w_add (by omega) (by omega) ?_)
    exact ih (w.length + 1 - (i + 1)) _ _ (by omega) ⟨i + 1, by omega, rfl, e7, e8, e10, rfl, (x13.trans x14).trans x15⟩
  · clear ih
    refine w_rdPA (x13.some g9) (Nat.le_refl 8) ?_
    refine small18 (ms9.ex x13) vs fun h16 ut c' cnt' f' x16 Ca' hf' mt => ?_
    have okS := vs.ok
    have Cq := Q.canon ok
    obtain ⟨ec, en⟩ := Ca'.uniq Cq
    have hfd : ∀ d, d < s.pm.n → f' d = d := fun d hd => by
      have h1 := (hf' d (by omega)).1
      have gd : ∀ e, e < s.pm.n → c'[e]? = some ((e : Nat) : Int) := fun e he => by rw [ec]; simp [he]
      have h2 : Fst c' d d := ⟨gd d hd, fun q hq => by rw [gd q (by omega)]; intro hh; injection hh with hh; omega⟩
      exact h1.uniq h2
    have es : sm s c' cnt' f' = s := by rw [en]; exact sm_self vs ec hfd
    rw [es] at mt ⊢
    refine w_some (v := .agg (moRow ut s).toArray) rfl (w_some (v := .int .i64 0) rfl ?_)
    refine n_rowv fun h17 x17 l17 g17 => stM g17 rfl ?_
    have g18 : (h17.set h16.length (.row (moRow ut s) true))[h16.length]? = some (.row (moRow ut s) true) := get_set _ (lt_of_get g17) _
    have x18 : Ex h16 (h17.set h16.length (.row (moRow ut s) true)) := x17.set (Nat.le_refl _) _
    generalize h17.set h16.length (.row (moRow ut s) true) = h18 at g18 x18 ⊢
    have y0 : (0 : Int) = 0 := rfl
    refine w_eql (g_tt y0 (w_rdPA g18 (Nat.le_refl 8) (g_tt y0 (w_rdPA ((x16.trans x18).some (x13.some g9)) (Nat.le_refl 8) (g_tt y0 ?_)))))
    have li := vs.li
    have ll := vs.ll
    have lr := vs.lr
    have lf := vs.lf
    refine same26 (mt.ex x18) (ms9.ex (x13.trans (x16.trans x18))) (by omega) (by omega) (by omega) (by omega) fun h19 x19 => pk_tt y0 rfl

theorem foldSmall_walk (h : AH) (a0 : Int) (_ : I64 a0) (v1 : Value) (ns : List Int) (i1 : Ints h v1 ns) (_ : ∀ n ∈ ns, I64 n) (v2 : Value) (ws : List Int) (i2 : Ints h v2 ws) (_ : ∀ n ∈ ws, I64 n) (hm : h.length = 2) : callW Try.prog 5 [.int .i64 a0, v1, v2] h fun v _ => v = .bool true := small5 i1 i2 hm
end Go.Proofs.Ytnpbehfhncbjfaa.W
end
