/- Parts of a proof, joined by a program. Conditions: none. -/
import Derived.Test.YtnpbehfhncbjfaaRB3
import Derived.Test.YtnpbehfhncbjfaaRA2

section
/- Fold's laws: the document's Small. Conditions: none. -/
namespace Go.Proofs.Ytnpbehfhncbjfaa.W
open Go Go.AM FoldPM
set_option linter.unusedVariables false
set_option maxRecDepth 100000
theorem res19 (e : Env) (h : AH) : resList Try.prog e h Try.f19.results.toList = (rdRow true 8 (e 2) h).map fun v => [v, e 3] := by
  have h1 : Try.f19.results.toList = [.cell 2 28, .tmp 3] := by kernel_rfl
  have h2 : ∀ x, pLoad Try.prog 28 x h = rdRow true 8 x h := fun x => by kernel_rfl
  rw [h1]
  show (match pLoad Try.prog 28 (e 2) h with
    | some v => match resList Try.prog e h [.tmp 3] with
      | some vs => some (v :: vs)
      | none => none
    | none => none) = _
  rw [h2]
  cases rdRow true 8 (e 2) h <;> rfl
set_option maxHeartbeats 3200000 in
theorem small19 {h : AH} {u : MoV} {m : Mo} {K : Value → AH → Prop} (mh : MoH h u m) (v : Valid m)
    (k : ∀ h' u' c cnt f, Ex h h' → Canon m.pm.n (Rch m.pm) (EE m.pm) c cnt → (∀ d, d < cnt → Fst c d (f d) ∧ f d < m.pm.n) → MoH h' u' (sm m c cnt f) → K (.tuple #[.agg (moRow u' (sm m c cnt f)).toArray, .int .i64 0]) h') : callW Try.prog 19 [.agg (moRow u m).toArray] h K := by
  have ok := v.ok
  have n1 := ok.n1
  have n2 := v.n2
  have hnn : m.pm.n = m.Of.length := rfl
  have hn60 : m.pm.n ≤ 60 := by omega
  refine c19 ?_
  unfold s19
  refine n_boxv rfl fun h1 x1 l1 g1 => n_rowv fun h2 x2 l2 g2 => ?_
  have g1' : h1[h.length]? = some (.row (moRow u m) true) := g1
  have gb2 := x2.some g1'
  refine w_rdPA gb2 (Nat.le_refl 8) ?_
  refine refcheck17 (mh.ex (x1.trans x2)) (fun nv => absurd v nv) fun _ h3 x3 => w_neq (c_ff (by decide) ?_)
  have x03 := (x1.trans x2).trans x3
  have gb3 := x3.some gb2
  have gR3 := x3.some g2
  refine w_rdPA gb3 (Nat.le_refl 8) ?_
  refine refclasses25 (mh.ex x03) v fun h5 N c cnt x5 hN gN lc Ca => ?_
  have cn := Ca.le
  have lN := lt_of_get gN
  have slN : ∀ {h' : AH}, Ex h5 h' → Ints h' (.slice (some ⟨N, 0, none⟩) m.pm.n m.pm.n) c := fun y => slI (y.some gN) lc (by omega)
  have cval : ∀ (q d : Nat), c[q]? = some (d : Int) → d < cnt ∧ q < m.pm.n := fun q d hq => by
    have hqn : q < m.pm.n := by have := (List.getElem?_eq_some_iff.1 hq).1; omega
    refine ⟨?_, hqn⟩
    by_cases r : Rch m.pm q
    · obtain ⟨d', hd', hq'⟩ := Ca.re q hqn r
      rw [hq] at hq'
      injection hq' with hq'
      omega
    · have := Ca.un q hqn r
      rw [hq] at this
      injection this with this
      omega
  refine loopE_intro (fun mm e h' => ∃ (i d : Nat) (fl : List Int), i ≤ m.pm.n ∧ mm = m.pm.n - i ∧ e 1 = .pointer (some ⟨h.length, 0, none⟩) ∧ e 2 = .pointer (some ⟨h1.length, 0, none⟩) ∧ e 4 = .slice (some ⟨N, 0, none⟩) m.pm.n m.pm.n ∧ e 6 = .int .i64 (i : Nat) ∧
      Ex h5 h' ∧ OwnG 1 (fun j => h5.length ≤ j) h' (e 5) d (flat eI fl) ∧ fl.length = d ∧ d ≤ i ∧ (∀ e', e' < d → ∃ p0 : Nat, fl[e']? = some (p0 : Int) ∧ Fst c e' p0) ∧ ∀ (q : Nat) (y : Int), q < i → c[q]? = some y → y < d) m.pm.n
    ⟨0, 0, [], Nat.zero_le _, rfl, rfl, rfl, rfl, rfl, Ex.refl _, OwnG.nil _ _ _, rfl, Nat.le_refl _, fun e' he => by omega, fun q y hq => by omega⟩ ?_
  rintro J mm e hA ⟨i, d, fl, hi, hmm, e1, e2, e4, e6, xA, o1, lfl, hdi, hfl, hlow⟩ ih
  rw [e4, e6, e1]
  refine w_lenSl (w_lss (c_dec (fun q => ?_) (fun q => ?_)))
  · have hin : i < m.pm.n := by omega
    obtain ⟨x, hx⟩ := getElem?_of_lt (l := c) (i := i) (by omega)
    refine w_idxN eI_len (slN xA) hx fun z hz => w_rd1 hz rfl ?_
    refine w_len o1.sl (w_eql (c_dec (fun q1 => ?_) (fun q1 => ?_)))
    · subst q1
      refine bldT rfl (by decide) rfl rfl (n_newv fun h7 x7 l7 g7 => appSl_of ?_)
      have o2 := o1.mono (F' := fun j => h5.length ≤ j) (h' := h7) (fun _ _ h => h) fun j hj _ => x7.get j (o1.on hj).2
      refine app_g (by decide) o2 (srcL_new (n := 1) (s := 1) g7 (by decide) rfl) rfl (by have := bigR; omega) fun v' h8 a1 a2 a3 a4 => ?_
      refine w_add (by omega) (by omega) ?_
      refine ih (m.pm.n - (i + 1)) _ _ (by omega) ⟨i + 1, d + 1, fl ++ [(i : Int)], by omega, rfl, e1, e2, e4, rfl, (xA.trans x7).below a2 fun j hj => a3 j (by have := xA.len; have := x7.len; omega) fun hh => by have := (o1.on hh).1; omega, ?_, by rw [List.length_append, lfl]; rfl, by omega, fun e' he => ?_, fun q' y hq hy => ?_⟩
      · show OwnG 1 (fun j => h5.length ≤ j) h8 v' _ _
        rw [flat_append]
        exact OwnG.mono a1 (fun j _ hj => hj.elim id fun e => by have := xA.len; have := x7.len; show h5.length ≤ j; omega) fun _ _ _ => rfl
      · by_cases ee : e' = d
        · subst ee
          refine ⟨i, by rw [← lfl]; simp, hx, fun q' hq' hh => ?_⟩
          have := hlow q' _ hq' hh
          omega
        · obtain ⟨p0, a, b⟩ := hfl e' (by omega)
          exact ⟨p0, by rw [List.getElem?_append_left (by omega)]; exact a, b⟩
      · by_cases eq : q' = i
        · subst eq
          rw [hx] at hy
          injection hy with hy
          omega
        · have := hlow q' y (by omega) hy
          omega
    · refine w_add (by omega) (by omega) ?_
      refine ih (m.pm.n - (i + 1)) _ _ (by omega) ⟨i + 1, d, fl, by omega, rfl, e1, e2, e4, rfl, xA, o1, lfl, by omega, hfl, fun q' y hq hy => ?_⟩
      by_cases eq : q' = i
      · subst eq
        rw [hx] at hy
        injection hy with hy
        subst hy
        by_cases xl : x < (d : Int)
        · exact xl
        · obtain ⟨t, rfl⟩ : ∃ t : Nat, x = (t : Int) := ⟨x.toNat, by omega⟩
          obtain ⟨q2, h2, h3⟩ := Ca.first q' t hin hx d (by omega)
          have := hlow q2 _ h2 h3
          omega
      · exact hlow q' y (by omega) hy
  · have ei : i = m.pm.n := by omega
    subst ei
    have ed : d = cnt := by
      by_cases h1 : d < cnt
      · obtain ⟨p, hp, hpd⟩ := Ca.all d h1
        have := hlow p _ hp hpd
        omega
      · by_cases h2 : cnt < d
        · obtain ⟨p0, _, a, _⟩ := hfl cnt h2
          have := (cval p0 cnt a).1
          omega
        · omega
    subst ed
    obtain ⟨f, hf⟩ : ∃ f : Nat → Nat, ∀ d', d' < d → fl[d']? = some ((f d' : Nat) : Int) ∧ Fst c d' (f d') ∧ f d' < m.pm.n := by
      refine ⟨fun d' => (fl.getD d' 0).toNat, fun d' hd' => ?_⟩
      obtain ⟨p0, a, b⟩ := hfl d' hd'
      have e : (fl.getD d' 0).toNat = p0 := by rw [getD_some a]; rfl
      dsimp only
      rw [e]
      exact ⟨a, b, (cval p0 d' b.1).2⟩
    clear ih hfl hlow
    generalize hvF : e 5 = vF at o1 ⊢
    have x0A : Ex h hA := (x03.trans x5).trans xA
    have gbA : hA[h.length]? = some (.row (moRow u m) true) := (x5.trans xA).some gb3
    have gRA : hA[h1.length]? = some (.row z8 true) := (x5.trans xA).some gR3
    have mA := mh.ex x0A
    have lc' : c.length = m.pm.n := lc
    have iF : ∀ {h' : AH}, Ex hA h' → Ints h' vF fl := fun y => by
      have := o1.sl
      rw [← lfl] at this
      exact Sl.ex this y
    have slC : ∀ {h' : AH}, Ex hA h' → Ints h' (.slice (some ⟨N, 0, none⟩) m.pm.n m.pm.n) c := fun y => slN (xA.trans y)
    refine w_offP (w_rdP gbA (v := .int .i64 m.pl) rfl (w_offP (w_rdP gbA (v := .int .i64 m.cl) rfl ?_)))
    refine w_some (v := .agg #[.int .i64 m.pl, .int .i64 m.cl, .slice none 0 0, .slice none 0 0, .slice none 0 0, .slice none 0 0, .slice none 0 0, .slice none 0 0]) rfl ?_
    refine n_rowv fun h9 x9 l9 g9 => w_stPA g9 rfl (Nat.le_refl 8) rfl ?_
    have lT := lt_of_get g9
    have gT : (h9.set hA.length (.row (spliceL [(.int .i64 0), (.int .i64 0), (.slice none 0 0), (.slice none 0 0), (.slice none 0 0), (.slice none 0 0), (.slice none 0 0), (.slice none 0 0)] 0 (cellsL (.agg #[.int .i64 m.pl, .int .i64 m.cl, .slice none 0 0, .slice none 0 0, .slice none 0 0, .slice none 0 0, .slice none 0 0, .slice none 0 0]))) true))[hA.length]? = some (.row [.int .i64 m.pl, .int .i64 m.cl, .slice none 0 0, .slice none 0 0, .slice none 0 0, .slice none 0 0, .slice none 0 0, .slice none 0 0] true) := get_set _ lT _
    have xT : Ex hA (h9.set hA.length (.row (spliceL [(.int .i64 0), (.int .i64 0), (.slice none 0 0), (.slice none 0 0), (.slice none 0 0), (.slice none 0 0), (.slice none 0 0), (.slice none 0 0)] 0 (cellsL (.agg #[.int .i64 m.pl, .int .i64 m.cl, .slice none 0 0, .slice none 0 0, .slice none 0 0, .slice none 0 0, .slice none 0 0, .slice none 0 0]))) true)) := x9.set (Nat.le_refl _) _
    generalize h9.set hA.length (.row (spliceL [(.int .i64 0), (.int .i64 0), (.slice none 0 0), (.slice none 0 0), (.slice none 0 0), (.slice none 0 0), (.slice none 0 0), (.slice none 0 0)] 0 (cellsL (.agg #[.int .i64 m.pl, .int .i64 m.cl, .slice none 0 0, .slice none 0 0, .slice none 0 0, .slice none 0 0, .slice none 0 0, .slice none 0 0]))) true) = hT at gT xT ⊢
    have ele := v.enEl
    have ele1 := ele.1
    refine loopE_intro (fun mm e' h' => ∃ (i : Nat) (vv : Nat → Value) (cs : Nat → List Value), i ≤ m.En.length ∧ mm = m.En.length - i ∧ e' 1 = .pointer (some ⟨h.length, 0, none⟩) ∧ e' 2 = .pointer (some ⟨h1.length, 0, none⟩) ∧ e' 4 = .slice (some ⟨N, 0, none⟩) m.pm.n m.pm.n ∧ e' 5 = vF ∧ e' 7 = .pointer (some ⟨hA.length, 0, none⟩) ∧ e' 8 = .int .i64 (i : Nat) ∧
        Ex hA h' ∧ h'[hA.length]? = some (.row [.int .i64 m.pl, .int .i64 m.cl, .slice none 0 0, vv 7, .slice none 0 0, .slice none 0 0, .slice none 0 0, .slice none 0 0] true) ∧ SMs h' hA.length vv cs (fun _ => False) ∧ cs 7 = flat eI ((m.En.take i).map (cOf c)) ∧ ∀ j, j ≠ 7 → vv j = .slice none 0 0 ∧ cs j = []) m.En.length
      ⟨0, wnil, fun _ => [], Nat.zero_le _, rfl, e1, e2, e4, hvF, rfl, rfl, xT, gT, ⟨SL.nil _ _, fun j hj => hj.elim⟩, rfl, fun j _ => ⟨rfl, rfl⟩⟩ ?_
    clear e1 e2 e4 e6 hvF hmm q hi gT xT lT g9 l9 x9
    clear e mm J hT h9
    rintro J mm e h11 ⟨i, vv, cs, hi, hmm, e1, e2, e4, e5, e7, e8, x11, g11, S, c7, hrest⟩ ih
    rw [e1, e8, e7, e4]
    have gb11 := x11.some gbA
    have m11 := mA.ex x11
    refine w_offP (w_rdP gb11 (v := sv u.ve) rfl (w_len m11.en (w_lss (c_dec (fun q => ?_) (fun q => ?_)))))
    · obtain ⟨x, hx⟩ := getElem?_of_lt (l := m.En) (i := i) (by omega)
      obtain ⟨x0, xn⟩ := ele.2 x (List.mem_of_getElem? hx)
      obtain ⟨y, hy⟩ := getElem?_of_lt (l := c) (i := x.toNat) (by omega)
      have xr := Ex.res h11
      have g12 := xr.some g11
      refine w_offP (w_rdP g12 (v := vv 7) rfl (w_offP (w_rdP (xr.some gb11) (v := sv u.ve) rfl ?_)))
      refine w_idxN eI_len (m11.ex xr).en hx fun z hz => w_rd1 hz rfl ?_
      refine w_idxT eI_len (slC (x11.trans xr)) x0 hy fun z hz => w_rd1 hz rfl ?_
      have lTl := lt_of_get g11
      refine (S.ex xr).appF (i := 7) (f := 3) (by decide) lTl (dead1 h11) (fun hz => hz.elim) rfl rfl rfl (by rw [c7, flat_eI_len, List.length_map, List.length_take]; omega) g12 (by show 3 < 8; decide) fun cc j v' q' h' s' b l hTs _ => ?_
      refine w_add (by omega) (by omega) ?_
      refine ih (m.En.length - (i + 1)) _ _ (by omega) ⟨i + 1, updV vv 7 v', updC cs 7 (cs 7 ++ [.int .i64 y]), by omega, rfl, e1, e2, e4, e5, e7, rfl, (x11.trans xr).below l fun j hj => hTs j hj, b, s', ?_, fun j hj => ?_⟩
      · have e5 : (m.En.take (i + 1)).map (cOf c) = (m.En.take i).map (cOf c) ++ [y] := by
          rw [take_succ_get hx, List.map_append]
          congr 1
          show [cOf c x] = [y]
          unfold cOf
          rw [getD_some hy]
        show cs 7 ++ [_] = _
        rw [e5, flat_append, c7]
        rfl
      · unfold updV updC
        rw [if_neg hj, if_neg hj]
        exact hrest j hj
    · have eEn : m.En.take i = m.En := List.take_of_length_le (by omega)
      rw [eEn] at c7
      have i61 : Ints h11 (vv 7) (m.En.map (cOf c)) := by
        have := (S.sl.own 7 (by decide)).sl
        rw [c7, flat_eI_len] at this
        exact this
      have S0 : SmJ hA h11 hA.length (.int .i64 m.pl, .int .i64 m.cl) (updV vv 7 (.slice none 0 0)) (vv 7) (m.En.map (cOf c)) (updV vv 7 (.slice none 0 0)) (updC cs 7 []) (fun j => False ∨ onId (vv 7) j) [] [] [] [] [] [] [] := by
        have r0 := hrest 0 (by decide)
        have r1 := hrest 1 (by decide)
        have r2 := hrest 2 (by decide)
        have r3 := hrest 3 (by decide)
        have r4 := hrest 4 (by decide)
        have r5 := hrest 5 (by decide)
        have r6 := hrest 6 (by decide)
        refine ⟨x11, rfl, ?_, S.freeze 7 (by decide), i61, fun j hj => .inr hj, r0.2, r1.2, ?_, ?_, ?_, ?_, r6.2⟩
        · show h11[hA.length]? = some (.row [.int .i64 m.pl, .int .i64 m.cl, vv 0, vv 7, vv 1, vv 2, vv 3, vv 4] true)
          rw [r0.1, r1.1, r2.1, r3.1, r4.1]
          exact g11
        · show RowsZ h11 _ (cs 2) []
          rw [r2.2]; exact RowsZ.nil _ _
        · show RowsZ h11 _ (cs 3) []
          rw [r3.2]; exact RowsZ.nil _ _
        · show RetsZ h11 _ (cs 4) []
          rw [r4.2]; exact RetsZ.nil _ _
        · show RowsZ h11 _ (cs 5) []
          rw [r5.2]; exact RowsZ.nil _ _
      generalize vv 7 = v61 at S0
      clear ih hrest c7 S g11 i61
      refine loopE_intro (fun mm e' h' => ∃ (t : Nat) (vv : Nat → Value) (cs : Nat → List Value) (Z : Nat → Prop) (a5 : List (List Int)) (a6 : List Int), t ≤ d ∧ mm = d - t ∧ e' 1 = .pointer (some ⟨h.length, 0, none⟩) ∧ e' 2 = .pointer (some ⟨h1.length, 0, none⟩) ∧ e' 4 = .slice (some ⟨N, 0, none⟩) m.pm.n m.pm.n ∧ e' 5 = vF ∧ e' 7 = .pointer (some ⟨hA.length, 0, none⟩) ∧ e' 9 = .int .i64 (t : Nat) ∧
          SmJ hA h' hA.length (.int .i64 m.pl, .int .i64 m.cl) vv v61 (m.En.map (cOf c)) vv cs Z (smOf m f t) (smFi m f t) (smIn m c f t) (smLow m c f t) (smRet m c d f t) a5 a6) d
        ⟨0, _, _, _, [], [], Nat.zero_le _, rfl, e1, e2, e4, e5, e7, rfl, S0⟩ ?_
      clear e1 e2 e4 e5 e7 e8 hmm q hi S0 gb11 m11 x11 eEn
      clear e mm J i vv cs h11
      rintro J mm e h15 ⟨t, vv, cs, Z, a5, a6, ht, hmm, e1, e2, e4, e5, e7, e9, S⟩ ih
      rw [e1, e5, e7, e9, e4]
      have lA : h.length < hA.length := lt_of_get gbA
      refine w_len (iF S.ex) (w_lss (c_dec (fun q => ?_) (fun q => ?_)))
      · have htd : t < d := by omega
        obtain ⟨fd, fst, fdn⟩ := hf t htd
        obtain ⟨li, hli⟩ := getElem?_of_lt (l := m.In) (i := f t) (by have := v.li; show f t < m.In.length; rw [this]; exact fdn)
        obtain ⟨lo, hlo⟩ := getElem?_of_lt (l := m.Low) (i := f t) (by have := v.ll; show f t < m.Low.length; rw [this]; exact fdn)
        obtain ⟨re, hre⟩ := getElem?_of_lt (l := m.Ret) (i := f t) (by have := v.lr; show f t < m.Ret.length; rw [this]; exact fdn)
        have eln := v.inEl fdn hli
        have ell := v.lowEl fdn hlo
        have elr := v.retEl fdn hre
        have eln1 := eln.1
        have ell1 := ell.1
        have elr1 := elr.1
        refine w_idxN eI_len (iF S.ex) fd fun z hz => w_rd1 hz rfl ?_
        clear hz
        obtain ⟨xr, lr, d0, d1⟩ := res2 h15
        have lT := S.lt
        have S1 := S.exx xr
        have nz : ∀ {h : AH} {vv : Nat → Value} {cs : Nat → List Value} {Z : Nat → Prop} {j : Nat}, SMs h hA.length vv cs Z → h.length ≤ j → ¬ Z j := fun s hj hz => by have := (s.z _ hz).2.1; omega
        refine w_offP (w_rdP S1.box rfl (w_offP (w_rdP (S1.ex.some gbA) (v := sv u.vo) rfl (w_idxN eI_len (mA.ex S1.ex).of (v.ofAt fdn) fun z hz => w_rd1 hz rfl ?_))))
        refine S1.app0 (r := h15.length) S.lt d0 (nz S.s (Nat.le_refl _)) (by unfold smOf; simp; omega) fun c1 j1 h16 v1 h17 b16 b17 l17 sl1 hd17 S2 => ?_
        clear hz
        have bb : ∀ j, j ≤ hA.length → h17[j]? = h16[j]? := fun j hj => (b17 j hj).trans (b16 j hj).symm
        refine w_offP ⟨ptr_id (bb _ (Nat.le_refl _)), ptr_id (b16 _ (Nat.le_refl _)), w_rdP S2.box rfl ?_⟩
        refine w_offP ⟨ptr_id (bb _ (by omega)), ptr_id (b16 _ (by omega)), w_rdP (S2.ex.some gbA) (v := sv u.vf) rfl ?_⟩
        refine w_idxN eBo_len mA.fi (v.fiAt fdn) fun z hz => ⟨idB hz fun j hj => (bb j (by omega)).symm, idB hz fun j hj => (b16 j (by omega)).symm, w_rd1 (hz.ex S2.ex) rfl ?_⟩
        refine S2.app1 (r := h15.length + 1) (by omega) (hd17 _ (by omega) d1) (nz S.s (by omega)) (by unfold smFi; simp; omega) fun c2 j2 h18 v2 h19 b18 b19 l19 sl2 hd19 S3 => ?_
        clear hz
        refine S3.st (f := 2) (b' := updV vv 0 v1) sl1 (by decide) rfl fun q1 h20 l20 k20 S4 => ?_
        refine S4.st (f := 4) (b' := updV (updV vv 0 v1) 1 v2) sl2 (by decide) rfl fun q2 h21 l21 k21 S5 => ?_
        clear S S1 S2 S3 S4 bb b16 b17 b18 b19 hd17 hd19 d0 d1 xr lr l17 l19 l20 l21 k20 k21
        obtain ⟨xr, lr, d0, d1⟩ := res2 h21
        have lT2 := S5.lt
        have S6 := S5.exx xr
        obtain ⟨vin, sin, rin⟩ := (mA.ex S6.ex).inn
        obtain ⟨win, hwin, iin⟩ := rin _ li hli
        refine w_offP (w_rdP S6.box rfl (w_offP (w_rdP (S6.ex.some gbA) (v := sv u.vi) rfl (idxV sin hwin fun z hz => w_rd1 hz rfl ?_))))
        refine classes44 (slC S6.ex) iin (by omega) (fun x hx => by have := eln.2 x hx; rw [lc']; exact this) fun w1 h22 x22 i22 on22 => ?_
        refine ⟨ptr_id (x22.get _ (by omega)), ?_⟩
        have S7 := S6.addZ x22 on22
        refine S7.app2 (r := h21.length) i22 (fun j hj => .inr hj) lT2 (x22.some d0) (fun hz => hz.elim (nz S5.s (Nat.le_refl _)) fun hh => by have := (on22 _ hh).1; rw [lr] at this; omega) (by unfold smIn; simp; omega) fun c4 j4 h23 v3 h24 b23 b24 l24 sl3 hd24 S8 => ?_
        clear hz
        have bb : ∀ j, j ≤ hA.length → h24[j]? = h23[j]? := fun j hj => (b24 j hj).trans (b23 j hj).symm
        have bx : ∀ j, j ≤ hA.length → h22[j]? = (reserve 2 h21)[j]? := fun j hj => x22.get _ (by omega)
        obtain ⟨vlo, slo, rlo⟩ := mA.low
        obtain ⟨wlo, hwlo, ilo⟩ := rlo _ lo hlo
        refine w_offP ⟨ptr_id (bb _ (Nat.le_refl _)), ptr_id (b23 _ (Nat.le_refl _)), ptr_id (bx _ (Nat.le_refl _)), w_rdP S8.box rfl ?_⟩
        refine w_offP ⟨ptr_id (bb _ (by omega)), ptr_id (b23 _ (by omega)), ptr_id (bx _ (by omega)), w_rdP (S8.ex.some gbA) (v := sv u.vl) rfl ?_⟩
        refine idxV slo hwlo fun z hz => ⟨idB hz fun j hj => (bb j (by omega)).symm, idB hz fun j hj => (b23 j (by omega)).symm, idB hz fun j hj => (bx j (by omega)).symm, w_rd1 (hz.ex S8.ex) rfl ?_⟩
        refine classes44 (slC S8.ex) (Sl.ex ilo S8.ex) (by omega) (fun x hx => by have := ell.2 x hx; rw [lc']; exact this) fun w2 h25 x25 i25 on25 => ?_
        refine ⟨ptr_id (x25.get _ S8.lt), ?_⟩
        have S9 := S8.addZ x25 on25
        have l2122 := x22.len
        refine S9.app3 (r := h21.length + 1) i25 (fun j hj => .inr hj) (by omega) (x25.some (hd24 _ (by omega) (x22.some d1))) (fun hz => hz.elim (fun hz => hz.elim (nz S5.s (by omega)) fun hh => by have := (on22 _ hh).1; rw [lr] at this; omega) fun hh => by have := (on25 _ hh).1; omega) (by unfold smLow; simp; omega) fun c5 j5 h26 v4 h27 b26 b27 l27 sl4 hd27 S10 => ?_
        clear hz
        refine S10.st (f := 5) (b' := updV (updV (updV vv 0 v1) 1 v2) 2 v3) sl3 (by decide) rfl fun q3 h28 l28 k28 S11 => ?_
        refine S11.st (f := 6) (b' := updV (updV (updV (updV vv 0 v1) 1 v2) 2 v3) 3 v4) sl4 (by decide) rfl fun q4 h29 l29 k29 S12 => ?_
        have t0 : smOf m f (t + 1) = smOf m f t ++ [m.pm.of (f t)] := range_succ _ t
        have t1 : smFi m f (t + 1) = smFi m f t ++ [m.pm.fi (f t)] := range_succ _ t
        have t2 : smIn m c f (t + 1) = smIn m c f t ++ [li.map (cOf c)] := by
          have : (m.In.getD (f t) []) = li := getD_of hli
          rw [← this]; exact range_succ _ t
        have t3 : smLow m c f (t + 1) = smLow m c f t ++ [lo.map (cOf c)] := by
          have : (m.Low.getD (f t) []) = lo := getD_of hlo
          rw [← this]; exact range_succ _ t
        have S13 := S12.reset5
        rw [← t0, ← t1, ← t2, ← t3] at S13
        have Sv : ∃ (bb : Nat → Value) (V : Nat → Value) (C : Nat → List Value) (Z' : Nat → Prop), V 5 = .slice none 0 0 ∧ (V 0 = bb 0 ∧ V 1 = bb 1 ∧ V 2 = bb 2 ∧ V 3 = bb 3 ∧ V 4 = bb 4) ∧ SmJ hA h29 hA.length (.int .i64 m.pl, .int .i64 m.cl) bb v61 (m.En.map (cOf c)) V C Z' (smOf m f (t + 1)) (smFi m f (t + 1)) (smIn m c f (t + 1)) (smLow m c f (t + 1)) (smRet m c d f t) [] a6 := ⟨updV (updV (updV (updV vv 0 v1) 1 v2) 2 v3) 3 v4, updV (updV (updV (updV (updV vv 0 v1) 1 v2) 2 v3) 3 v4) 5 (.slice none 0 0), _, _, rfl, ⟨rfl, rfl, rfl, rfl, rfl⟩, S13⟩
        clear S13 S12 S11 S10 S9 S8 S7 S6 S5 bb bx xr lr d0 d1 b23 b24 b26 b27 hd24 hd27 l24 l27 l28 l29 k28 k29 x22 x25 i22 i25 on22 on25 ilo hwlo rlo slo sin rin hwin iin lT lT2
        obtain ⟨bb, V, C, Z', V5, hV, S⟩ := Sv
        obtain ⟨vre, sre, rre⟩ := mA.ret
        obtain ⟨wre, hwre, vsr, svr, rvr⟩ := rre _ re hre
        refine loopE_intro (fun mm e' h' => ∃ (j : Nat) (vv : Nat → Value) (cs : Nat → List Value) (Z : Nat → Prop) (a6 : List Int), j ≤ re.length ∧ mm = re.length - j ∧ e' 1 = .pointer (some ⟨h.length, 0, none⟩) ∧ e' 2 = .pointer (some ⟨h1.length, 0, none⟩) ∧ e' 4 = .slice (some ⟨N, 0, none⟩) m.pm.n m.pm.n ∧ e' 5 = vF ∧ e' 7 = .pointer (some ⟨hA.length, 0, none⟩) ∧ e' 9 = .int .i64 (t : Nat) ∧
            e' 10 = .int .i64 (f t : Nat) ∧ e' 11 = vv 5 ∧ e' 12 = .int .i64 (j : Nat) ∧ (vv 0 = bb 0 ∧ vv 1 = bb 1 ∧ vv 2 = bb 2 ∧ vv 3 = bb 3 ∧ vv 4 = bb 4) ∧
            SmJ hA h' hA.length (.int .i64 m.pl, .int .i64 m.cl) bb v61 (m.En.map (cOf c)) vv cs Z (smOf m f (t + 1)) (smFi m f (t + 1)) (smIn m c f (t + 1)) (smLow m c f (t + 1)) (smRet m c d f t) ((re.take j).map fun l => smRow c f l d) a6) re.length
          ⟨0, V, C, Z', a6, Nat.zero_le _, rfl, e1, e2, e4, e5, e7, e9, rfl, V5.symm, rfl, hV, S⟩ ?_
        clear S hV V5
        clear e1 e2 e4 e5 e7 e9 q
        rintro J2 mm2 e2v h30 ⟨j, vv, cs, Z, a6, hj, hmm2, e1, e2, e4, e5, e7, e9, e10, e11, e12, hV, S⟩ ih2
        rw [e1, e10, e12, e7, e11, e9]
        refine w_offP (w_rdP (S.ex.some gbA) (v := sv u.vr) rfl (idxV (sre.ex S.ex) hwre fun z hz => w_rd1 hz rfl (w_len (svr.ex S.ex) (w_lss (c_dec (fun q2 => ?_) (fun q2 => ?_))))))
        · clear hz
          obtain ⟨l, hl⟩ := getElem?_of_lt (l := re) (i := j) (by omega)
          obtain ⟨w, hw, iw⟩ := rvr j l hl
          have ell2 := elr.2 l (List.mem_of_getElem? hl)
          refine loopE_intro (fun mm e' h' => ∃ (kk : Nat) (vv : Nat → Value) (cs : Nat → List Value) (Z : Nat → Prop), kk ≤ d ∧ mm = d - kk ∧ e' 1 = .pointer (some ⟨h.length, 0, none⟩) ∧ e' 2 = .pointer (some ⟨h1.length, 0, none⟩) ∧ e' 4 = .slice (some ⟨N, 0, none⟩) m.pm.n m.pm.n ∧ e' 5 = vF ∧ e' 7 = .pointer (some ⟨hA.length, 0, none⟩) ∧ e' 9 = .int .i64 (t : Nat) ∧
              e' 10 = .int .i64 (f t : Nat) ∧ e' 11 = vv 5 ∧ e' 12 = .int .i64 (j : Nat) ∧ e' 13 = vv 6 ∧ e' 14 = .int .i64 (kk : Nat) ∧ (vv 0 = bb 0 ∧ vv 1 = bb 1 ∧ vv 2 = bb 2 ∧ vv 3 = bb 3 ∧ vv 4 = bb 4) ∧
              SmJ hA h' hA.length (.int .i64 m.pl, .int .i64 m.cl) bb v61 (m.En.map (cOf c)) vv cs Z (smOf m f (t + 1)) (smFi m f (t + 1)) (smIn m c f (t + 1)) (smLow m c f (t + 1)) (smRet m c d f t) ((re.take j).map fun l => smRow c f l d) (smRow c f l kk)) d
            ⟨0, updV vv 6 (.slice none 0 0), _, _, Nat.zero_le _, rfl, e1, e2, e4, e5, e7, e9, e10, e11, e12, rfl, rfl, hV, S.reset6⟩ ?_
          clear e1 e2 e4 e5 e7 e9 e10 e11 e12 hV S
          rintro J3 mm3 e3v h31 ⟨kk, vv, cs, Z, hk, hmm3, e1, e2, e4, e5, e7, e9, e10, e11, e12, e13, e14, hV, S⟩ ih3
          rw [e5, e14, e1, e10, e12, e4, e13, e11]
          refine w_len (iF S.ex) (w_lss (c_dec (fun q3 => ?_) (fun q3 => ?_)))
          · obtain ⟨fk, _, fkn⟩ := hf kk (by omega)
            have xr := Ex.res h31
            have xA1 := S.ex.trans xr
            obtain ⟨tt, htt⟩ := getElem?_of_lt (l := l) (i := f kk) (by rw [ell2.1]; exact fkn)
            have tn := ell2.2 tt (List.mem_of_getElem? htt)
            obtain ⟨y, hy⟩ := getElem?_of_lt (l := c) (i := tt.toNat) (by omega)
            refine w_offP (w_rdP (xA1.some gbA) (v := sv u.vr) rfl (idxV (sre.ex xA1) hwre fun z1 hz1 => w_rd1 hz1 rfl (idxV (svr.ex xA1) hw fun z2 hz2 => w_rd1 hz2 rfl ?_)))
            refine w_idxN eI_len (iF xA1) fk fun z3 hz3 => w_rd1 hz3 rfl ?_
            refine w_idxN eI_len (Sl.ex iw xA1) htt fun z4 hz4 => w_rd1 hz4 rfl (w_idxT eI_len (slC xA1) tn.1 hy fun z5 hz5 => w_rd1 hz5 rfl ?_)
            refine S.app6 (by unfold smRow; simp; omega) fun c9 j9 v9 h32 S2 => ?_
            refine w_add (by omega) (by omega) ?_
            have er : smRow c f l (kk + 1) = smRow c f l kk ++ [y] := by
              have : cOf c (l.getD (f kk) 0) = y := by rw [getD_some htt]; exact getD_some hy
              rw [← this]; exact range_succ _ kk
            rw [← er] at S2
            exact ih3 (d - (kk + 1)) _ _ (by omega) ⟨kk + 1, updV vv 6 v9, _, _, by omega, rfl, e1, e2, e4, e5, e7, e9, e10, e11, e12, rfl, rfl, hV, S2⟩
          · have ek : kk = d := by omega
            subst ek
            refine S.app5 (by rw [List.length_map, List.length_take]; omega) fun c7 j7 v7 h35 Z7 V7 C7 u5 u0 u1 u2 u3 u4 S4 => ?_
            refine w_add (by omega) (by omega) ?_
            have er : (re.take (j + 1)).map (fun l => smRow c f l kk) = (re.take j).map (fun l => smRow c f l kk) ++ [smRow c f l kk] := by
              rw [take_succ_get hl, List.map_append]; rfl
            rw [← er] at S4
            exact ih2 (re.length - (j + 1)) _ _ (by omega) ⟨j + 1, V7, C7, Z7, [], by omega, rfl, e1, e2, e4, e5, e7, e9, e10, u5.symm, rfl, ⟨u0.trans hV.1, u1.trans hV.2.1, u2.trans hV.2.2.1, u3.trans hV.2.2.2.1, u4.trans hV.2.2.2.2⟩, S4⟩
        · have ej : re.take j = re := List.take_of_length_le (by omega)
          rw [ej] at S
          refine w_offP (w_rdP S.box rfl ?_)
          have e4v : bb 4 = vv 4 := hV.2.2.2.2.symm
          show optW (bldSl 1 _ 1 _) fun c_8 => newW none (.row c_8 true) h30 fun i_8 h_36 => appSl 1 (bb 4) _ h_36 _
          rw [e4v]
          refine S.app4 (by unfold smRet; simp; omega) fun c7 j7 v7 h35 Z7 V7 C7 u4 u0 u1 u2 u3 slv S4 => ?_
          refine S4.st (f := 7) (b' := V7) slv (by decide) ?_ fun q5 h36 l36 k36 S5 => ?_
          · show [_, _, bb 0, v61, bb 1, bb 2, bb 3, v7] = _
            rw [u0, u1, u2, u3, u4, hV.1, hV.2.1, hV.2.2.1, hV.2.2.2.1]
          refine w_add (by omega) (by omega) ?_
          have er : smRet m c d f (t + 1) = smRet m c d f t ++ [re.map fun l => smRow c f l d] := by
            have : (m.Ret.getD (f t) []) = re := getD_of hre
            rw [← this]; exact range_succ _ t
          rw [← er] at S5
          exact ih (d - (t + 1)) _ _ (by omega) ⟨t + 1, V7, C7, Z7, _, _, by omega, rfl, e1, e2, e4, e5, e7, rfl, S5⟩
      · have ed : t = d := by omega
        subst ed
        have l15 := S.lt
        rw [e2]
        have s0 := (S.s.sl.own 0 (by decide)).sl
        have s1 := (S.s.sl.own 1 (by decide)).sl
        have s2 := (S.s.sl.own 2 (by decide)).sl
        have s3 := (S.s.sl.own 3 (by decide)).sl
        have s4 := (S.s.sl.own 4 (by decide)).sl
        have z0 : (cs 0).length = t := by rw [S.c0, flat_eI_len]; unfold smOf; simp
        have z1 : (cs 1).length = t := by rw [S.c1, flat_eBo_len]; unfold smFi; simp
        have z2 : (cs 2).length = t := by rw [S.c2.1]; unfold smIn; simp
        have z3 : (cs 3).length = t := by rw [S.c3.1]; unfold smLow; simp
        have z4 : (cs 4).length = t := by rw [S.c4.1]; unfold smRet; simp
        rw [z0, S.c0] at s0
        rw [z1, S.c1] at s1
        rw [z2] at s2
        rw [z3] at s3
        rw [z4] at s4
        have gB := S.box
        have on0 : ∀ {i : Nat} {j : Nat}, i < 5 → onId (vv i) j → hA.length < j := fun hi hj => (S.s.sl.on (by omega) hj).1
        have on1 := fun (j : Nat) => on0 (i := 0) (j := j) (by decide)
        have on2 := fun (j : Nat) => on0 (i := 1) (j := j) (by decide)
        have on3 := fun (j : Nat) => on0 (i := 2) (j := j) (by decide)
        have on4 := fun (j : Nat) => on0 (i := 3) (j := j) (by decide)
        have on5 := fun (j : Nat) => on0 (i := 4) (j := j) (by decide)
        have zZ := fun (j : Nat) (hj : Z j) => (S.s.z j hj).1
        have en := S.en
        have ez := S.ez
        have xS := S.ex
        have c2 := S.c2
        have c3 := S.c3
        have c4 := S.c4
        generalize vv 0 = w0 at s0 gB on1
        generalize vv 1 = w1 at s1 gB on2
        generalize vv 2 = w2 at s2 gB on3
        generalize vv 3 = w3 at s3 gB on4
        generalize vv 4 = w4 at s4 gB on5
        obtain ⟨p0, q0, r0, rfl⟩ := Sl.isSl s0
        obtain ⟨p1, q1, r1, rfl⟩ := Sl.isSl s1
        obtain ⟨p2, q2, r2, rfl⟩ := Sl.isSl s2
        obtain ⟨p3, q3, r3, rfl⟩ := Sl.isSl s3
        obtain ⟨p4, q4, r4, rfl⟩ := Sl.isSl s4
        obtain ⟨a61, n61, c61, rfl⟩ := Sl.isSl en
        refine w_rdPA gB (Nat.le_refl 8) ?_
        have lR := lt_of_get gRA
        have gR := xS.some gRA
        refine w_stPA gR rfl (Nat.le_refl 8) rfl ?_
        let u' : MoV := ⟨(p0, q0, r0), (a61, n61, c61), (p1, q1, r1), (p2, q2, r2), (p3, q3, r3), (p4, q4, r4)⟩
        have lR15 := lt_of_get gR
        have gF : (h15.set h1.length (.row (spliceL z8 0 (cellsL (.agg ((List.drop 0 [Value.int .i64 m.pl, .int .i64 m.cl, .slice p0 q0 r0, .slice a61 n61 c61, .slice p1 q1 r1, .slice p2 q2 r2, .slice p3 q3 r3, .slice p4 q4 r4]).take 8).toArray))) true))[h1.length]? = some (.row (moRow u' (sm m c t f)) true) := get_set _ lR15 _
        have kn : ∀ j, hA.length < j → (h15.set h1.length (.row (spliceL z8 0 (cellsL (.agg ((List.drop 0 [Value.int .i64 m.pl, .int .i64 m.cl, .slice p0 q0 r0, .slice a61 n61 c61, .slice p1 q1 r1, .slice p2 q2 r2, .slice p3 q3 r3, .slice p4 q4 r4]).take 8).toArray))) true))[j]? = h15[j]? := fun j hj => get_ne (by omega) _
        have x0F : Ex h (h15.set h1.length (.row (spliceL z8 0 (cellsL (.agg ((List.drop 0 [Value.int .i64 m.pl, .int .i64 m.cl, .slice p0 q0 r0, .slice a61 n61 c61, .slice p1 q1 r1, .slice p2 q2 r2, .slice p3 q3 r3, .slice p4 q4 r4]).take 8).toArray))) true)) := (x0A.trans xS).set (by omega) _
        rw [res19]
        refine w_some (v := [.agg (moRow u' (sm m c t f)).toArray, .int .i64 0]) ?_ ?_
        · show Option.map (fun v => [v, Value.int .i64 0]) (rdRow true 8 (e 2) _) = _
          rw [e2]
          have e := hopt (o := rdRow true 8 (.pointer (some ⟨h1.length, 0, none⟩)) _) (w_rdPA gF (Nat.le_refl 8) rfl)
          rw [e]
          rfl
        · have ll : ∀ {α : Type} (g : Nat → α), ((List.range t).map g).length = t := fun g => by simp
          have kZ := fun (j : Nat) (hj : Z j) => kn j (zZ j hj)
          refine k _ u' c t f x0F Ca (fun d' hd' => (hf d' hd').2) ⟨?_, Sl.keepOn en fun j hj => kZ j (ez j hj), ?_, ?_, ?_, ?_, ?_, ?_, ?_, ?_, ?_⟩
          · show Sl 1 _ (.slice p0 q0 r0) (smOf m f t).length _
            rw [show (smOf m f t).length = t from ll _]
            exact s0.keepOn fun j hj => kn j (on1 j hj)
          · show Sl 1 _ (.slice p1 q1 r1) (smFi m f t).length _
            rw [show (smFi m f t).length = t from ll _]
            exact s1.keepOn fun j hj => kn j (on2 j hj)
          · exact (c2.to (fun _ h => h) kZ).rows (by rw [show (smIn m c f t).length = t from ll _]; exact s2.keepOn fun j hj => kn j (on3 j hj))
          · exact (c3.to (fun _ h => h) kZ).rows (by rw [show (smLow m c f t).length = t from ll _]; exact s3.keepOn fun j hj => kn j (on4 j hj))
          · exact (c4.to (fun _ h => h) kZ).rets (by rw [show (smRet m c t f t).length = t from ll _]; exact s4.keepOn fun j hj => kn j (on5 j hj))
          · show (smOf m f t).length ≤ 1000
            rw [show (smOf m f t).length = t from ll _]; omega
          · show (m.En.map (cOf c)).length ≤ 1000
            rw [List.length_map]
            omega
          · intro l hl
            obtain ⟨e', he, rfl⟩ := List.mem_map.1 hl
            rw [List.length_map]
            have := hf e' (List.mem_range.1 he)
            obtain ⟨li, hli⟩ := getElem?_of_lt (l := m.In) (i := f e') (by have h1 := v.li; show f e' < m.In.length; rw [h1]; exact this.2.2)
            rw [getD_of hli]
            have := (v.inEl this.2.2 hli).1; omega
          · intro l hl
            obtain ⟨e', he, rfl⟩ := List.mem_map.1 hl
            rw [List.length_map]
            have := hf e' (List.mem_range.1 he)
            obtain ⟨li, hli⟩ := getElem?_of_lt (l := m.Low) (i := f e') (by have h1 := v.ll; show f e' < m.Low.length; rw [h1]; exact this.2.2)
            rw [getD_of hli]
            have := (v.lowEl this.2.2 hli).1; omega
          · intro r hr
            obtain ⟨e', he, rfl⟩ := List.mem_map.1 hr
            have := hf e' (List.mem_range.1 he)
            obtain ⟨li, hli⟩ := getElem?_of_lt (l := m.Ret) (i := f e') (by have h1 := v.lr; show f e' < m.Ret.length; rw [h1]; exact this.2.2)
            rw [getD_of hli, List.length_map]
            refine ⟨by have := (v.retEl this.2.2 hli).1; omega, fun l hl => ?_⟩
            obtain ⟨l', _, rfl⟩ := List.mem_map.1 hl
            rw [show (smRow c f l' t).length = t from ll _]; omega
end Go.Proofs.Ytnpbehfhncbjfaa.W
end

section
/- FoldAll's walk. Conditions: none. -/
namespace Go.Proofs.Ytnpbehfhncbjfaa.W
open Go Go.AM FoldPM
set_option linter.unusedVariables false
set_option maxRecDepth 100000
theorem app_old {s b : Nat} {h : AH} {v x : Value} {n m : Nat} {cs news : List Value} {K : Value → AH → Prop} (hs : 0 < s) (ho : OwnSl s b h v n cs) (hx : srcL s x h = some (m, news)) (hm : news.length = m * s) (hn : n + m < room40)
    (k : ∀ v' h', h.length ≤ h'.length → (∀ j, j < h.length → ¬ onId v j → h'[j]? = h[j]?) → Sl s h' v' (n + m) (cs ++ news) → OwnG s (fun j => b ≤ j) h' v n cs → K v' h') : appS s v x h K := by
  rcases ho with ⟨rfl, rfl, rfl⟩ | ⟨id, hb, rfl, h1, h2⟩
  · exact app_own hs (OwnSl.nil s 0 h) hx hm hn (Nat.zero_le _) fun v' h' o1 o2 o3 o4 => k v' h' o2 o3 o1.sl (OwnG.nil _ _ _)
  · refine .inr ?_
    have hid := lt_of_get h1
    unfold appBoth
    simp only [hx, h1]
    have hl : (cs ++ news).length = (n + m) * s := by rw [List.length_append, h2, hm, Nat.add_mul]
    refine ⟨hn, trivial, by omega, ?_, ?_⟩
    · refine k _ _ (by rw [List.length_set]; exact Nat.le_refl _) (fun j hj hne => get_ne (fun e => hne (by subst e; rfl)) _) (OwnSl.sl (b := b) (.inr ⟨id, hb, rfl, get_set _ hid _, hl⟩)) ⟨h2, .inr ⟨id, _, hb, rfl, get_set _ hid _, by rw [List.length_append]; omega, by rw [← h2]; simp⟩⟩
    · refine k _ _ (by simp) (fun j hj _ => List.getElem?_append_left hj) (OwnSl.sl (b := 0) (.inr ⟨h.length, Nat.zero_le _, rfl, get_new _ _, ?_⟩)) ⟨h2, .inr ⟨id, cs, hb, rfl, by rw [List.getElem?_append_left hid]; exact h1, by omega, by rw [← h2]; simp⟩⟩
      exact hl
def HB (n : Nat) (H : HT) : Prop := ∀ t ∈ H, ∀ x, x < n → t.2.1[x]? = t.2.2[x]?
def SB (n : Nat) (S : ST) : Prop := ∀ t ∈ S, ∀ x ∈ t.2, x < n
theorem HB.nil (n : Nat) : HB n [] := fun t ht => by cases ht
theorem SB.nil (n : Nat) : SB n [] := fun t ht => by cases ht
theorem HB.cons {n : Nat} {H : HT} {k : Nat} {a b : AH} (h : HB n H) (hh : ∀ x, x < n → b[x]? = a[x]?) : HB n ((k, a, b) :: H) := fun t ht => by
  rcases List.mem_cons.1 ht with rfl | ht
  · exact fun x hx => (hh x hx).symm
  · exact h t ht
theorem SB.cons {n : Nat} {S : ST} {k b : Nat} (h : SB n S) (hb : b < n) : SB n ((k, idOf (.pointer (some ⟨b, 0, none⟩))) :: S) := fun t ht => by
  rcases List.mem_cons.1 ht with rfl | ht
  · intro x hx
    have : x = b := by simpa [idOf] using hx
    omega
  · exact h t ht
theorem histB {b : Array Nat} {j i n : Nat} {H : HT} {K : Prop} (h : HB n H) (hi : i < n) (k : K) : histC b j (idOf (.pointer (some ⟨i, 0, none⟩))) H K :=
  hist_all k fun t ht x hx => h t ht x (by have : x = i := by simpa [idOf] using hx
                                           omega)
theorem readB {b : Array Nat} {j n : Nat} {hb ha : AH} {S : ST} {K : Prop} (h : SB n S) (hh : ∀ x, x < n → ha[x]? = hb[x]?) (k : K) : readC b j hb ha S K :=
  read_all k fun t ht x hx => (hh x (h t ht x hx)).symm
theorem w_eqB {a : Bool} {K : Value → Prop} (k : K (.bool true)) : optW (pBin Try.prog .eql 4 (.bool a) (.bool a)) K := by
  refine w_eqlBo ?_
  rw [beq_self_eq_true]
  exact k
theorem w_eq0 {K : Value → Prop} (k : K (.bool true)) : optW (pBin Try.prog .eql 3 (.int .i64 0) (.int .i64 0)) K := w_eql k
set_option maxHeartbeats 1600000 in
theorem all4 {h : AH} {a0 : Int} {v1 v2 v3 : Value} {ns ws : List Int} {raw : List (Int × Int)} (hns : Ints h v1 ns) (hws : Ints h v2 ws) (hraw : Pairs h v3 raw) (hm : h.length = 3) : callW Try.prog 4 [.int .i64 a0, v1, v2, v3] h fun v _ => v = .bool true := by
  refine c4 ?_
  unfold s4
  refine known13 (.inr (.inr hm)) fun h1 x1 => w_notb (c_f ?_)
  refine w_len hraw (w_gtr (c_dec (fun _ => rfl) (fun hlen => ?_)))
  have rl : raw.length ≤ 50 := by omega
  refine make14o (Sl.ex hns x1) fun h2 u m o x2 mo v => ?_
  refine n_rowv fun h3 x3 l3 g3 => stM g3 rfl ?_
  have lt3 := lt_of_get g3
  have x24 : Ex h2 (h3.set h2.length (.row (moRow u m) true)) := x3.set (Nat.le_refl _) _
  have g4 : (h3.set h2.length (.row (moRow u m) true))[h2.length]? = some (.row (moRow u m) true) := get_set _ lt3 _
  have x04 := (x1.trans x2).trans x24
  generalize h3.set h2.length (.row (moRow u m) true) = h4 at g4 x24 x04 ⊢
  have mh : MoH h4 u m := (mo.toH fun _ _ => rfl).ex x24
  have ok := v.ok
  have n2 := v.n2
  have hnn : m.pm.n = m.Of.length := rfl
  refine w_rdPA g4 (Nat.le_refl 8) ?_
  refine small18 mh v fun h5 us c cnt f x5 Ca hf ms => ?_
  refine w_some (v := .agg (moRow us (sm m c cnt f)).toArray) rfl (w_some (v := .int .i64 0) rfl ?_)
  refine n_rowv fun h6 x6 l6 g6 => stM g6 rfl ?_
  have g7 : (h6.set h5.length (.row (moRow us (sm m c cnt f)) true))[h5.length]? = some (.row (moRow us (sm m c cnt f)) true) := get_set _ (lt_of_get g6) _
  have x7 : Ex h5 (h6.set h5.length (.row (moRow us (sm m c cnt f)) true)) := x6.set (Nat.le_refl _) _
  generalize h6.set h5.length (.row (moRow us (sm m c cnt f)) true) = h7 at g7 x7 ⊢
  have x47 := x5.trans x7
  refine w_rdPA (x47.some g4) (Nat.le_refl 8) ?_
  refine small19 (mh.ex x47) v fun h8 ut c' cnt' f' x8 Ca' hf' mt => ?_
  obtain ⟨ec, en⟩ := Ca'.uniq Ca
  have es : sm m c' cnt' f' = sm m c cnt f := by
    subst ec
    subst en
    exact sm_congr fun d hd => (hf' d hd).1.uniq (hf d hd).1
  rw [es] at mt ⊢
  refine w_some (v := .agg (moRow ut (sm m c cnt f)).toArray) rfl (w_some (v := .int .i64 0) rfl ?_)
  refine n_rowv fun h9 x9 l9 g9 => stM g9 rfl ?_
  have g10 : (h9.set h8.length (.row (moRow ut (sm m c cnt f)) true))[h8.length]? = some (.row (moRow ut (sm m c cnt f)) true) := get_set _ (lt_of_get g9) _
  have x10 : Ex h8 (h9.set h8.length (.row (moRow ut (sm m c cnt f)) true)) := x9.set (Nat.le_refl _) _
  generalize h9.set h8.length (.row (moRow ut (sm m c cnt f)) true) = h10 at g10 x10 ⊢
  have x710 := x8.trans x10
  have x410 := x47.trans x710
  have gm := x410.some g4
  have gs := x710.some g7
  refine w_rdPA gm (Nat.le_refl 8) ?_
  refine reached20 (mh.ex x410) (fun nv => absurd v nv) fun _ h11 I bl x11 hI gI hbl hrch => ?_
  refine ⟨ptr_id (x11.get _ (lt_of_get gm)), ?_⟩
  refine w_rdPA (x11.some gm) (Nat.le_refl 8) ?_
  refine reached21 (mh.ex (x410.trans x11)) v fun h12 I' bl' x12 hI' gI' hbl' hrch' => ?_
  refine w_lenSl (w_lenSl (w_neq (c_ff (by simp) ?_)))
  have ebl : bl' = bl := by
    apply List.ext_getElem?
    intro i
    by_cases hi : i < m.pm.n
    · obtain ⟨a, ha⟩ := getElem?_of_lt (l := bl) (i := i) (by omega)
      obtain ⟨b, hb⟩ := getElem?_of_lt (l := bl') (i := i) (by omega)
      have h1 := hrch i
      have h2 := hrch' i
      rw [ha] at h1 ⊢
      rw [hb] at h2 ⊢
      cases a <;> cases b <;> simp_all
    · rw [List.getElem?_eq_none (by omega), List.getElem?_eq_none (by omega)]
  subst ebl
  have oc60 : (60 : Nat) < openCap := by decide
  have gI12 := x12.some gI
  have isl : ∀ {h' : AH} {I : Nat}, h'[I]? = some (.row (flat eBo bl') true) → SlT 1 eBo h' (.slice (some ⟨I, 0, none⟩) m.pm.n m.pm.n) bl' := fun g => by
    refine ⟨by rw [flat_eBo_len]; omega, .inr ⟨_, 0, _, by rw [hbl], .inl ⟨by omega, by omega⟩, .inr ⟨_, _, g, by rw [flat_eBo_len]; omega, by rw [List.drop_zero, Nat.mul_one, ← flat_eBo_len, List.take_length]⟩⟩⟩
  refine loopE_intro (fun mm e h' => ∃ i : Nat, i ≤ m.pm.n ∧ mm = m.pm.n - i ∧ e 2 = v2 ∧ e 3 = v3 ∧ e 9 = .pointer (some ⟨h2.length, 0, none⟩) ∧ e 10 = .pointer (some ⟨h5.length, 0, none⟩) ∧ e 12 = .pointer (some ⟨h8.length, 0, none⟩) ∧ e 11 = .int .i64 0 ∧ e 13 = .int .i64 0 ∧ e 14 = .slice (some ⟨I, 0, none⟩) m.pm.n m.pm.n ∧ e 15 = .slice (some ⟨I', 0, none⟩) m.pm.n m.pm.n ∧ e 16 = .int .i64 (i : Nat) ∧ h12 = h') m.pm.n
    ⟨0, Nat.zero_le _, rfl, rfl, rfl, rfl, rfl, rfl, rfl, rfl, rfl, rfl, rfl, rfl⟩ ?_
  rintro J mm e h13 ⟨i, hi, hmm, e2, e3, e9, e10, e12, e11, e13, e14, e15, e16, rfl⟩ ih
  rw [e14, e15, e16, e9, e10, e12, e11, e13, e2, e3]
  refine w_lenSl (w_lss (c_dec (fun q => ?_) (fun q => ?_)))
  · obtain ⟨b, hb⟩ := getElem?_of_lt (l := bl') (i := i) (by omega)
    refine w_idxN eBo_len (isl gI12) hb fun z hz => w_rd1 hz rfl (w_idxN eBo_len (isl gI') hb fun z hz => w_rd1 hz rfl (w_neqBo ?_))
    rw [show (!(b == b)) = false by simp]
    refine c_f (w_add (by omega) (by omega) ?_)
    exact ih (m.pm.n - (i + 1)) _ _ (by omega) ⟨i + 1, by omega, rfl, e2, e3, e9, e10, e12, e11, e13, e14, e15, rfl, rfl⟩
  · clear ih
    have x1012 := x11.trans x12
    have gm := x1012.some gm
    have gs := x1012.some gs
    have gt := x1012.some g10
    have mh := mh.ex (x410.trans x1012)
    have ms := ms.ex (x7.trans (x710.trans x1012))
    have mt := mt.ex (x10.trans x1012)
    have xz := x04.trans (x410.trans x1012)
    refine w_rdPA gm (Nat.le_refl 8) ?_
    refine word22 mh v (Sl.ex hws xz) (by decide) fun vw h14 w x14 ow lw => ?_
    refine w_rdPA (x14.some gm) (Nat.le_refl 8) ?_
    refine classes24 (mh.ex x14) (fun nv => absurd v nv) fun _ h15 vc c3 cnt3 x15 oc3 Ca3 => ?_
    have x1215 := x14.trans x15
    refine ⟨ptr_id (x15.get _ (lt_of_get (x14.some gm))), ?_⟩
    refine w_rdPA (x1215.some gm) (Nat.le_refl 8) ?_
    refine refclasses25 (mh.ex x1215) v fun h16 N c4 cnt4 x16 hN gN lc4 Ca4 => ?_
    obtain ⟨e34, _⟩ := Ca3.uniq Ca4
    subst e34
    have x1216 := x1215.trans x16
    refine ints23 (Sl.ex oc3.sl x16) (slI gN lc4 (by omega)) (by omega) ?_
    refine gdc_tt (gdc_tt (gdc_tt (w_eq0 (pk_t ?_))))
    have L : ∀ {a b : AH}, Ex a b → h12.length ≤ a.length → ∀ x, x < h12.length → b[x]? = a[x]? := fun y hl x hx => y.get x (by omega)
    have lm := lt_of_get gm
    have ls := lt_of_get gs
    have lt := lt_of_get gt
    have l14 := x14.len
    have l15 := x15.len
    have l16 := x16.len
    have H0 : HB h12.length ((4, h16, h16) :: ((3, h15, h16) :: ((1, h14, h15) :: []))) := (((HB.nil _).cons (L x15 l14)).cons (L x16 (by omega))).cons fun _ _ => rfl
    have S0 : SB h12.length ((2, idOf (.pointer (some ⟨h2.length, 0, none⟩))) :: ((0, idOf (.pointer (some ⟨h2.length, 0, none⟩))) :: [])) := ((SB.nil _).cons lm).cons lm
    have y1216 : Ex h12 h16 := x1216
    refine gdc_tt (histB H0 ls (w_rdPA (y1216.some gs) (Nat.le_refl 8) ?_))
    have S1 := S0.cons (k := 11) ls
    refine gdc_tt (histB H0 lt (w_rdPA (y1216.some gt) (Nat.le_refl 8) ?_))
    have S2 := S1.cons (k := 12) lt
    have szn : cnt ≤ 60 := by have := Ca.le; omega
    refine gdc_tt (same26 (ms.ex y1216) (mt.ex y1216) (by show (smIn m c f cnt).length ≤ 1000; unfold smIn; simp; omega) (by show (smLow m c f cnt).length ≤ 1000; unfold smLow; simp; omega) (by show (smRet m c cnt f cnt).length ≤ 1000; unfold smRet; simp; omega) (by show (smFi m f cnt).length ≤ 1000; unfold smFi; simp; omega) fun h24 x24 => ?_)
    have l1216 := x1216.len
    have L24 := L x24 l1216
    refine readB S2 L24 ?_
    have H1 := H0.cons (k := 13) L24
    have y24 := y1216.trans x24
    have l24 := y24.len
    refine pk_t (gdc_tt (histB H1 lm (w_rdPA (y24.some gm) (Nat.le_refl 8) ?_)))
    have S3 := S2.cons (k := 16) lm
    have ow24 : OwnSl 2 h12.length h24 vw w.length (flat eP w) := ow.ex ((x15.trans x16).trans x24)
    refine gdc_tt (gdc_tt (takes27 (mh.ex y24) ow24.sl (by omega) (fun nv => absurd v nv) fun _ h28 x28 => ?_))
    have L28 := L x28 l24
    refine readB S3 L28 ?_
    have H2 := H1.cons (k := 18) L28
    have y28 := y24.trans x28
    have l28 := y28.len
    refine gdc_tt (histB H2 lm (w_rdPA (y28.some gm) (Nat.le_refl 8) ?_))
    have S4 := S3.cons (k := 19) lm
    refine gdc_tt (gdc_tt (takes28 (mh.ex y28) (ow24.ex x28).sl (by omega) v fun h32 x32 => ?_))
    have L32 := L x32 l28
    refine readB S4 L32 ?_
    have H3 := H2.cons (k := 21) L32
    have y32 := y28.trans x32
    have l32 := y32.len
    refine gdc_tt (w_eqB (pk_t ?_))
    refine gdc_tt (histB H3 lm (w_rdPA (y32.some gm) (Nat.le_refl 8) ?_))
    have S5 := S4.cons (k := 25) lm
    have raw12 : Pairs h12 v3 raw := Sl.ex hraw xz
    refine gdc_tt (gdc_tt (takes27 (mh.ex y32) (Sl.ex raw12 y32) (by omega) (fun nv => absurd v nv) fun _ h37 x37 => ?_))
    have L37 := L x37 l32
    refine readB S5 L37 ?_
    have H4 := H3.cons (k := 27) L37
    have y37 := y32.trans x37
    have l37 := y37.len
    refine gdc_tt (histB H4 lm (w_rdPA (y37.some gm) (Nat.le_refl 8) ?_))
    have S6 := S5.cons (k := 28) lm
    refine gdc_tt (gdc_tt (takes28 (mh.ex y37) (Sl.ex raw12 y37) (by omega) v fun h41 x41 => ?_))
    have L41 := L x41 l37
    refine readB S6 L41 ?_
    have H5 := H4.cons (k := 30) L41
    have y41 := y37.trans x41
    have l41 := y41.len
    refine gdc_tt (w_eqB (pk_t ?_))
    refine gdc_tt (histB H5 lm (w_rdPA (y41.some gm) (Nat.le_refl 8) ?_))
    have S7 := S6.cons (k := 34) lm
    have ow41 : OwnSl 2 h12.length h41 vw w.length (flat eP w) := ow24.ex (((x28.trans x32).trans x37).trans x41)
    have hsr : ∀ {h' : AH}, Ex h12 h' → srcL 2 v3 h' = some (raw.length, flat eP raw) := fun y => srcL_sl (by decide) (Sl.ex raw12 y)
    have hnw : (flat eP raw).length = raw.length * 2 := raw12.1
    have big := bigR
    refine gdc_tt (gdc_tt (gdc_tt (appSl_sl (Sl.ex raw12 y41) (app_old (by decide) ow41 (hsr y41) hnw (by omega) fun v100 h47 a1 a2 a3 a4 => ?_))))
    have L47 : ∀ x, x < h12.length → h47[x]? = h41[x]? := fun x hx => a2 x (by omega) fun hh => by have := OwnSl.not_old ow41 (by exact hx); exact this hh
    refine readB S7 L47 ?_
    have H6 := H5.cons (k := 37) L47
    have y47 : Ex h12 h47 := y41.below a1 L47
    have l47 := y47.len
    have s100 : Pairs h47 v100 (w ++ raw) := by
      show Sl 2 h47 v100 (w ++ raw).length (flat eP (w ++ raw))
      rw [flat_append, List.length_append]
      exact a3
    have l100 : (w ++ raw).length ≤ 100000 := by rw [List.length_append]; omega
    refine gdc_tt (takes27 (mh.ex y47) s100 l100 (fun nv => absurd v nv) fun _ h49 x49 => ?_)
    have L49 := L x49 l47
    refine readB S7 L49 ?_
    have H7 := H6.cons (k := 38) L49
    have y49 := y47.trans x49
    have l49 := y49.len
    refine gdc_tt (histB H7 lm (w_rdPA (y49.some gm) (Nat.le_refl 8) ?_))
    have S8 := S7.cons (k := 39) lm
    have og49 := OwnG.mono (F' := fun j => h12.length ≤ j) (h' := h49) a4 (fun _ _ h => h) fun j hj _ => x49.get j (a4.on hj).2
    refine gdc_tt (gdc_tt (gdc_tt (appSl_sl (Sl.ex raw12 y49) (app_g (by decide) og49 (hsr y49) hnw (by omega) fun v105 h54 b1 b2 b3 b4 => ?_))))
    have L54 : ∀ x, x < h12.length → h54[x]? = h49[x]? := fun x hx => b3 x (by omega) fun hh => by have := (og49.on hh).1; omega
    refine readB S8 L54 ?_
    have y54 : Ex h12 h54 := y49.below b2 L54
    have l54 := y54.len
    have s105 : Pairs h54 v105 (w ++ raw) := by
      show Sl 2 h54 v105 (w ++ raw).length (flat eP (w ++ raw))
      rw [flat_append, List.length_append]
      exact b1.sl
    refine gdc_tt (takes28 (mh.ex y54) s105 l100 v fun h56 x56 => ?_)
    have L56 := L x56 l54
    refine readB S8 L56 ?_
    exact gdc_tt (w_eqB (pk_t rfl))
theorem foldAll_walk (h : AH) (a0 : Int) (_ : I64 a0) (v1 : Value) (ns : List Int) (i1 : Ints h v1 ns) (_ : ∀ n ∈ ns, I64 n) (v2 : Value) (ws : List Int) (i2 : Ints h v2 ws) (_ : ∀ n ∈ ws, I64 n) (v3 : Value) (raw : List (Int × Int)) (i3 : Pairs h v3 raw) (hm : h.length = 3) : callW Try.prog 4 [.int .i64 a0, v1, v2, v3] h fun v _ => v = .bool true := all4 i1 i2 i3 hm
end Go.Proofs.Ytnpbehfhncbjfaa.W
end
