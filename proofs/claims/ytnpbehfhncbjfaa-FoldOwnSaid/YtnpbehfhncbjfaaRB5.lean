/- Parts of a proof, joined by a program. Conditions: none. -/
import Derived.Test.YtnpbehfhncbjfaaRB4

section
/- Fold's laws: the document's Small. Conditions: none. -/
namespace Go.Proofs.Ytnpbehfhncbjfaa.W
open Go Go.AM FoldPM
set_option linter.unusedVariables false
set_option maxRecDepth 100000
theorem res19 (e : Env) (h : AH) : resList Try.prog e h Try.f19.results.toList = (rdRow true 8 (e 2) h).map fun v => [v, e 3] := by
  have h1 : Try.f19.results.toList = [.cell 2 28, .tmp 3] := by kernel_rfl
  have h2 : ∀ x, pLoad Try.prog 28 x h = rdRow true 8 x h := fun x => by kernel_rfl
  rw [h1]
  show (match pLoad Try.prog 28 (e 2) h with
    | some v => match resList Try.prog e h [.tmp 3] with
      | some vs => some (v :: vs)
      | none => none
    | none => none) = _
  rw [h2]
  cases rdRow true 8 (e 2) h <;> rfl
set_option maxHeartbeats 3200000 in
theorem small19 {h : AH} {u : MoV} {m : Mo} {K : Value → AH → Prop} (mh : MoH h u m) (v : Valid m)
    (k : ∀ h' u' c cnt f, Ex h h' → Canon m.pm.n (Rch m.pm) (EE m.pm) c cnt → (∀ d, d < cnt → Fst c d (f d) ∧ f d < m.pm.n) → MoH h' u' (sm m c cnt f) → K (.tuple #[.agg (moRow u' (sm m c cnt f)).toArray, .int .i64 0]) h') : callW Try.prog 19 [.agg (moRow u m).toArray] h K := by
  have ok := v.ok
  have n1 := ok.n1
  have n2 := v.n2
  have hnn : m.pm.n = m.Of.length := rfl
  have hn60 : m.pm.n ≤ 60 := by omega
  refine c19 ?_
  unfold s19
  refine n_boxv rfl fun h1 x1 l1 g1 => n_rowv fun h2 x2 l2 g2 => ?_
  have g1' : h1[h.length]? = some (.row (moRow u m) true) := g1
  have gb2 := x2.some g1'
  refine w_rdPA gb2 (Nat.le_refl 8) ?_
  refine refcheck17 (mh.ex (x1.trans x2)) (fun nv => absurd v nv) fun _ h3 x3 => w_neq (c_ff (by decide) ?_)
  have x03 := (x1.trans x2).trans x3
  have gb3 := x3.some gb2
  have gR3 := x3.some g2
  refine w_rdPA gb3 (Nat.le_refl 8) ?_
  refine refclasses25 (mh.ex x03) v fun h5 N c cnt x5 hN gN lc Ca => ?_
  have cn := Ca.le
  have lN := lt_of_get gN
  have slN : ∀ {h' : AH}, Ex h5 h' → Ints h' (.slice (some ⟨N, 0, none⟩) m.pm.n m.pm.n) c := fun y => slI (y.some gN) lc (by omega)
  have cval : ∀ (q d : Nat), c[q]? = some (d : Int) → d < cnt ∧ q < m.pm.n := fun q d hq => by
    have hqn : q < m.pm.n := by have := (List.getElem?_eq_some_iff.1 hq).1; omega
    refine ⟨?_, hqn⟩
    by_cases r : Rch m.pm q
    · obtain ⟨d', hd', hq'⟩ := Ca.re q hqn r
      rw [hq] at hq'
      injection hq' with hq'
      omega
    · have := Ca.un q hqn r
      rw [hq] at this
      injection this with this
      omega
  refine loopE_intro (fun mm e h' => ∃ (i d : Nat) (fl : List Int), i ≤ m.pm.n ∧ mm = m.pm.n - i ∧ e 1 = .pointer (some ⟨h.length, 0, none⟩) ∧ e 2 = .pointer (some ⟨h1.length, 0, none⟩) ∧ e 4 = .slice (some ⟨N, 0, none⟩) m.pm.n m.pm.n ∧ e 6 = .int .i64 (i : Nat) ∧
      Ex h5 h' ∧ OwnG 1 (fun j => h5.length ≤ j) h' (e 5) d (flat eI fl) ∧ fl.length = d ∧ d ≤ i ∧ (∀ e', e' < d → ∃ p0 : Nat, fl[e']? = some (p0 : Int) ∧ Fst c e' p0) ∧ ∀ (q : Nat) (y : Int), q < i → c[q]? = some y → y < d) m.pm.n
    ⟨0, 0, [], Nat.zero_le _, rfl, rfl, rfl, rfl, rfl, Ex.refl _, OwnG.nil _ _ _, rfl, Nat.le_refl _, fun e' he => by omega, fun q y hq => by omega⟩ ?_
  rintro J mm e hA ⟨i, d, fl, hi, hmm, e1, e2, e4, e6, xA, o1, lfl, hdi, hfl, hlow⟩ ih
  rw [e4, e6, e1]
  refine w_lenSl (w_lss (c_dec (fun q => ?_) (fun q => ?_)))
  · have hin : i < m.pm.n := by omega
    obtain ⟨x, hx⟩ := getElem?_of_lt (l := c) (i := i) (by omega)
    refine w_idxN eI_len (slN xA) hx fun z hz => w_rd1 hz rfl ?_
    refine w_len o1.sl (w_eql (c_dec (fun q1 => ?_) (fun q1 => ?_)))
    · subst q1
      refine bldT rfl (by decide) rfl rfl (n_newv fun h7 x7 l7 g7 => appSl_of ?_)
      have o2 := o1.mono (F' := fun j => h5.length ≤ j) (h' := h7) (fun _ _ h => h) fun j hj _ => x7.get j (o1.on hj).2
      refine app_g (by decide) o2 (srcL_new (n := 1) (s := 1) g7 (by decide) rfl) rfl (by have := bigR; omega) fun v' h8 a1 a2 a3 a4 => ?_
      refine w_add (by omega) (by omega) ?_
      refine ih (m.pm.n - (i + 1)) _ _ (by omega) ⟨i + 1, d + 1, fl ++ [(i : Int)], by omega, rfl, e1, e2, e4, rfl, (xA.trans x7).below a2 fun j hj => a3 j (by have := xA.len; have := x7.len; omega) fun hh => by have := (o1.on hh).1; omega, ?_, by rw [List.length_append, lfl]; rfl, by omega, fun e' he => ?_, fun q' y hq hy => ?_⟩
      · show OwnG 1 (fun j => h5.length ≤ j) h8 v' _ _
        rw [flat_append]
        exact OwnG.mono a1 (fun j _ hj => hj.elim id fun e => by have := xA.len; have := x7.len; show h5.length ≤ j; omega) fun _ _ _ => rfl
      · by_cases ee : e' = d
        · subst ee
          refine ⟨i, by rw [← lfl]; simp, hx, fun q' hq' hh => ?_⟩
          have := hlow q' _ hq' hh
          omega
        · obtain ⟨p0, a, b⟩ := hfl e' (by omega)
          exact ⟨p0, by rw [List.getElem?_append_left (by omega)]; exact a, b⟩
      · by_cases eq : q' = i
        · subst eq
          rw [hx] at hy
          injection hy with hy
          omega
        · have := hlow q' y (by omega) hy
          omega
    · refine w_add (by omega) (by omega) ?_
      refine ih (m.pm.n - (i + 1)) _ _ (by omega) ⟨i + 1, d, fl, by omega, rfl, e1, e2, e4, rfl, xA, o1, lfl, by omega, hfl, fun q' y hq hy => ?_⟩
      by_cases eq : q' = i
      · subst eq
        rw [hx] at hy
        injection hy with hy
        subst hy
        by_cases xl : x < (d : Int)
        · exact xl
        · obtain ⟨t, rfl⟩ : ∃ t : Nat, x = (t : Int) := ⟨x.toNat, by omega⟩
          obtain ⟨q2, h2, h3⟩ := Ca.first q' t hin hx d (by omega)
          have := hlow q2 _ h2 h3
          omega
      · exact hlow q' y (by omega) hy
  · have ei : i = m.pm.n := by omega
    subst ei
    have ed : d = cnt := by
      by_cases h1 : d < cnt
      · obtain ⟨p, hp, hpd⟩ := Ca.all d h1
        have := hlow p _ hp hpd
        omega
      · by_cases h2 : cnt < d
        · obtain ⟨p0, _, a, _⟩ := hfl cnt h2
          have := (cval p0 cnt a).1
          omega
        · omega
    subst ed
    obtain ⟨f, hf⟩ : ∃ f : Nat → Nat, ∀ d', d' < d → fl[d']? = some ((f d' : Nat) : Int) ∧ Fst c d' (f d') ∧ f d' < m.pm.n := by
      refine ⟨fun d' => (fl.getD d' 0).toNat, fun d' hd' => ?_⟩
      obtain ⟨p0, a, b⟩ := hfl d' hd'
      have e : (fl.getD d' 0).toNat = p0 := by rw [getD_some a]; rfl
      dsimp only
      rw [e]
      exact ⟨a, b, (cval p0 d' b.1).2⟩
    clear ih hfl hlow
    generalize hvF : e 5 = vF at o1 ⊢
    have x0A : Ex h hA := (x03.trans x5).trans xA
    have gbA : hA[h.length]? = some (.row (moRow u m) true) := (x5.trans xA).some gb3
    have gRA : hA[h1.length]? = some (.row z8 true) := (x5.trans xA).some gR3
    have mA := mh.ex x0A
    have lc' : c.length = m.pm.n := lc
    have iF : ∀ {h' : AH}, Ex hA h' → Ints h' vF fl := fun y => by
      have := o1.sl
      rw [← lfl] at this
      exact Sl.ex this y
    have slC : ∀ {h' : AH}, Ex hA h' → Ints h' (.slice (some ⟨N, 0, none⟩) m.pm.n m.pm.n) c := fun y => slN (xA.trans y)
    refine w_offP (w_rdP gbA (v := .int .i64 m.pl) rfl (w_offP (w_rdP gbA (v := .int .i64 m.cl) rfl ?_)))
    refine w_some (v := .agg #[.int .i64 m.pl, .int .i64 m.cl, .slice none 0 0, .slice none 0 0, .slice none 0 0, .slice none 0 0, .slice none 0 0, .slice none 0 0]) rfl ?_
    refine n_rowv fun h9 x9 l9 g9 => w_stPA g9 rfl (Nat.le_refl 8) rfl ?_
    have lT := lt_of_get g9
    have gT : (h9.set hA.length (.row (spliceL [(.int .i64 0), (.int .i64 0), (.slice none 0 0), (.slice none 0 0), (.slice none 0 0), (.slice none 0 0), (.slice none 0 0), (.slice none 0 0)] 0 (cellsL (.agg #[.int .i64 m.pl, .int .i64 m.cl, .slice none 0 0, .slice none 0 0, .slice none 0 0, .slice none 0 0, .slice none 0 0, .slice none 0 0]))) true))[hA.length]? = some (.row [.int .i64 m.pl, .int .i64 m.cl, .slice none 0 0, .slice none 0 0, .slice none 0 0, .slice none 0 0, .slice none 0 0, .slice none 0 0] true) := get_set _ lT _
    have xT : Ex hA (h9.set hA.length (.row (spliceL [(.int .i64 0), (.int .i64 0), (.slice none 0 0), (.slice none 0 0), (.slice none 0 0), (.slice none 0 0), (.slice none 0 0), (.slice none 0 0)] 0 (cellsL (.agg #[.int .i64 m.pl, .int .i64 m.cl, .slice none 0 0, .slice none 0 0, .slice none 0 0, .slice none 0 0, .slice none 0 0, .slice none 0 0]))) true)) := x9.set (Nat.le_refl _) _
    generalize h9.set hA.length (.row (spliceL [(.int .i64 0), (.int .i64 0), (.slice none 0 0), (.slice none 0 0), (.slice none 0 0), (.slice none 0 0), (.slice none 0 0), (.slice none 0 0)] 0 (cellsL (.agg #[.int .i64 m.pl, .int .i64 m.cl, .slice none 0 0, .slice none 0 0, .slice none 0 0, .slice none 0 0, .slice none 0 0, .slice none 0 0]))) true) = hT at gT xT ⊢
    have ele := v.enEl
    have ele1 := ele.1
    refine loopE_intro (fun mm e' h' => ∃ (i : Nat) (vv : Nat → Value) (cs : Nat → List Value), i ≤ m.En.length ∧ mm = m.En.length - i ∧ e' 1 = .pointer (some ⟨h.length, 0, none⟩) ∧ e' 2 = .pointer (some ⟨h1.length, 0, none⟩) ∧ e' 4 = .slice (some ⟨N, 0, none⟩) m.pm.n m.pm.n ∧ e' 5 = vF ∧ e' 7 = .pointer (some ⟨hA.length, 0, none⟩) ∧ e' 8 = .int .i64 (i : Nat) ∧
        Ex hA h' ∧ h'[hA.length]? = some (.row [.int .i64 m.pl, .int .i64 m.cl, .slice none 0 0, vv 7, .slice none 0 0, .slice none 0 0, .slice none 0 0, .slice none 0 0] true) ∧ SMs h' hA.length vv cs (fun _ => False) ∧ cs 7 = flat eI ((m.En.take i).map (cOf c)) ∧ ∀ j, j ≠ 7 → vv j = .slice none 0 0 ∧ cs j = []) m.En.length
      ⟨0, wnil, fun _ => [], Nat.zero_le _, rfl, e1, e2, e4, hvF, rfl, rfl, xT, gT, ⟨SL.nil _ _, fun j hj => hj.elim⟩, rfl, fun j _ => ⟨rfl, rfl⟩⟩ ?_
    clear e1 e2 e4 e6 hvF hmm q hi gT xT lT g9 l9 x9
    clear e mm J hT h9
    rintro J mm e h11 ⟨i, vv, cs, hi, hmm, e1, e2, e4, e5, e7, e8, x11, g11, S, c7, hrest⟩ ih
    rw [e1, e8, e7, e4]
    have gb11 := x11.some gbA
    have m11 := mA.ex x11
    refine w_offP (w_rdP gb11 (v := sv u.ve) rfl (w_len m11.en (w_lss (c_dec (fun q => ?_) (fun q => ?_)))))
    · obtain ⟨x, hx⟩ := getElem?_of_lt (l := m.En) (i := i) (by omega)
      obtain ⟨x0, xn⟩ := ele.2 x (List.mem_of_getElem? hx)
      obtain ⟨y, hy⟩ := getElem?_of_lt (l := c) (i := x.toNat) (by omega)
      have xr := Ex.res h11
      have g12 := xr.some g11
      refine w_offP (w_rdP g12 (v := vv 7) rfl (w_offP (w_rdP (xr.some gb11) (v := sv u.ve) rfl ?_)))
      refine w_idxN eI_len (m11.ex xr).en hx fun z hz => w_rd1 hz rfl ?_
      refine w_idxT eI_len (slC (x11.trans xr)) x0 hy fun z hz => w_rd1 hz rfl ?_
      have lTl := lt_of_get g11
      refine (S.ex xr).appF (i := 7) (f := 3) (by decide) lTl (dead1 h11) (fun hz => hz.elim) rfl rfl rfl (by rw [c7, flat_eI_len, List.length_map, List.length_take]; omega) g12 (by show 3 < 8; decide) fun cc j v' q' h' s' b l hTs _ => ?_
      refine w_add (by omega) (by omega) ?_
      refine ih (m.En.length - (i + 1)) _ _ (by omega) ⟨i + 1, updV vv 7 v', updC cs 7 (cs 7 ++ [.int .i64 y]), by omega, rfl, e1, e2, e4, e5, e7, rfl, (x11.trans xr).below l fun j hj => hTs j hj, b, s', ?_, fun j hj => ?_⟩
      · have e5 : (m.En.take (i + 1)).map (cOf c) = (m.En.take i).map (cOf c) ++ [y] := by
          rw [take_succ_get hx, List.map_append]
          congr 1
          show [cOf c x] = [y]
          unfold cOf
          rw [getD_some hy]
        show cs 7 ++ [_] = _
        rw [e5, flat_append, c7]
        rfl
      · unfold updV updC
        rw [if_neg hj, if_neg hj]
        exact hrest j hj
    · have eEn : m.En.take i = m.En := List.take_of_length_le (by omega)
      rw [eEn] at c7
      have i61 : Ints h11 (vv 7) (m.En.map (cOf c)) := by
        have := (S.sl.own 7 (by decide)).sl
        rw [c7, flat_eI_len] at this
        exact this
      have S0 : SmJ hA h11 hA.length (.int .i64 m.pl, .int .i64 m.cl) (updV vv 7 (.slice none 0 0)) (vv 7) (m.En.map (cOf c)) (updV vv 7 (.slice none 0 0)) (updC cs 7 []) (fun j => False ∨ onId (vv 7) j) [] [] [] [] [] [] [] := by
        have r0 := hrest 0 (by decide)
        have r1 := hrest 1 (by decide)
        have r2 := hrest 2 (by decide)
        have r3 := hrest 3 (by decide)
        have r4 := hrest 4 (by decide)
        have r5 := hrest 5 (by decide)
        have r6 := hrest 6 (by decide)
        refine ⟨x11, rfl, ?_, S.freeze 7 (by decide), i61, fun j hj => .inr hj, r0.2, r1.2, ?_, ?_, ?_, ?_, r6.2⟩
        · show h11[hA.length]? = some (.row [.int .i64 m.pl, .int .i64 m.cl, vv 0, vv 7, vv 1, vv 2, vv 3, vv 4] true)
          rw [r0.1, r1.1, r2.1, r3.1, r4.1]
          exact g11
        · show RowsZ h11 _ (cs 2) []
          rw [r2.2]; exact RowsZ.nil _ _
        · show RowsZ h11 _ (cs 3) []
          rw [r3.2]; exact RowsZ.nil _ _
        · show RetsZ h11 _ (cs 4) []
          rw [r4.2]; exact RetsZ.nil _ _
        · show RowsZ h11 _ (cs 5) []
          rw [r5.2]; exact RowsZ.nil _ _
      generalize vv 7 = v61 at S0
      clear ih hrest c7 S g11 i61
      refine loopE_intro (fun mm e' h' => ∃ (t : Nat) (vv : Nat → Value) (cs : Nat → List Value) (Z : Nat → Prop) (a5 : List (List Int)) (a6 : List Int), t ≤ d ∧ mm = d - t ∧ e' 1 = .pointer (some ⟨h.length, 0, none⟩) ∧ e' 2 = .pointer (some ⟨h1.length, 0, none⟩) ∧ e' 4 = .slice (some ⟨N, 0, none⟩) m.pm.n m.pm.n ∧ e' 5 = vF ∧ e' 7 = .pointer (some ⟨hA.length, 0, none⟩) ∧ e' 9 = .int .i64 (t : Nat) ∧
          SmJ hA h' hA.length (.int .i64 m.pl, .int .i64 m.cl) vv v61 (m.En.map (cOf c)) vv cs Z (smOf m f t) (smFi m f t) (smIn m c f t) (smLow m c f t) (smRet m c d f t) a5 a6) d
        ⟨0, _, _, _, [], [], Nat.zero_le _, rfl, e1, e2, e4, e5, e7, rfl, S0⟩ ?_
      clear e1 e2 e4 e5 e7 e8 hmm q hi S0 gb11 m11 x11 eEn
      clear e mm J i vv cs h11
      rintro J mm e h15 ⟨t, vv, cs, Z, a5, a6, ht, hmm, e1, e2, e4, e5, e7, e9, S⟩ ih
      rw [e1, e5, e7, e9, e4]
      have lA : h.length < hA.length := lt_of_get gbA
      refine w_len (iF S.ex) (w_lss (c_dec (fun q => ?_) (fun q => ?_)))
      · have htd : t < d := by omega
        obtain ⟨fd, fst, fdn⟩ := hf t htd
        obtain ⟨li, hli⟩ := getElem?_of_lt (l := m.In) (i := f t) (by have := v.li; show f t < m.In.length; rw [this]; exact fdn)
        obtain ⟨lo, hlo⟩ := getElem?_of_lt (l := m.Low) (i := f t) (by have := v.ll; show f t < m.Low.length; rw [this]; exact fdn)
        obtain ⟨re, hre⟩ := getElem?_of_lt (l := m.Ret) (i := f t) (by have := v.lr; show f t < m.Ret.length; rw [this]; exact fdn)
        have eln := v.inEl fdn hli
        have ell := v.lowEl fdn hlo
        have elr := v.retEl fdn hre
        have eln1 := eln.1
        have ell1 := ell.1
        have elr1 := elr.1
        refine w_idxN eI_len (iF S.ex) fd fun z hz => w_rd1 hz rfl ?_
        clear hz
        obtain ⟨xr, lr, d0, d1⟩ := res2 h15
        have lT := S.lt
        have S1 := S.exx xr
        have nz : ∀ {h : AH} {vv : Nat → Value} {cs : Nat → List Value} {Z : Nat → Prop} {j : Nat}, SMs h hA.length vv cs Z → h.length ≤ j → ¬ Z j := fun s hj hz => by have := (s.z _ hz).2.1; omega
        refine w_offP (w_rdP S1.box rfl (w_offP (w_rdP (S1.ex.some gbA) (v := sv u.vo) rfl (w_idxN eI_len (mA.ex S1.ex).of (v.ofAt fdn) fun z hz => w_rd1 hz rfl ?_))))
        refine S1.app0 (r := h15.length) S.lt d0 (nz S.s (Nat.le_refl _)) (by unfold smOf; simp; omega) fun c1 j1 h16 v1 h17 b16 b17 l17 sl1 hd17 S2 => ?_
        clear hz
        have bb : ∀ j, j ≤ hA.length → h17[j]? = h16[j]? := fun j hj => (b17 j hj).trans (b16 j hj).symm
        refine w_offP ⟨ptr_id (bb _ (Nat.le_refl _)), ptr_id (b16 _ (Nat.le_refl _)), w_rdP S2.box rfl ?_⟩
        refine w_offP ⟨ptr_id (bb _ (by omega)), ptr_id (b16 _ (by omega)), w_rdP (S2.ex.some gbA) (v := sv u.vf) rfl ?_⟩
        refine w_idxN eBo_len mA.fi (v.fiAt fdn) fun z hz => ⟨idB hz fun j hj => (bb j (by omega)).symm, idB hz fun j hj => (b16 j (by omega)).symm, w_rd1 (hz.ex S2.ex) rfl ?_⟩
        refine S2.app1 (r := h15.length + 1) (by omega) (hd17 _ (by omega) d1) (nz S.s (by omega)) (by unfold smFi; simp; omega) fun c2 j2 h18 v2 h19 b18 b19 l19 sl2 hd19 S3 => ?_
        clear hz
        refine S3.st (f := 2) (b' := updV vv 0 v1) sl1 (by decide) rfl fun q1 h20 l20 k20 S4 => ?_
        refine S4.st (f := 4) (b' := updV (updV vv 0 v1) 1 v2) sl2 (by decide) rfl fun q2 h21 l21 k21 S5 => ?_
        clear S S1 S2 S3 S4 bb b16 b17 b18 b19 hd17 hd19 d0 d1 xr lr l17 l19 l20 l21 k20 k21
        obtain ⟨xr, lr, d0, d1⟩ := res2 h21
        have lT2 := S5.lt
        have S6 := S5.exx xr
        obtain ⟨vin, sin, rin⟩ := (mA.ex S6.ex).inn
        obtain ⟨win, hwin, iin⟩ := rin _ li hli
        refine w_offP (w_rdP S6.box rfl (w_offP (w_rdP (S6.ex.some gbA) (v := sv u.vi) rfl (idxV sin hwin fun z hz => w_rd1 hz rfl ?_))))
        refine classes44 (slC S6.ex) iin (by omega) (fun x hx => by have := eln.2 x hx; rw [lc']; exact this) fun w1 h22 x22 i22 on22 => ?_
        refine ⟨ptr_id (x22.get _ (by omega)), ?_⟩
        have S7 := S6.addZ x22 on22
        refine S7.app2 (r := h21.length) i22 (fun j hj => .inr hj) lT2 (x22.some d0) (fun hz => hz.elim (nz S5.s (Nat.le_refl _)) fun hh => by have := (on22 _ hh).1; rw [lr] at this; omega) (by unfold smIn; simp; omega) fun c4 j4 h23 v3 h24 b23 b24 l24 sl3 hd24 S8 => ?_
        clear hz
        have bb : ∀ j, j ≤ hA.length → h24[j]? = h23[j]? := fun j hj => (b24 j hj).trans (b23 j hj).symm
        have bx : ∀ j, j ≤ hA.length → h22[j]? = (reserve 2 h21)[j]? := fun j hj => x22.get _ (by omega)
        obtain ⟨vlo, slo, rlo⟩ := mA.low
        obtain ⟨wlo, hwlo, ilo⟩ := rlo _ lo hlo
        refine w_offP ⟨ptr_id (bb _ (Nat.le_refl _)), ptr_id (b23 _ (Nat.le_refl _)), ptr_id (bx _ (Nat.le_refl _)), w_rdP S8.box rfl ?_⟩
        refine w_offP ⟨ptr_id (bb _ (by omega)), ptr_id (b23 _ (by omega)), ptr_id (bx _ (by omega)), w_rdP (S8.ex.some gbA) (v := sv u.vl) rfl ?_⟩
        refine idxV slo hwlo fun z hz => ⟨idB hz fun j hj => (bb j (by omega)).symm, idB hz fun j hj => (b23 j (by omega)).symm, idB hz fun j hj => (bx j (by omega)).symm, w_rd1 (hz.ex S8.ex) rfl ?_⟩
        refine classes44 (slC S8.ex) (Sl.ex ilo S8.ex) (by omega) (fun x hx => by have := ell.2 x hx; rw [lc']; exact this) fun w2 h25 x25 i25 on25 => ?_
        refine ⟨ptr_id (x25.get _ S8.lt), ?_⟩
        have S9 := S8.addZ x25 on25
        have l2122 := x22.len
        refine S9.app3 (r := h21.length + 1) i25 (fun j hj => .inr hj) (by omega) (x25.some (hd24 _ (by omega) (x22.some d1))) (fun hz => hz.elim (fun hz => hz.elim (nz S5.s (by omega)) fun hh => by have := (on22 _ hh).1; rw [lr] at this; omega) fun hh => by have := (on25 _ hh).1; omega) (by unfold smLow; simp; omega) fun c5 j5 h26 v4 h27 b26 b27 l27 sl4 hd27 S10 => ?_
        clear hz
        refine S10.st (f := 5) (b' := updV (updV (updV vv 0 v1) 1 v2) 2 v3) sl3 (by decide) rfl fun q3 h28 l28 k28 S11 => ?_
        refine S11.st (f := 6) (b' := updV (updV (updV (updV vv 0 v1) 1 v2) 2 v3) 3 v4) sl4 (by decide) rfl fun q4 h29 l29 k29 S12 => ?_
        have t0 : smOf m f (t + 1) = smOf m f t ++ [m.pm.of (f t)] := range_succ _ t
        have t1 : smFi m f (t + 1) = smFi m f t ++ [m.pm.fi (f t)] := range_succ _ t
        have t2 : smIn m c f (t + 1) = smIn m c f t ++ [li.map (cOf c)] := by
          have : (m.In.getD (f t) []) = li := getD_of hli
          rw [← this]; exact range_succ _ t
        have t3 : smLow m c f (t + 1) = smLow m c f t ++ [lo.map (cOf c)] := by
          have : (m.Low.getD (f t) []) = lo := getD_of hlo
          rw [← this]; exact range_succ _ t
        have S13 := S12.reset5
        rw [← t0, ← t1, ← t2, ← t3] at S13
        have Sv : ∃ (bb : Nat → Value) (V : Nat → Value) (C : Nat → List Value) (Z' : Nat → Prop), V 5 = .slice none 0 0 ∧ (V 0 = bb 0 ∧ V 1 = bb 1 ∧ V 2 = bb 2 ∧ V 3 = bb 3 ∧ V 4 = bb 4) ∧ SmJ hA h29 hA.length (.int .i64 m.pl, .int .i64 m.cl) bb v61 (m.En.map (cOf c)) V C Z' (smOf m f (t + 1)) (smFi m f (t + 1)) (smIn m c f (t + 1)) (smLow m c f (t + 1)) (smRet m c d f t) [] a6 := ⟨updV (updV (updV (updV vv 0 v1) 1 v2) 2 v3) 3 v4, updV (updV (updV (updV (updV vv 0 v1) 1 v2) 2 v3) 3 v4) 5 (.slice none 0 0), _, _, rfl, ⟨rfl, rfl, rfl, rfl, rfl⟩, S13⟩
        clear S13 S12 S11 S10 S9 S8 S7 S6 S5 bb bx xr lr d0 d1 b23 b24 b26 b27 hd24 hd27 l24 l27 l28 l29 k28 k29 x22 x25 i22 i25 on22 on25 ilo hwlo rlo slo sin rin hwin iin lT lT2
        obtain ⟨bb, V, C, Z', V5, hV, S⟩ := Sv
        obtain ⟨vre, sre, rre⟩ := mA.ret
        obtain ⟨wre, hwre, vsr, svr, rvr⟩ := rre _ re hre
        refine loopE_intro (fun mm e' h' => ∃ (j : Nat) (vv : Nat → Value) (cs : Nat → List Value) (Z : Nat → Prop) (a6 : List Int), j ≤ re.length ∧ mm = re.length - j ∧ e' 1 = .pointer (some ⟨h.length, 0, none⟩) ∧ e' 2 = .pointer (some ⟨h1.length, 0, none⟩) ∧ e' 4 = .slice (some ⟨N, 0, none⟩) m.pm.n m.pm.n ∧ e' 5 = vF ∧ e' 7 = .pointer (some ⟨hA.length, 0, none⟩) ∧ e' 9 = .int .i64 (t : Nat) ∧
            e' 10 = .int .i64 (f t : Nat) ∧ e' 11 = vv 5 ∧ e' 12 = .int .i64 (j : Nat) ∧ (vv 0 = bb 0 ∧ vv 1 = bb 1 ∧ vv 2 = bb 2 ∧ vv 3 = bb 3 ∧ vv 4 = bb 4) ∧
            SmJ hA h' hA.length (.int .i64 m.pl, .int .i64 m.cl) bb v61 (m.En.map (cOf c)) vv cs Z (smOf m f (t + 1)) (smFi m f (t + 1)) (smIn m c f (t + 1)) (smLow m c f (t + 1)) (smRet m c d f t) ((re.take j).map fun l => smRow c f l d) a6) re.length
          ⟨0, V, C, Z', a6, Nat.zero_le _, rfl, e1, e2, e4, e5, e7, e9, rfl, V5.symm, rfl, hV, S⟩ ?_
        clear S hV V5
        clear e1 e2 e4 e5 e7 e9 q
        rintro J2 mm2 e2v h30 ⟨j, vv, cs, Z, a6, hj, hmm2, e1, e2, e4, e5, e7, e9, e10, e11, e12, hV, S⟩ ih2
        rw [e1, e10, e12, e7, e11, e9]
        refine w_offP (w_rdP (S.ex.some gbA) (v := sv u.vr) rfl (idxV (sre.ex S.ex) hwre fun z hz => w_rd1 hz rfl (w_len (svr.ex S.ex) (w_lss (c_dec (fun q2 => ?_) (fun q2 => ?_))))))
        · clear hz
          obtain ⟨l, hl⟩ := getElem?_of_lt (l := re) (i := j) (by omega)
          obtain ⟨w, hw, iw⟩ := rvr j l hl
          have ell2 := elr.2 l (List.mem_of_getElem? hl)
          refine loopE_intro (fun mm e' h' => ∃ (kk : Nat) (vv : Nat → Value) (cs : Nat → List Value) (Z : Nat → Prop), kk ≤ d ∧ mm = d - kk ∧ e' 1 = .pointer (some ⟨h.length, 0, none⟩) ∧ e' 2 = .pointer (some ⟨h1.length, 0, none⟩) ∧ e' 4 = .slice (some ⟨N, 0, none⟩) m.pm.n m.pm.n ∧ e' 5 = vF ∧ e' 7 = .pointer (some ⟨hA.length, 0, none⟩) ∧ e' 9 = .int .i64 (t : Nat) ∧
              e' 10 = .int .i64 (f t : Nat) ∧ e' 11 = vv 5 ∧ e' 12 = .int .i64 (j : Nat) ∧ e' 13 = vv 6 ∧ e' 14 = .int .i64 (kk : Nat) ∧ (vv 0 = bb 0 ∧ vv 1 = bb 1 ∧ vv 2 = bb 2 ∧ vv 3 = bb 3 ∧ vv 4 = bb 4) ∧
              SmJ hA h' hA.length (.int .i64 m.pl, .int .i64 m.cl) bb v61 (m.En.map (cOf c)) vv cs Z (smOf m f (t + 1)) (smFi m f (t + 1)) (smIn m c f (t + 1)) (smLow m c f (t + 1)) (smRet m c d f t) ((re.take j).map fun l => smRow c f l d) (smRow c f l kk)) d
            ⟨0, updV vv 6 (.slice none 0 0), _, _, Nat.zero_le _, rfl, e1, e2, e4, e5, e7, e9, e10, e11, e12, rfl, rfl, hV, S.reset6⟩ ?_
          clear e1 e2 e4 e5 e7 e9 e10 e11 e12 hV S
          rintro J3 mm3 e3v h31 ⟨kk, vv, cs, Z, hk, hmm3, e1, e2, e4, e5, e7, e9, e10, e11, e12, e13, e14, hV, S⟩ ih3
          rw [e5, e14, e1, e10, e12, e4, e13, e11]
          refine w_len (iF S.ex) (w_lss (c_dec (fun q3 => ?_) (fun q3 => ?_)))
          · obtain ⟨fk, _, fkn⟩ := hf kk (by omega)
            have xr := Ex.res h31
            have xA1 := S.ex.trans xr
            obtain ⟨tt, htt⟩ := getElem?_of_lt (l := l) (i := f kk) (by rw [ell2.1]; exact fkn)
            have tn := ell2.2 tt (List.mem_of_getElem? htt)
            obtain ⟨y, hy⟩ := getElem?_of_lt (l := c) (i := tt.toNat) (by omega)
            refine w_offP (w_rdP (xA1.some gbA) (v := sv u.vr) rfl (idxV (sre.ex xA1) hwre fun z1 hz1 => w_rd1 hz1 rfl (idxV (svr.ex xA1) hw fun z2 hz2 => w_rd1 hz2 rfl ?_)))
            refine w_idxN eI_len (iF xA1) fk fun z3 hz3 => w_rd1 hz3 rfl ?_
            refine w_idxN eI_len (Sl.ex iw xA1) htt fun z4 hz4 => w_rd1 hz4 rfl (w_idxT eI_len (slC xA1) tn.1 hy fun z5 hz5 => w_rd1 hz5 rfl ?_)
            refine S.app6 (by unfold smRow; simp; omega) fun c9 j9 v9 h32 S2 => ?_
            refine w_add (by omega) (by omega) ?_
            have er : smRow c f l (kk + 1) = smRow c f l kk ++ [y] := by
              have : cOf c (l.getD (f kk) 0) = y := by rw [getD_some htt]; exact getD_some hy
              rw [← this]; exact range_succ _ kk
            rw [← er] at S2
            exact ih3 (d - (kk + 1)) _ _ (by omega) ⟨kk + 1, updV vv 6 v9, _, _, by omega, rfl, e1, e2, e4, e5, e7, e9, e10, e11, e12, rfl, rfl, hV, S2⟩
          · have ek : kk = d := by omega
            subst ek
            refine S.app5 (by rw [List.length_map, List.length_take]; omega) fun c7 j7 v7 h35 Z7 V7 C7 u5 u0 u1 u2 u3 u4 S4 => ?_
            refine w_add (by omega) (by omega) ?_
            have er : (re.take (j + 1)).map (fun l => smRow c f l kk) = (re.take j).map (fun l => smRow c f l kk) ++ [smRow c f l kk] := by
              rw [take_succ_get hl, List.map_append]; rfl
            rw [← er] at S4
            exact ih2 (re.length - (j + 1)) _ _ (by omega) ⟨j + 1, V7, C7, Z7, [], by omega, rfl, e1, e2, e4, e5, e7, e9, e10, u5.symm, rfl, ⟨u0.trans hV.1, u1.trans hV.2.1, u2.trans hV.2.2.1, u3.trans hV.2.2.2.1, u4.trans hV.2.2.2.2⟩, S4⟩
        · have ej : re.take j = re := List.take_of_length_le (by omega)
          rw [ej] at S
          refine w_offP (w_rdP S.box rfl ?_)
          have e4v : bb 4 = vv 4 := hV.2.2.2.2.symm
          show optW (bldSl 1 _ 1 _) fun c_8 => newW none (.row c_8 true) h30 fun i_8 h_36 => appSl 1 (bb 4) _ h_36 _
          rw [e4v]
          refine S.app4 (by unfold smRet; simp; omega) fun c7 j7 v7 h35 Z7 V7 C7 u4 u0 u1 u2 u3 slv S4 => ?_
          refine S4.st (f := 7) (b' := V7) slv (by decide) ?_ fun q5 h36 l36 k36 S5 => ?_
          · show [_, _, bb 0, v61, bb 1, bb 2, bb 3, v7] = _
            rw [u0, u1, u2, u3, u4, hV.1, hV.2.1, hV.2.2.1, hV.2.2.2.1]
          refine w_add (by omega) (by omega) ?_
          have er : smRet m c d f (t + 1) = smRet m c d f t ++ [re.map fun l => smRow c f l d] := by
            have : (m.Ret.getD (f t) []) = re := getD_of hre
            rw [← this]; exact range_succ _ t
          rw [← er] at S5
          exact ih (d - (t + 1)) _ _ (by omega) ⟨t + 1, V7, C7, Z7, _, _, by omega, rfl, e1, e2, e4, e5, e7, rfl, S5⟩
      · have ed : t = d := by omega
        subst ed
        have l15 := S.lt
        rw [e2]
        have s0 := (S.s.sl.own 0 (by decide)).sl
        have s1 := (S.s.sl.own 1 (by decide)).sl
        have s2 := (S.s.sl.own 2 (by decide)).sl
        have s3 := (S.s.sl.own 3 (by decide)).sl
        have s4 := (S.s.sl.own 4 (by decide)).sl
        have z0 : (cs 0).length = t := by rw [S.c0, flat_eI_len]; unfold smOf; simp
        have z1 : (cs 1).length = t := by rw [S.c1, flat_eBo_len]; unfold smFi; simp
        have z2 : (cs 2).length = t := by rw [S.c2.1]; unfold smIn; simp
        have z3 : (cs 3).length = t := by rw [S.c3.1]; unfold smLow; simp
        have z4 : (cs 4).length = t := by rw [S.c4.1]; unfold smRet; simp
        rw [z0, S.c0] at s0
        rw [z1, S.c1] at s1
        rw [z2] at s2
        rw [z3] at s3
        rw [z4] at s4
        have gB := S.box
        have on0 : ∀ {i : Nat} {j : Nat}, i < 5 → onId (vv i) j → hA.length < j := fun hi hj => (S.s.sl.on (by omega) hj).1
        have on1 := fun (j : Nat) => on0 (i := 0) (j := j) (by decide)
        have on2 := fun (j : Nat) => on0 (i := 1) (j := j) (by decide)
        have on3 := fun (j : Nat) => on0 (i := 2) (j := j) (by decide)
        have on4 := fun (j : Nat) => on0 (i := 3) (j := j) (by decide)
        have on5 := fun (j : Nat) => on0 (i := 4) (j := j) (by decide)
        have zZ := fun (j : Nat) (hj : Z j) => (S.s.z j hj).1
        have en := S.en
        have ez := S.ez
        have xS := S.ex
        have c2 := S.c2
        have c3 := S.c3
        have c4 := S.c4
        generalize vv 0 = w0 at s0 gB on1
        generalize vv 1 = w1 at s1 gB on2
        generalize vv 2 = w2 at s2 gB on3
        generalize vv 3 = w3 at s3 gB on4
        generalize vv 4 = w4 at s4 gB on5
        obtain ⟨p0, q0, r0, rfl⟩ := Sl.isSl s0
        obtain ⟨p1, q1, r1, rfl⟩ := Sl.isSl s1
        obtain ⟨p2, q2, r2, rfl⟩ := Sl.isSl s2
        obtain ⟨p3, q3, r3, rfl⟩ := Sl.isSl s3
        obtain ⟨p4, q4, r4, rfl⟩ := Sl.isSl s4
        obtain ⟨a61, n61, c61, rfl⟩ := Sl.isSl en
        refine w_rdPA gB (Nat.le_refl 8) ?_
        have lR := lt_of_get gRA
        have gR := xS.some gRA
        refine w_stPA gR rfl (Nat.le_refl 8) rfl ?_
        let u' : MoV := ⟨(p0, q0, r0), (a61, n61, c61), (p1, q1, r1), (p2, q2, r2), (p3, q3, r3), (p4, q4, r4)⟩
        have lR15 := lt_of_get gR
        have gF : (h15.set h1.length (.row (spliceL z8 0 (cellsL (.agg ((List.drop 0 [Value.int .i64 m.pl, .int .i64 m.cl, .slice p0 q0 r0, .slice a61 n61 c61, .slice p1 q1 r1, .slice p2 q2 r2, .slice p3 q3 r3, .slice p4 q4 r4]).take 8).toArray))) true))[h1.length]? = some (.row (moRow u' (sm m c t f)) true) := get_set _ lR15 _
        have kn : ∀ j, hA.length < j → (h15.set h1.length (.row (spliceL z8 0 (cellsL (.agg ((List.drop 0 [Value.int .i64 m.pl, .int .i64 m.cl, .slice p0 q0 r0, .slice a61 n61 c61, .slice p1 q1 r1, .slice p2 q2 r2, .slice p3 q3 r3, .slice p4 q4 r4]).take 8).toArray))) true))[j]? = h15[j]? := fun j hj => get_ne (by omega) _
        have x0F : Ex h (h15.set h1.length (.row (spliceL z8 0 (cellsL (.agg ((List.drop 0 [Value.int .i64 m.pl, .int .i64 m.cl, .slice p0 q0 r0, .slice a61 n61 c61, .slice p1 q1 r1, .slice p2 q2 r2, .slice p3 q3 r3, .slice p4 q4 r4]).take 8).toArray))) true)) := (x0A.trans xS).set (by omega) _
        rw [res19]
        refine w_some (v := [.agg (moRow u' (sm m c t f)).toArray, .int .i64 0]) ?_ ?_
        · show Option.map (fun v => [v, Value.int .i64 0]) (rdRow true 8 (e 2) _) = _
          rw [e2]
          have e := hopt (o := rdRow true 8 (.pointer (some ⟨h1.length, 0, none⟩)) _) (w_rdPA gF (Nat.le_refl 8) rfl)
          rw [e]
          rfl
        · have ll : ∀ {α : Type} (g : Nat → α), ((List.range t).map g).length = t := fun g => by simp
          have kZ := fun (j : Nat) (hj : Z j) => kn j (zZ j hj)
          refine k _ u' c t f x0F Ca (fun d' hd' => (hf d' hd').2) ⟨?_, Sl.keepOn en fun j hj => kZ j (ez j hj), ?_, ?_, ?_, ?_, ?_, ?_, ?_, ?_, ?_⟩
          · show Sl 1 _ (.slice p0 q0 r0) (smOf m f t).length _
            rw [show (smOf m f t).length = t from ll _]
            exact s0.keepOn fun j hj => kn j (on1 j hj)
          · show Sl 1 _ (.slice p1 q1 r1) (smFi m f t).length _
            rw [show (smFi m f t).length = t from ll _]
            exact s1.keepOn fun j hj => kn j (on2 j hj)
          · exact (c2.to (fun _ h => h) kZ).rows (by rw [show (smIn m c f t).length = t from ll _]; exact s2.keepOn fun j hj => kn j (on3 j hj))
          · exact (c3.to (fun _ h => h) kZ).rows (by rw [show (smLow m c f t).length = t from ll _]; exact s3.keepOn fun j hj => kn j (on4 j hj))
          · exact (c4.to (fun _ h => h) kZ).rets (by rw [show (smRet m c t f t).length = t from ll _]; exact s4.keepOn fun j hj => kn j (on5 j hj))
          · show (smOf m f t).length ≤ 1000
            rw [show (smOf m f t).length = t from ll _]; omega
          · show (m.En.map (cOf c)).length ≤ 1000
            rw [List.length_map]
            omega
          · intro l hl
            obtain ⟨e', he, rfl⟩ := List.mem_map.1 hl
            rw [List.length_map]
            have := hf e' (List.mem_range.1 he)
            obtain ⟨li, hli⟩ := getElem?_of_lt (l := m.In) (i := f e') (by have h1 := v.li; show f e' < m.In.length; rw [h1]; exact this.2.2)
            rw [getD_of hli]
            have := (v.inEl this.2.2 hli).1; omega
          · intro l hl
            obtain ⟨e', he, rfl⟩ := List.mem_map.1 hl
            rw [List.length_map]
            have := hf e' (List.mem_range.1 he)
            obtain ⟨li, hli⟩ := getElem?_of_lt (l := m.Low) (i := f e') (by have h1 := v.ll; show f e' < m.Low.length; rw [h1]; exact this.2.2)
            rw [getD_of hli]
            have := (v.lowEl this.2.2 hli).1; omega
          · intro r hr
            obtain ⟨e', he, rfl⟩ := List.mem_map.1 hr
            have := hf e' (List.mem_range.1 he)
            obtain ⟨li, hli⟩ := getElem?_of_lt (l := m.Ret) (i := f e') (by have h1 := v.lr; show f e' < m.Ret.length; rw [h1]; exact this.2.2)
            rw [getD_of hli, List.length_map]
            refine ⟨by have := (v.retEl this.2.2 hli).1; omega, fun l hl => ?_⟩
            obtain ⟨l', _, rfl⟩ := List.mem_map.1 hl
            rw [show (smRow c f l' t).length = t from ll _]; omega
end Go.Proofs.Ytnpbehfhncbjfaa.W
end

section
/- FoldOwn's walk. Conditions: none. -/
namespace Go.Proofs.Ytnpbehfhncbjfaa.W
open Go Go.AM FoldPM
set_option linter.unusedVariables false
set_option maxRecDepth 100000
structure Scr (F : Nat → Prop) (h h' : AH) : Prop where
  len : h'.length = h.length
  off : ∀ j, ¬ F j → h'[j]? = h[j]?
  on : ∀ (j : Nat) (r : List Value), h[j]? = some (.row r true) → ∃ r', h'[j]? = some (.row r' true) ∧ r'.length = r.length
theorem Scr.refl (F : Nat → Prop) (h : AH) : Scr F h h := ⟨rfl, fun _ _ => rfl, fun j r g => ⟨r, g, rfl⟩⟩
theorem Scr.trans {F : Nat → Prop} {h h1 h2 : AH} (a : Scr F h h1) (b : Scr F h1 h2) : Scr F h h2 :=
  ⟨b.len.trans a.len, fun j hj => (b.off j hj).trans (a.off j hj), fun j r g => by
    obtain ⟨r1, g1, e1⟩ := a.on j r g
    obtain ⟨r2, g2, e2⟩ := b.on j r1 g1
    exact ⟨r2, g2, e2.trans e1⟩⟩
theorem Scr.ex {F : Nat → Prop} {h h' h'' : AH} (a : Scr F h' h'') (x : Ex h h') (hF : ∀ j, F j → h.length ≤ j) : Ex h h'' :=
  ⟨by rw [a.len]; exact x.len, fun j hj => (a.off j fun hf => by have := hF j hf; omega).trans (x.get j hj)⟩
theorem RowW.scr {F : Nat → Prop} {h h' : AH} {v : Value} (r : RowW h v) (s : Scr F h h') : RowW h' v := by
  rcases r with e | ⟨id, n, cap, row, rfl, g, hn⟩
  · exact .inl e
  · obtain ⟨r', g', e⟩ := s.on id row g
    exact .inr ⟨id, n, cap, r', rfl, g', by omega⟩
theorem scrib {F : Nat → Prop} {h0 h : AH} {a : Option Addr} {n c i : Nat} {x : Int} {K : Value → AH → Prop} (s : Scr F h0 h) (r : RowW h (.slice a n c)) (hi : i < n) (hF : ∀ j, onId (.slice a n c) j → F j) (k : ∀ p h', Scr F h0 h' → K p h') :
    optW (pIdxS 1 (.slice a n c) (.int .i64 (i : Nat))) fun p => optW (pStore 1 p (.int .i64 x) h) fun h' => K p h' := by
  rcases r with e | ⟨id, n', cap, row, e, g, hn⟩
  · injection e with e1 e2 e3
    omega
  · injection e with e1 e2 e3
    subst e1 e2 e3
    refine w_some (v := .pointer (some ⟨id, i, none⟩)) ?_ (w_stP g (by omega) rfl rfl (k _ _ (s.trans ⟨by simp, fun j hj => get_ne (fun e => hj (hF j e)) _, fun j r' g' => ?_⟩)))
    · unfold pIdxS
      dsimp only
      rw [if_pos ⟨by omega, by omega⟩]
      have : 0 + ((i : Nat) : Int).toNat * 1 = i := by omega
      rw [this]
    · by_cases e : j = id
      · subst e
        rw [g] at g'
        cases g'
        exact ⟨_, get_set _ (lt_of_get g) _, by simp⟩
      · exact ⟨r', (get_ne (Ne.symm e) _).trans g', rfl⟩
theorem RowW.lt {h : AH} {v : Value} {j : Nat} (r : RowW h v) (hj : onId v j) : j < h.length := by
  rcases r with e | ⟨id, n, cap, row, rfl, g, hn⟩
  · subst e; exact hj.elim
  · have : id = j := hj
    subst this
    exact lt_of_get g
theorem OwnG.rowW {F : Nat → Prop} {h : AH} {v : Value} {n : Nat} {cs : List Value} (o : OwnG 1 F h v n cs) : RowW h v ∧ ∀ j, onId v j → F j := by
  obtain ⟨_, ⟨rfl, _⟩ | ⟨id, c, hf, rfl, g, hn, _⟩⟩ := o
  · exact ⟨.inl rfl, fun j hj => hj.elim⟩
  · exact ⟨.inr ⟨id, n, _, c, rfl, g, by omega⟩, fun j hj => by have : id = j := hj; subst this; exact hf⟩
set_option maxHeartbeats 1600000 in
theorem own12f {h : AH} {a0 : Int} {v1 : Value} {ns : List Int} (hns : Ints h v1 ns) (hm : h.length = 1) : callW Try.prog 12 [.int .i64 a0, v1] h fun v _ => v = .bool true := by
  refine c12 ?_
  unfold s12
  refine known13 (.inl hm) fun h1 x1 => w_notb (c_f ?_)
  refine make14m (Sl.ex hns x1) fun h2 u m o x2 mo v im => ?_
  refine make14m (Sl.ex hns (x1.trans x2)) fun h3 u' m' o' x3 mo' v' im' => ?_
  obtain rfl : m = m' := im.uniq im'
  refine n_rowv fun h4 x4 l4 g4 => ?_
  refine n_rowv fun h5 x5 l5 g5 => ?_
  have lt4 := lt_of_get g4
  have lt5 := lt_of_get g5
  refine stM (x5.some g4) rfl (stM ((get_ne (by omega) _).trans g5) rfl ?_)
  have x37 : Ex h3 ((h5.set h3.length (.row (moRow u m) true)).set h4.length (.row (moRow u' m) true)) := ((x4.trans x5).set (Nat.le_refl _) _).set (by omega) _
  have ga : ((h5.set h3.length (.row (moRow u m) true)).set h4.length (.row (moRow u' m) true))[h3.length]? = some (.row (moRow u m) true) := (get_ne (by omega) _).trans (get_set _ (by omega) _)
  have gb : ((h5.set h3.length (.row (moRow u m) true)).set h4.length (.row (moRow u' m) true))[h4.length]? = some (.row (moRow u' m) true) := get_set _ (by rw [List.length_set]; omega) _
  generalize (h5.set h3.length (.row (moRow u m) true)).set h4.length (.row (moRow u' m) true) = h7 at x37 ga gb ⊢
  have mh : MoH h7 u m := (mo.toH fun _ _ => rfl).ex (x3.trans x37)
  have mh' : MoH h7 u' m := (mo'.toH fun _ _ => rfl).ex x37
  refine w_rdPA ga (Nat.le_refl 8) ?_
  refine small18W mh v fun h8 us c cnt f x8 Ca hf ms sw => ?_
  refine w_some (v := .agg (moRow us (sm m c cnt f)).toArray) rfl (w_some (v := .int .i64 0) rfl ?_)
  generalize hs : sm m c cnt f = s at ms sw ⊢
  obtain ⟨wo, ido, idi, vals, sv1, rows⟩ := sw
  refine n_rowv fun h9 x9 l9 g9 => stM g9 rfl ?_
  have g10 : (h9.set h8.length (.row (moRow us s) true))[h8.length]? = some (.row (moRow us s) true) := get_set _ (lt_of_get g9) _
  have x10 : Ex h8 (h9.set h8.length (.row (moRow us s) true)) := x9.set (Nat.le_refl _) _
  generalize h9.set h8.length (.row (moRow us s) true) = h10 at g10 x10 ⊢
  let F : Nat → Prop := fun j => onId (sv us.vo) j ∨ ∃ (i : Nat) (w : Value), vals[i]? = some w ∧ onId w j
  have lv : vals.length = s.In.length := by have := sv1.1; omega
  have hF : ∀ j, F j → h7.length ≤ j ∧ j < h8.length ∧ ¬ onId (sv us.vi) j := by
    rintro j (hj | ⟨i, w, hw, hj⟩)
    · exact ⟨ido j hj, wo.lt hj, fun hh => (idi j hh).2 hj⟩
    · have hi := (List.getElem?_eq_some_iff.1 hw).1
      obtain ⟨l, hl⟩ := getElem?_of_lt (l := s.In) (i := i) (by omega)
      obtain ⟨w', w1, w2, w3, w4⟩ := rows i l hl
      rw [hw] at w1
      cases w1
      exact ⟨(w4 j hj).1, w3.lt hj, (w4 j hj).2⟩
  have x710 := x8.trans x10
  have wo10 : RowW h10 (sv us.vo) := wo.keep fun j hj => x10.get j (wo.lt hj)
  have lOf : us.vo.2.1 = s.Of.length := by
    obtain ⟨a, d, e⟩ := ms.of.shape
    exact (Value.slice.inj e).2.1
  have lIn : us.vi.2.1 = s.In.length := by
    obtain ⟨a, d, e⟩ := sv1.shape
    exact (Value.slice.inj e).2.1
  have sv10 : ∀ {h' : AH}, Scr F h10 h' → Sl 1 h' (sv us.vi) s.In.length vals := fun {h'} y => (sv1.ex x10).keepOn fun j hj => y.off j fun hf => (hF j hf).2.2 hj
  have box : ∀ {h' : AH}, Scr F h10 h' → h'[h8.length]? = some (.row (moRow us s) true) := fun {h'} y => (y.off _ fun hf => by have := (hF _ hf).2.1; omega).trans g10
  have exm : ∀ {h' : AH}, Scr F h10 h' → Ex h7 h' := fun {h'} y => y.ex x710 fun j hj => (hF j hj).1
  have cn := Ca.le
  have n2 := v.n2
  have hnn : m.pm.n = m.Of.length := rfl
  have sO : s.Of.length = cnt := by rw [← hs]; show (smOf m f cnt).length = cnt; unfold smOf; simp
  have sI : s.In.length = cnt := by rw [← hs]; show (smIn m c f cnt).length = cnt; unfold smIn; simp
  refine loopE_intro (fun mm e h' => ∃ i : Nat, i ≤ s.Of.length ∧ mm = s.Of.length - i ∧ e 5 = .pointer (some ⟨h3.length, 0, none⟩) ∧ e 6 = .pointer (some ⟨h4.length, 0, none⟩) ∧ e 7 = .pointer (some ⟨h8.length, 0, none⟩) ∧ e 9 = .int .i64 (i : Nat) ∧ Scr F h10 h') s.Of.length
    ⟨0, Nat.zero_le _, rfl, rfl, rfl, rfl, rfl, Scr.refl _ _⟩ ?_
  rintro J mm e h11 ⟨i, hi, hmm, e5, e6, e7, e9, y⟩ ih
  rw [e7, e9]
  refine w_offP (w_rdP (box y) (v := sv us.vo) rfl (w_lenSl ?_))
  rw [lOf]
  refine w_lss (c_dec (fun q => ?_) (fun q => ?_))
  · refine w_offP (w_rdP (box y) (v := sv us.vo) rfl (scrib y (wo10.scr y) (by rw [lOf]; omega) (fun j hj => .inl hj) fun p h12 y2 => ?_))
    refine w_add (by omega) (by omega) ?_
    exact ih (s.Of.length - (i + 1)) _ _ (by omega) ⟨i + 1, by omega, rfl, e5, e6, e7, rfl, y2⟩
  clear ih
  refine loopE_intro (fun mm e h' => ∃ i : Nat, i ≤ s.In.length ∧ mm = s.In.length - i ∧ e 5 = .pointer (some ⟨h3.length, 0, none⟩) ∧ e 6 = .pointer (some ⟨h4.length, 0, none⟩) ∧ e 7 = .pointer (some ⟨h8.length, 0, none⟩) ∧ e 10 = .int .i64 (i : Nat) ∧ Scr F h10 h') s.In.length
    ⟨0, Nat.zero_le _, rfl, e5, e6, e7, rfl, y⟩ ?_
  clear e5 e6 e7 e9 y hmm q hi
  clear e mm J i h11
  rintro J mm e h13 ⟨i, hi, hmm, e5, e6, e7, e10, y⟩ ih
  rw [e5, e7, e10]
  refine w_offP (w_rdP (box y) (v := sv us.vi) rfl (w_lenSl ?_))
  rw [lIn]
  refine w_lss (c_dec (fun q => ?_) (fun q => ?_))
  · obtain ⟨l, hl⟩ := getElem?_of_lt (l := s.In) (i := i) (by omega)
    obtain ⟨w, w1, w2, w3, w4⟩ := rows i l hl
    obtain ⟨aw, cw, rfl⟩ := w2.shape
    have w310 : RowW h10 (.slice aw l.length cw) := w3.keep fun j hj => x10.get j (w3.lt hj)
    have szl := ms.szI l (List.mem_of_getElem? hl)
    refine loopE_intro (fun mm e h' => ∃ k : Nat, k ≤ l.length ∧ mm = l.length - k ∧ e 5 = .pointer (some ⟨h3.length, 0, none⟩) ∧ e 6 = .pointer (some ⟨h4.length, 0, none⟩) ∧ e 7 = .pointer (some ⟨h8.length, 0, none⟩) ∧ e 10 = .int .i64 (i : Nat) ∧ e 11 = .int .i64 (k : Nat) ∧ Scr F h10 h') l.length
      ⟨0, Nat.zero_le _, rfl, e5, e6, e7, e10, rfl, y⟩ ?_
    clear e5 e6 e7 e10 y
    rintro J2 mm2 e2 h14 ⟨k, hk, hmm2, e5, e6, e7, e10, e11, y⟩ ih2
    rw [e7, e10, e11]
    refine w_offP (w_rdP (box y) (v := sv us.vi) rfl (idxV (sv10 y) w1 fun z hz => w_rd1 hz rfl (w_lenSl (w_lss (c_dec (fun q2 => ?_) (fun q2 => ?_))))))
    · refine w_offP (w_rdP (box y) (v := sv us.vi) rfl (idxV (sv10 y) w1 fun z hz => w_rd1 hz rfl (scrib y (w310.scr y) (by omega) (fun j hj => .inr ⟨i, _, w1, hj⟩) fun p h15 y2 => ?_)))
      refine w_add (by omega) (by omega) ?_
      exact ih2 (l.length - (k + 1)) _ _ (by omega) ⟨k + 1, by omega, rfl, e5, e6, e7, e10, rfl, y2⟩
    · refine w_add (by omega) (by omega) ?_
      exact ih (s.In.length - (i + 1)) _ _ (by omega) ⟨i + 1, by omega, rfl, e5, e6, e7, rfl, y⟩
  clear ih
  have x13 := exm y
  refine w_rdPA (x13.some ga) (Nat.le_refl 8) ?_
  refine classes24 (mh.ex x13) (fun nv => absurd v nv) fun _ h16 vc cc cnt2 x16 oc Ca2 => ?_
  obtain ⟨wc, fc⟩ := OwnG.rowW oc
  have sc := oc.sl.shape
  obtain ⟨ac, capc, rfl⟩ := sc
  have c2 : cc.length ≤ 60 := by have := Ca2.len; omega
  refine loopE_intro (fun mm e h' => ∃ i : Nat, i ≤ cc.length ∧ mm = cc.length - i ∧ e 5 = .pointer (some ⟨h3.length, 0, none⟩) ∧ e 6 = .pointer (some ⟨h4.length, 0, none⟩) ∧ e 12 = .slice ac cc.length capc ∧ e 13 = .int .i64 (i : Nat) ∧ Scr (fun j => h13.length ≤ j) h16 h') cc.length
    ⟨0, Nat.zero_le _, rfl, e5, e6, rfl, rfl, Scr.refl _ _⟩ ?_
  clear e5 e6 e7 e10 hmm q hi
  clear e mm J i
  rintro J mm e h17 ⟨i, hi, hmm, e5, e6, e12, e13, y2⟩ ih
  rw [e5, e6, e12, e13]
  refine w_lenSl (w_lss (c_dec (fun q => ?_) (fun q => ?_)))
  · refine scrib y2 (wc.scr y2) (by omega) fc fun p h18 y3 => ?_
    refine w_add (by omega) (by omega) ?_
    exact ih (cc.length - (i + 1)) _ _ (by omega) ⟨i + 1, by omega, rfl, e5, e6, e12, rfl, y3⟩
  clear ih
  have x1317 : Ex h13 h17 := y2.ex x16 fun _ h => h
  have x17 := x13.trans x1317
  refine w_rdPA (x17.some ga) (Nat.le_refl 8) ?_
  refine small18 (mh.ex x17) v fun h19 ut c' cnt' f' x19 Ca' hf' mt => ?_
  refine w_some (v := .agg (moRow ut (sm m c' cnt' f')).toArray) rfl (w_some (v := .int .i64 0) rfl ?_)
  refine n_rowv fun h20 x20 l20 g20 => stM g20 rfl ?_
  have g21 : (h20.set h19.length (.row (moRow ut (sm m c' cnt' f')) true))[h19.length]? = some (.row (moRow ut (sm m c' cnt' f')) true) := get_set _ (lt_of_get g20) _
  have x21 : Ex h19 (h20.set h19.length (.row (moRow ut (sm m c' cnt' f')) true)) := x20.set (Nat.le_refl _) _
  generalize h20.set h19.length (.row (moRow ut (sm m c' cnt' f')) true) = h21 at g21 x21 ⊢
  have x721 := x17.trans (x19.trans x21)
  refine w_rdPA (x721.some gb) (Nat.le_refl 8) ?_
  refine small19 (mh'.ex x721) v fun h22 uu c'' cnt'' f'' x22 Ca'' hf'' mu => ?_
  obtain ⟨ec, en⟩ := Ca''.uniq Ca'
  have es : sm m c'' cnt'' f'' = sm m c' cnt' f' := by
    subst ec
    subst en
    exact sm_congr fun d hd => (hf'' d hd).1.uniq (hf' d hd).1
  have cn' := Ca'.le
  rw [es] at mu ⊢
  have kI : (sm m c' cnt' f').In.length = cnt' := by show (smIn m c' f' cnt').length = _; unfold smIn; simp
  have kL : (sm m c' cnt' f').Low.length = cnt' := by show (smLow m c' f' cnt').length = _; unfold smLow; simp
  have kR : (sm m c' cnt' f').Ret.length = cnt' := by show (smRet m c' cnt' f' cnt').length = _; unfold smRet; simp
  have kF : (sm m c' cnt' f').Fi.length = cnt' := by show (smFi m f' cnt').length = _; unfold smFi; simp
  generalize sm m c' cnt' f' = t at mt mu g21 kI kL kR kF ⊢
  refine w_some (v := .agg (moRow uu t).toArray) rfl (w_some (v := .int .i64 0) rfl ?_)
  refine n_rowv fun h23 x23 l23 g23 => stM g23 rfl ?_
  have g24 : (h23.set h22.length (.row (moRow uu t) true))[h22.length]? = some (.row (moRow uu t) true) := get_set _ (lt_of_get g23) _
  have x24 : Ex h22 (h23.set h22.length (.row (moRow uu t) true)) := x23.set (Nat.le_refl _) _
  generalize h23.set h22.length (.row (moRow uu t) true) = h24 at g24 x24 ⊢
  have x2124 := x22.trans x24
  have x724 := x721.trans x2124
  have li := v.li
  have ll := v.ll
  have lr := v.lr
  have lf := v.lf
  refine w_rdPA (x724.some ga) (Nat.le_refl 8) (w_rdPA (x724.some gb) (Nat.le_refl 8) ?_)
  refine same26 (mh.ex x724) (mh'.ex x724) (by omega) (by omega) (by omega) (by omega) fun h25 x25 => ?_
  refine gc_tt (gc_tt (gc_tt (w_eql (pk_t ?_))))
  have y0 : (0 : Int) = 0 := rfl
  refine g_tt y0 (w_rdPA (x25.some (x2124.some g21)) (Nat.le_refl 8) (g_tt y0 (w_rdPA (x25.some g24) (Nat.le_refl 8) (g_tt y0 ?_))))
  exact same26 (mt.ex (x21.trans (x2124.trans x25))) (mu.ex (x24.trans x25)) (by omega) (by omega) (by omega) (by omega) fun h26 x26 => pk_tt y0 rfl
theorem foldOwn_walk (h : AH) (a0 : Int) (_ : I64 a0) (v1 : Value) (ns : List Int) (i1 : Ints h v1 ns) (_ : ∀ n ∈ ns, I64 n) (hm : h.length = 1) : callW Try.prog 12 [.int .i64 a0, v1] h fun v _ => v = .bool true := own12f i1 hm
end Go.Proofs.Ytnpbehfhncbjfaa.W
end
