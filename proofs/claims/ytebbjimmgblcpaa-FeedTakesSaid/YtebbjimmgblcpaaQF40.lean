/- The document's Takes of a machine of numbers: the walk. Conditions: none. -/
import Derived.Test.YtebbjimmgblcpaaQF39
namespace Go.Proofs.Ytebbjimmgblcpaa.W
open Go Go.AM FeedM
set_option linter.unusedVariables false
set_option maxRecDepth 100000

/-- all pairs are of states. -/
def InR (m : Mach) (R : Row) : Prop := ∀ p q : Int, R (p, q) → (0 ≤ p ∧ p < m.n) ∧ (0 ≤ q ∧ q < m.n)
theorem mrun_in {l : List Sy} {m : Mach} {b : Nat} (ok : MkOK l m b) : ∀ w, InR m (mrun m l w).1.row ∧ ∀ v ∈ (mrun m l w).2, InR m v.row := by
  refine snoc_ind ?_ ?_
  · refine ⟨?_, fun v hv => by cases hv⟩
    rintro p q ⟨h1, h2⟩
    have h1 : p = q := h1
    have := ok.init p h2
    exact ⟨this, h1 ▸ this⟩
  · intro w k ⟨ih1, ih2⟩
    rw [mrun_snoc]
    unfold mstep
    split
    · refine ⟨?_, fun v hv => ?_⟩
      · rintro p q ⟨h1, p', hp', o, ho, h2, h3, h4⟩
        have h1 : p = q := h1
        have h4 : o.2.2.1 = p := h4
        have := (ok.opens o ho).2.2.1
        rw [h4] at this
        exact ⟨this, h1 ▸ this⟩
      · rcases List.mem_append.1 hv with hv | hv
        · exact ih2 v hv
        · rw [List.mem_singleton.1 hv]; exact ih1
    split
    · split
      · refine ⟨?_, ih2⟩
        rintro p q ⟨b, hb, c, hc, h1, h2, h3, h4⟩
        have h4 : c.2.2.2 = q := h4
        have := (ok.closes c hc).2.2.1
        rw [h4] at this
        exact ⟨(ih1 _ _ hb).1, this⟩
      · rename_i u hu
        have hum : u ∈ (mrun m l w).2 := List.mem_of_getLast? hu
        refine ⟨?_, fun v hv => ih2 v (List.dropLast_subset _ hv)⟩
        rintro p q ⟨b, hb, o, ho, h1, h2, c, hc, h3, h4, h5, h6⟩
        have h6 : c.2.2.2 = q := h6
        have := (ok.closes c hc).2.2.1
        rw [h6] at this
        exact ⟨(ih2 u hum _ _ hb).1, this⟩
    · refine ⟨?_, ih2⟩
      rintro p q ⟨b, hb, o, ho, h1, h2, h3⟩
      have h3 : o.2.2 = q := h3
      have := (ok.inners o ho).2.2
      rw [h3] at this
      exact ⟨(ih1 _ _ hb).1, this⟩

theorem gopf {f : (Value → AH → HT → ST → Prop) → Prop} {h : AH} {H : HT} {S : ST} {K : Value → AH → HT → ST → Prop} (k : K undef h H S) : gopD (gB (.bool false) true) f h H S K := k
def EvT (v0 vw vu : Value) (pm pn : Nat) (n : Int) (i : Int) (e : Env) : Prop := e 0 = v0 ∧ e 2 = vw ∧ e 4 = .pointer (some ⟨pm, 0, none⟩) ∧ e 7 = .int .i64 n ∧ e 8 = .pointer (some ⟨pn, 0, none⟩) ∧ e 10 = vu ∧ e 11 = .int .i64 i

def TgO (n : Int) (R : Row) (z : Int) (o : Int × Int × Int × Int) (q : Int × Int) : Prop := o.2.1 = z ∧ ∃ p, (0 ≤ p ∧ p < n) ∧ R (p, o.1) ∧ q = (o.2.2.1, o.2.2.1)
def TgC (n : Int) (R : Row) (z : Int) (o : Int × Int × Int × Int) (q : Int × Int) : Prop := (o.2.1 = z ∧ o.2.2.1 = 0) ∧ ∃ p, (0 ≤ p ∧ p < n) ∧ R (p, o.1) ∧ q = (p, o.2.2.2)
def TgI (n : Int) (R : Row) (z : Int) (o : Int × Int × Int) (q : Int × Int) : Prop := o.2.1 = z ∧ ∃ p, (0 ≤ p ∧ p < n) ∧ R (p, o.1) ∧ q = (p, o.2.2)

theorem takes27 {h : AH} {v0 vm vw : Value} {l : List Sy} {m : Mach} {w : List Int} {K : Value → AH → Prop} (hl : Syms h v0 l) (bl : l.length ≤ 1000) (mv : MV h vm m) (ok : MkOK l m 25) (hw : Ints h vw w) (hin : ∀ k ∈ w, 0 ≤ k ∧ k < (l.length : Nat)) (hn : w.length ≤ 10000)
    (k : ∀ h' b, Ex h h' → (b = true ↔ ∃ p q, (mrun m l w).1.row (p, q) ∧ q ∈ m.final) → K (.bool b) h') : callW Try.prog 27 [v0, vm, vw] h K := by
  have r40 : (10000000 : Nat) < room40 := big40
  have hN : N3 m.n := ok.n
  have hN1 := hN.1
  have hN2 := hN.2
  have hC := ok.cnt
  have nb := nn_b hN
  refine c27 ?_
  unfold s27
  refine boxM mv fun h1 vi vf vo vc vn x1 l1 b1 => ?_
  have n1 : ¬ m.n < 1 := by omega
  have n2 : ¬ 200 < m.n := by omega
  refine w_offP (w_rdP b1.row (v := .int .i64 m.n) rfl (w_lss ?_))
  refine g_ff n1 (g_ff n1 (w_gtr (pk_ff n1 ?_)))
  refine g_ff n2 (b1.rd fun v33 mv33 => g_ff n2 (inside52 mv33 ok fun h2 x2 => g_ff n2 (w_notb (pk_ff n2 (c_f ?_)))))
  refine w_mul (by omega) (by omega) (w_mkB hN ?_)
  refine n_newv fun h3 x3 l3 g3 => ?_
  refine w_some (v := .agg (lvC h2.length m.n 0).toArray) rfl ?_
  refine n_rowv (c := [(.slice none 0 0), (.int .i64 0)]) fun h4 x4 l4 g4 => ?_
  refine w_stPA g4 rfl (Nat.le_refl 2) rfl ?_
  have hb4 := lt_of_get g4
  have b2 := b1.ex x2
  have hl2 := hl.ex (x1.trans x2)
  have hw2 := hw.ex (x1.trans x2)
  have x12 := x1.trans x2
  have x5 : ∀ o, Ex h2 (h4.set h3.length o) := fun o => (x3.trans x4).set (by omega) o
  have r5 : ∀ o, RowAt (h4.set h3.length o) h2.length m.n (fun _ => False) := fun o => (RowAt.zero g3).keep ((get_ne (by omega) _).trans (x4.get _ (by omega)))
  have g5 : ∀ o, (h4.set h3.length o)[h3.length]? = some o := fun o => get_set _ hb4 o
  have l5 : ∀ o, (h4.set h3.length o).length = h3.length + 1 := fun o => by simp [l4]
  refine loopE_intro (fun mm e h' => ∃ i : Nat, i ≤ m.init.length ∧ mm = m.init.length - i ∧ e 0 = v0 ∧ e 2 = vw ∧ e 4 = .pointer (some ⟨h.length, 0, none⟩) ∧ e 7 = .int .i64 m.n ∧ e 8 = .pointer (some ⟨h3.length, 0, none⟩) ∧ e 9 = .int .i64 i ∧
    Ex h2 h' ∧ h3.length < h'.length ∧ h'[h3.length]? = some (.row (lvC h2.length m.n 0) true) ∧ RowAt h' h2.length m.n (fun q => ∃ p ∈ m.init.take i, q = (p, p))) m.init.length
    ⟨0, Nat.zero_le _, rfl, rfl, rfl, rfl, rfl, rfl, rfl, x5 _, (by rw [l5]; omega), g5 _, (r5 _).imp fun p q _ _ => ⟨False.elim, fun ⟨o, ho, _⟩ => by cases ho⟩⟩ ?_
  rintro I mm e h' ⟨i, hi, hmm, e0, e2, e4', e7, e8, e9, hx, hlen, gn, ra⟩ hI
  rw [e4', e7, e8, e9]
  have b5 := b2.ex hx
  refine w_offP (w_rdP b5.row (v := vi) rfl (w_len b5.i (w_lss (c_dec (fun p1 => ?_) (fun p1 => ?_)))))
  · obtain ⟨p, hp⟩ := getElem?_of_lt (l := m.init) (i := i) (by omega)
    have hpi := ok.init p (List.mem_of_getElem? hp)
    have pb := pn_b hN hpi
    have pi := pq_in hN hpi hpi
    refine w_offP (w_rdP gn (v := slB h2.length m.n) rfl ?_)
    refine w_offP (w_rdP b5.row (v := vi) rfl (w_idxN eI_len b5.i hp fun q hq => w_rd1 hq rfl (w_mul (by omega) (by omega) ?_)))
    refine w_offP (w_rdP b5.row (v := vi) rfl (w_idxN eI_len b5.i hp fun q hq => w_rd1 hq rfl (w_add (by omega) (by omega) ?_)))
    refine w_idxP pi.1 pi.2 (ra.put hN hpi hpi fun hZ y1 y2 y3 => w_add (by omega) (by omega) ?_)
    refine hI (mm - 1) _ _ (by omega) ⟨i + 1, by omega, by omega, e0, e2, e4', e7, e8, rfl, Exx.base hx y1 (Nat.le_refl _), by omega, y1.some gn (by omega), y3.imp fun a b _ _ => ?_⟩
    rw [ex_take hp]
  have hie : i = m.init.length := by omega
  rw [hie, List.take_length] at ra
  have ra : RowAt h' h2.length m.n (FeedM.begin m).row := ra.imp fun p q _ _ => ⟨fun ⟨a, ha, he⟩ => by
    have e1 : p = a := congrArg Prod.fst he
    have e2 : q = a := congrArg Prod.snd he
    exact ⟨by rw [e1, e2], by rw [e1]; exact ha⟩, fun ⟨h1, h2⟩ => ⟨p, h2, Prod.ext rfl (show q = p from (show p = q from h1).symm)⟩⟩
  clear hI hie p1
  refine loopE_intro (fun mm e h' => ∃ (i : Nat) (vu : Value) (i0 : Nat), i ≤ w.length ∧ mm = w.length - i ∧ EvT v0 vw vu h.length h3.length m.n i e ∧ Ex h2 h' ∧ h3.length < h'.length ∧
    h'[h3.length]? = some (.row (lvC i0 m.n (mrun m l (w.take i)).1.bys) true) ∧ RowAt h' i0 m.n (mrun m l (w.take i)).1.row ∧ i0 ≠ h3.length ∧ ¬ onId vu i0 ∧ TkU h' h3.length m.n vu (mrun m l (w.take i)).2 h'.length) w.length
    ⟨0, .slice none 0 0, h2.length, Nat.zero_le _, rfl, ⟨e0, e2, e4', e7, e8, rfl, rfl⟩, hx, hlen, gn, ra, by omega, fun h => h, TkU.nil _ _ _ _⟩ ?_
  clear ra gn hx e0 e2 e4' e7 e8 e9 hmm hi b5 hlen
  rintro I mm e h' ⟨i, vu, i0, hi, hmm, ⟨e0, e2, e4', e7, e8, e10, e11⟩, hx, hlen, gn, ra, hne, hnu, tu⟩ hI
  rw [e0, e2, e4', e7, e8, e10, e11]
  generalize hpn : h3.length = pn at *
  have hpn2 : h2.length ≤ pn := by omega
  refine w_len (hw2.ex hx) (w_lss (c_dec (fun p1 => ?_) (fun p1 => ?_)))
  · obtain ⟨z, hz⟩ := getElem?_of_lt (l := w) (i := i) (by omega)
    obtain ⟨z0, z1⟩ := hin z (List.mem_of_getElem? hz)
    obtain ⟨x, hxx⟩ := getElem?_of_lt (l := l) (i := z.toNat) (by omega)
    have hkz : kindAt l z.toNat = x.2 := by unfold kindAt; rw [hxx]
    have hms := mrun_snoc m l (w.take i) z
    rw [← take_succ_get hz] at hms
    have inr := (mrun_in ok (w.take i)).1
    have inu := (mrun_in ok (w.take i)).2
    have lenU : (mrun m l (w.take i)).2.length ≤ 10000 := by
      rw [mrun_len]
      have := opn_le l (w.take i)
      rw [List.length_take] at this
      omega
    generalize mrun m l (w.take i) = st at *
    have n3' : ¬ z < 0 := by omega
    have n4 : ¬ ((l.length : Nat) : Int) ≤ z := by omega
    refine w_idxN eI_len (hw2.ex hx) hz fun q hq => w_rd1 hq rfl (w_lss ?_)
    refine g_ff n3' (g_ff n3' (g_ff n3' ?_))
    refine w_idxN eI_len (hw2.ex hx) hz fun q hq => ?_
    refine g_ff n3' (w_rd1 hq rfl (g_ff n3' (g_ff n3' (w_len (hl2.ex hx) (g_ff n3' (w_geq (pk_ff n3' (c_ff n4 ?_))))))))
    refine w_mul (by omega) (by omega) ?_
    refine mkLv hN gn fun h23 x23 l23 r23 g23 c ii a1 a2 a3 => ?_
    have hx23 := hx.trans x23
    refine w_idxN eI_len (hw2.ex hx23) hz fun q hq => w_rd1 hq rfl ?_
    refine w_idxT (enc := eSy) eSy_len (hl2.ex hx23) z0 hxx fun q hq => w_off hq (by simp [eSy_len]) fun q hq => w_rd1 hq rfl (w_eql ?_)
    generalize hir : h'.length = ir at *
    have irpn : ir ≠ pn := by omega
    have hvu : ∀ j, onId vu j → pn < j ∧ j < ir := fun j hj => by have := tu.on hj; omega
    have i0lt : i0 < ir := by have := ra.lt; omega
    have X : ∀ {hZ : AH}, Exx ir h23 hZ → Ex h' hZ := fun y => Exx.base x23 y (by omega)
    have commit : ∀ (e' : Env) (hE : AH) (by' : Int) (D : Row) (vu' : Value) (lv' : Lv) (ls' : List Lv), EvT v0 vw vu' h.length pn m.n ((i : Int) + 1) e' → Ex h2 hE → pn < hE.length → RowAt hE ir m.n D → TkU hE pn m.n vu' ls' hE.length → ¬ onId vu' ir → mrun m l (w.take (i + 1)) = (lv', ls') → by' = lv'.bys → (∀ p q : Int, (0 ≤ p ∧ p < m.n) → (0 ≤ q ∧ q < m.n) → (D (p, q) ↔ lv'.row (p, q))) →
        I e' (hE.set pn (.row (lvC ir m.n by') true)) := by
      intro e' hE by' D vu' lv' ls' hev y1 y2 y3 y4 y5 y6 y7 y8
      refine hI (mm - 1) _ _ (by omega) ⟨i + 1, vu', ir, by omega, by omega, hev, y1.set hpn2 _, by simpa using y2, ?_, ?_, irpn, y5, ?_⟩
      · rw [get_set _ y2, y6, y7]
      · rw [y6]
        exact (y3.keep (get_ne (by omega) _)).imp y8
      · rw [y6]
        have := y4.set (fun hh => by have := y4.on hh; omega) (.inr rfl) (.row (lvC ir m.n by') true)
        simpa using this
    unfold mstep at hms
    rw [hkz] at hms
    refine c_dec (fun k1 => ?_) (fun k1 => ?_)
    · rw [if_pos k1] at hms
      refine loopE_intro (fun mm2 e h9 => ∃ j : Nat, j ≤ m.opens.length ∧ mm2 = m.opens.length - j ∧ EvT v0 vw vu h.length pn m.n i e ∧ e 12 = .pointer (some ⟨ir + 1, 0, none⟩) ∧ e 13 = .int .i64 j ∧ Exx ir h23 h9 ∧
        RowAt h9 ir m.n (fun q => ∃ o ∈ m.opens.take j, TgO m.n st.1.row z o q)) m.opens.length
        ⟨0, Nat.zero_le _, rfl, ⟨e0, e2, e4', e7, e8, e10, e11⟩, rfl, rfl, Exx.refl _ _, r23.imp fun p q _ _ => ⟨False.elim, fun ⟨o, ho, _⟩ => by cases ho⟩⟩ ?_
      clear e0 e2 e4' e7 e8 e10 e11
      rintro I2 mm2 E h9 ⟨j, hj, hmm2, ⟨e0, e2, e4', e7, e8, e10, e11⟩, e12, eK, hx9, rc⟩ hI2
      rw [e4', eK, e2, e8, e10, e11]
      have b9 := b2.ex (hx.trans (X hx9))
      refine w_offP (w_rdP b9.row (v := vo) rfl (w_len b9.o (w_lss (c_dec (fun p3 => ?_) (fun p3 => ?_)))))
      · obtain ⟨o, ho⟩ := getElem?_of_lt (l := m.opens) (i := j) (by omega)
        have kk := ok.opens o (List.mem_of_getElem? ho)
        refine w_offP (w_rdP b9.row (v := vo) rfl ?_)
        refine w_idxN (enc := e4) (fun _ => rfl) b9.o ho fun p hp => w_rdA hp rfl ?_
        refine copy4 fun hA' hA xA gA => ?_
        have hxA := hx9.ex xA
        have rcA := rc.ex xA
        have pc : h9.length ≠ ir := by have := hx9.len; omega
        generalize hpc : h9.length = pcl at *
        refine loopE_intro (fun mm3 e hP => ∃ p : Int, 0 ≤ p ∧ p ≤ m.n ∧ mm3 = (m.n - p).toNat ∧ EvT v0 vw vu h.length pn m.n i e ∧ e 12 = .pointer (some ⟨ir + 1, 0, none⟩) ∧ e 13 = .int .i64 j ∧ e 14 = .pointer (some ⟨pcl, 0, none⟩) ∧ e 15 = .int .i64 p ∧ Exx ir h23 hP ∧ hP[pcl]? = some (.row (e4 o) true) ∧
          RowAt hP ir m.n (fun q => (∃ o ∈ m.opens.take j, TgO m.n st.1.row z o q) ∨ (o.2.1 = z) ∧ ∃ p', (0 ≤ p' ∧ p' < p) ∧ st.1.row (p', o.1) ∧ q = (o.2.2.1, o.2.2.1))) (m.n - 0).toNat
          ⟨0, Int.le_refl _, by omega, rfl, ⟨e0, e2, e4', e7, e8, e10, e11⟩, e12, eK, rfl, rfl, hxA, gA, rcA.imp fun p q _ _ => ⟨.inl, fun h => h.elim id fun ⟨_, p', hp', _⟩ => by omega⟩⟩ ?_
        clear e0 e2 e4' e7 e8 e10 e11 e12 eK
        rintro I3 mm3 E3 hP ⟨p, hp0, hpn', hmm3, ⟨e0, e2, e4', e7, e8, e10, e11⟩, e12, eK, eC, eP, hxP, gCP, rP⟩ hI3
        rw [e2, e7, e8, e11, e12, eK, eC, eP]
        have leave : (p = m.n ∨ ¬ (o.2.1 = z)) → ∀ (e' : Env), EvT v0 vw vu h.length pn m.n i e' → e' 12 = .pointer (some ⟨ir + 1, 0, none⟩) → e' 13 = .int .i64 ((j : Int) + 1) → I2 e' hP := by
          intro why e' f1 f2 f3
          refine hI2 (mm2 - 1) _ _ (by omega) ⟨j + 1, by omega, by omega, f1, f2, f3, hxP, rP.imp fun a b _ _ => ?_⟩
          rw [ex_take ho]
          refine or_congr Iff.rfl ?_
          rcases why with rfl | why
          · exact Iff.rfl
          · exact ⟨fun h => (why h.1).elim, fun h => (why h.1).elim⟩
        refine w_lss ?_
        by_cases p4 : p < m.n
        · have hpp : 0 ≤ p ∧ p < m.n := ⟨hp0, p4⟩
          have hxx' := hx.trans (X hxP)
          refine gd_tt p4 (w_offP ?_)
          refine gd_tt p4 (hist_nil (w_rdP gCP (v := .int .i64 o.2.1) rfl ?_))
          refine gd_tt p4 (gd_tt p4 (gd_tt p4 ?_))
          refine w_idxN eI_len (hw2.ex hxx') hz fun q' hq' => ?_
          refine gd_tt p4 (hist_nil (w_rd1 hq' rfl ?_))
          refine gd_tt p4 (w_eql (pk_tt p4 ?_))
          refine c_dec (fun s1 => ?_) (fun s1 => ?_)
          rotate_left
          · refine w_add (by omega) (by omega) ?_
            exact leave (.inr s1) _ ⟨e0, e2, e4', e7, e8, e10, e11⟩ e12 rfl
          have gnP := (X hxP).some gn
          have pb := pn_b hN hpp
          have pi := pq_in hN hpp kk.1
          refine w_offP (w_rdP gnP (v := slB i0 m.n) rfl (w_mul (by omega) (by omega) ?_))
          refine w_offP (w_rdP gCP (v := .int .i64 o.1) rfl (w_add (by omega) (by omega) ?_))
          obtain ⟨bl', bo, sb, hb, hbR⟩ := (ra.ex (X hxP)).get hN hpp kk.1
          refine w_idxT (enc := eBo) eBo_len sb pi.1 hb fun pp hpp' => w_rd1 hpp' rfl ?_
          have nextp : ∀ (e' : Env) (hZ : AH), EvT v0 vw vu h.length pn m.n i e' → e' 12 = .pointer (some ⟨ir + 1, 0, none⟩) → e' 13 = .int .i64 j → e' 14 = .pointer (some ⟨pcl, 0, none⟩) → e' 15 = .int .i64 (p + 1) → Exx ir h23 hZ → hZ[pcl]? = some (.row (e4 o) true) →
              RowAt hZ ir m.n (fun q => ((∃ o ∈ m.opens.take j, TgO m.n st.1.row z o q) ∨ (o.2.1 = z) ∧ ∃ p', (0 ≤ p' ∧ p' < p) ∧ st.1.row (p', o.1) ∧ q = (o.2.2.1, o.2.2.1)) ∨ (st.1.row (p, o.1) ∧ q = (o.2.2.1, o.2.2.1))) → I3 e' hZ :=
            fun e' hZ f1 f2 f3 f4 f5 y1 y2 y3 => hI3 (m.n - (p + 1)).toNat _ _ (by omega) ⟨p + 1, by omega, by omega, rfl, f1, f2, f3, f4, f5, y1, y2, y3.imp fun a b _ _ => by
              rw [ex_lt hp0]
              constructor
              · rintro ((h | ⟨h1, h2⟩) | h)
                · exact .inl h
                · exact .inr ⟨h1, .inl h2⟩
                · exact .inr ⟨s1, .inr h⟩
              · rintro (h | ⟨h1, h2 | h2⟩)
                · exact .inl (.inl h)
                · exact .inl (.inr ⟨h1, h2⟩)
                · exact .inr h2⟩
          refine c_b (fun hbt => ?_) (fun hbf => ?_)
          · have g23P := hxP.some g23 (by omega)
            have hto := kk.2.2.1
            have pbt := pn_b hN kk.2.2.1
            have pit := pq_in hN kk.2.2.1 hto
            refine w_offP (w_rdP g23P (v := slB ir m.n) rfl ?_)
            refine w_offP (w_rdP gCP (v := .int .i64 o.2.2.1) rfl (w_mul (by omega) (by omega) ?_))
            refine w_offP (w_rdP gCP (v := .int .i64 o.2.2.1) rfl (w_add (by omega) (by omega) ?_))
            refine w_idxP pit.1 pit.2 ?_
            refine rP.put hN kk.2.2.1 hto fun hZ y1 y2 y3 => ?_
            refine w_add (by omega) (by omega) ?_
            exact nextp _ _ ⟨e0, e2, e4', e7, e8, e10, e11⟩ e12 eK eC rfl (hxP.trans y1) (y1.some gCP pc) (y3.imp fun a b _ _ => or_congr Iff.rfl ⟨fun h => ⟨hbR.1 hbt, h⟩, fun h => h.2⟩)
          · refine w_add (by omega) (by omega) ?_
            exact nextp _ _ ⟨e0, e2, e4', e7, e8, e10, e11⟩ e12 eK eC rfl hxP gCP (rP.imp fun a b _ _ => ⟨.inl, fun h => h.elim id fun h => by rw [hbR.2 h.1] at hbf; cases hbf⟩)
        · iterate 7 refine gd_tf p4 ?_
          refine pk_ff p4 ?_
          refine c_f ?_
          refine w_add (by omega) (by omega) ?_
          exact leave (.inl (by omega)) _ ⟨e0, e2, e4', e7, e8, e10, e11⟩ e12 rfl
      -- all rules are through
      have hje : j = m.opens.length := by omega
      rw [hje, List.take_length] at rc
      have gnE := (X hx9).some gn
      have raE := ra.ex (X hx9)
      have tuE := tu.ex (X hx9)
      have xE : Ex h2 h9 := hx.trans (X hx9)
      have k9 := hx9.len
      rw [e12]
      refine w_rdPA (n := 2) (((Ex.res h9)).some gnE) (Nat.le_refl 2) ?_
      refine w_some (bldSl_one rfl (by decide) rfl rfl) ?_
      refine n_res (n_new ?_)
      refine tuE.push (lv := st.1) raE hne hnu i0lt (by omega) (by omega) (by omega) fun vu' h37 t37 l37 k37 id37 => ?_
      have x37 : Ex h2 h37 := ⟨by have := xE.len; omega, fun j hj => (k37 j (by have := xE.len; omega) (fun hh => by have := hvu j hh; omega)).trans (xE.get j hj)⟩
      refine w_idxN eI_len hw2 hz fun q hq => ⟨PtrTo.ids hq (xE.trans (.app _ _)) x37, PtrTo.ids hq (xE.trans (Ex.res _)) (xE.trans (.app _ _)), ?_⟩
      refine w_rd1 (PtrTo.ex hq x37) rfl ?_
      have g37 : h37[ir + 1]? = some (.row (lvC ir m.n st.1.bys) true) := (k37 _ (by omega) (fun hh => by have := hvu _ hh; omega)).trans (hx9.some g23 (by omega))
      refine w_offP (w_stP g37 (show 1 < 2 by omega) rfl rfl ?_)
      have hb37 := lt_of_get g37
      have g38 := get_set h37 hb37 (.row ((lvC ir m.n st.1.bys).set (0 + 1) (.int .i64 z)) true)
      refine w_rdPA (n := 2) g38 (Nat.le_refl 2) ?_
      have nvu' : ∀ j, onId vu' j → pn < j ∧ (j < ir ∨ h9.length ≤ j) := fun j hj => by
        rcases id37 j hj with h | h
        · have := hvu j h; omega
        · omega
      have gn37 : (h37.set (ir + 1) (.row ((lvC ir m.n st.1.bys).set (0 + 1) (.int .i64 z)) true))[pn]? = some (.row (lvC i0 m.n st.1.bys) true) := (get_ne (by omega) _).trans ((k37 _ (by omega) (fun hh => by have := hvu _ hh; omega)).trans gnE)
      refine w_stPA gn37 rfl (Nat.le_refl 2) rfl ?_
      refine w_add (by omega) (by omega) ?_
      refine commit _ (h37.set (ir + 1) (.row ((lvC ir m.n st.1.bys).set (0 + 1) (.int .i64 z)) true)) z (fun q => ∃ o ∈ m.opens, TgO m.n st.1.row z o q) vu' ⟨openRow m st.1.row z, z⟩ (st.2 ++ [st.1]) ⟨e0, e2, e4', e7, e8, rfl, rfl⟩ (x37.set (by omega) _) (by simp; omega) ?_ ?_ (fun hh => by have := nvu' _ hh; omega) hms rfl ?_
      · exact (rc.keep (k37 _ (by omega) (fun hh => by have := hvu _ hh; omega))).keep (get_ne (by omega) _)
      · have := (t37.set (fun hh => by have := nvu' _ hh; omega) (.inl (by omega)) (j := ir + 1) (.row ((lvC ir m.n st.1.bys).set (0 + 1) (.int .i64 z)) true)).mono (c := h37.length) (by omega)
        simpa using this
      · intro p q hp hq
        constructor
        · rintro ⟨o, ho, s1, p', hp', h5, h6⟩
          have e1 : p = o.2.2.1 := congrArg Prod.fst h6
          have e2 : q = o.2.2.1 := congrArg Prod.snd h6
          exact ⟨e1.trans e2.symm, (p', o.1), h5, o, ho, rfl, s1, e1.symm⟩
        · rintro ⟨h1, ⟨a, b⟩, h2, o, ho, h3, h4, h5⟩
          have h1 : p = q := h1
          have h3 : o.1 = b := h3
          have h5 : o.2.2.1 = p := h5
          subst h3
          exact ⟨o, ho, h4, a, (inr _ _ h2).1, h2, Prod.ext h5.symm (show q = o.2.2.1 by rw [h5, h1])⟩
    · rw [if_neg k1] at hms
      refine w_eql (c_dec (fun k2 => ?_) (fun k2 => ?_))
      · rw [if_pos k2] at hms
        refine (tu.ex x23).len (w_gtr (c_dec (fun k3 => ?_) (fun k3 => ?_)))
        · obtain ⟨u, hu⟩ : ∃ u, st.2.getLast? = some u := by
            cases hg : st.2.getLast? with
            | some u => exact ⟨u, rfl⟩
            | none => rw [List.getLast?_eq_none_iff.1 hg] at k3; simp at k3
          rw [hu] at hms
          obtain ⟨us, ib, sus, hus, rbb, hpos⟩ := (tu.ex x23).last hu
          refine (b2.ex hx23).rd fun v207 mv207 => (tu.ex x23).len (w_sub (by omega) (by omega) ?_)
          have e1 : ((st.2.length : Nat) : Int) - 1 = ((st.2.length - 1 : Nat) : Int) := by omega
          rw [e1]
          refine w_idxN (eLv_len m.n) sus hus fun q hq => w_rdA hq rfl ?_
          refine w_rdPA (n := 2) (x23.some gn) (Nat.le_refl 2) ?_
          refine w_idxN eI_len (hw2.ex hx23) hz fun q hq => w_rd1 hq rfl ?_
          refine back53 (l := l) mv207 ok rbb (ra.ex x23) fun h40 jr x40 hjr r40' => ?_
          have g40 := x40.some g23
          refine w_stPA g40 rfl (Nat.le_refl 2) rfl ?_
          have hb40 := lt_of_get g40
          have x2340 := x23.trans x40
          refine (tu.ex x2340).len (w_sub (by omega) (by omega) ?_)
          refine (tu.ex x2340).cut hpos fun vu' t' id' => ?_
          refine w_rdPA (n := 2) (get_set _ hb40 _) (Nat.le_refl 2) ?_
          have gn40 := x2340.some gn
          refine w_stPA ((get_ne (by omega) _).trans gn40) rfl (Nat.le_refl 2) rfl ?_
          refine w_add (by omega) (by omega) ?_
          have hq40 : pn < h40.length := by have := x2340.len; omega
          refine hI (mm - 1) _ _ (by omega) ⟨i + 1, vu', jr, by omega, by omega, ⟨e0, e2, e4', e7, e8, rfl, rfl⟩, ((hx.trans x2340).set (by omega) _).set hpn2 _, by simpa using hq40, ?_, ?_, by omega, fun hh => by have := hvu _ (id' _ hh); omega, ?_⟩
          · rw [hms]
            exact get_set _ (by simpa using hq40) _
          · rw [hms]
            exact (r40'.keep (get_ne (by omega) _)).keep (get_ne (by omega) _)
          · rw [hms]
            have := ((t'.set (j := ir + 1) (fun hh => by have := hvu _ (id' _ hh); omega) (.inl (by omega)) (.row (lvC jr m.n u.bys) true)).set (fun hh => by have := hvu _ (id' _ hh); omega) (.inr rfl) (.row (lvC jr m.n u.bys) true)).mono (c := h40.length) (by have := x2340.len; omega)
            simp only [List.length_set]
            exact this
        · have hnil : st.2 = [] := List.length_eq_zero_iff.1 (by omega)
          have hgl : st.2.getLast? = none := by rw [hnil]; rfl
          rw [hgl] at hms
          refine loopE_intro (fun mm2 e h9 => ∃ j : Nat, j ≤ m.closes.length ∧ mm2 = m.closes.length - j ∧ EvT v0 vw vu h.length pn m.n i e ∧ e 12 = .pointer (some ⟨ir + 1, 0, none⟩) ∧ e 16 = .int .i64 j ∧ Exx ir h23 h9 ∧
            RowAt h9 ir m.n (fun q => ∃ o ∈ m.closes.take j, TgC m.n st.1.row z o q)) m.closes.length
            ⟨0, Nat.zero_le _, rfl, ⟨e0, e2, e4', e7, e8, e10, e11⟩, rfl, rfl, Exx.refl _ _, r23.imp fun p q _ _ => ⟨False.elim, fun ⟨o, ho, _⟩ => by cases ho⟩⟩ ?_
          clear e0 e2 e4' e7 e8 e10 e11
          rintro I2 mm2 E h9 ⟨j, hj, hmm2, ⟨e0, e2, e4', e7, e8, e10, e11⟩, e12, eK, hx9, rc⟩ hI2
          rw [e4', eK, e8, e11]
          have b9 := b2.ex (hx.trans (X hx9))
          refine w_offP (w_rdP b9.row (v := vc) rfl (w_len b9.c (w_lss (c_dec (fun p3 => ?_) (fun p3 => ?_)))))
          · obtain ⟨o, ho⟩ := getElem?_of_lt (l := m.closes) (i := j) (by omega)
            have kk := ok.closes o (List.mem_of_getElem? ho)
            refine w_offP (w_rdP b9.row (v := vc) rfl ?_)
            refine w_idxN (enc := e4) (fun _ => rfl) b9.c ho fun p hp => w_rdA hp rfl ?_
            refine copy4 fun hA' hA xA gA => ?_
            have hxA := hx9.ex xA
            have rcA := rc.ex xA
            have pc : h9.length ≠ ir := by have := hx9.len; omega
            generalize hpc : h9.length = pcl at *
            refine loopE_intro (fun mm3 e hP => ∃ p : Int, 0 ≤ p ∧ p ≤ m.n ∧ mm3 = (m.n - p).toNat ∧ EvT v0 vw vu h.length pn m.n i e ∧ e 12 = .pointer (some ⟨ir + 1, 0, none⟩) ∧ e 16 = .int .i64 j ∧ e 17 = .pointer (some ⟨pcl, 0, none⟩) ∧ e 18 = .int .i64 p ∧ Exx ir h23 hP ∧ hP[pcl]? = some (.row (e4 o) true) ∧
              RowAt hP ir m.n (fun q => (∃ o ∈ m.closes.take j, TgC m.n st.1.row z o q) ∨ (o.2.1 = z ∧ o.2.2.1 = 0) ∧ ∃ p', (0 ≤ p' ∧ p' < p) ∧ st.1.row (p', o.1) ∧ q = (p', o.2.2.2))) (m.n - 0).toNat
              ⟨0, Int.le_refl _, by omega, rfl, ⟨e0, e2, e4', e7, e8, e10, e11⟩, e12, eK, rfl, rfl, hxA, gA, rcA.imp fun p q _ _ => ⟨.inl, fun h => h.elim id fun ⟨_, p', hp', _⟩ => by omega⟩⟩ ?_
            clear e0 e2 e4' e7 e8 e10 e11 e12 eK
            rintro I3 mm3 E3 hP ⟨p, hp0, hpn', hmm3, ⟨e0, e2, e4', e7, e8, e10, e11⟩, e12, eK, eC, eP, hxP, gCP, rP⟩ hI3
            rw [e2, e7, e8, e11, e12, eK, eC, eP]
            have leave : (p = m.n ∨ ¬ (o.2.1 = z ∧ o.2.2.1 = 0)) → ∀ (e' : Env), EvT v0 vw vu h.length pn m.n i e' → e' 12 = .pointer (some ⟨ir + 1, 0, none⟩) → e' 16 = .int .i64 ((j : Int) + 1) → I2 e' hP := by
              intro why e' f1 f2 f3
              refine hI2 (mm2 - 1) _ _ (by omega) ⟨j + 1, by omega, by omega, f1, f2, f3, hxP, rP.imp fun a b _ _ => ?_⟩
              rw [ex_take ho]
              refine or_congr Iff.rfl ?_
              rcases why with rfl | why
              · exact Iff.rfl
              · exact ⟨fun h => (why h.1).elim, fun h => (why h.1).elim⟩
            refine w_lss ?_
            by_cases p4 : p < m.n
            · have hpp : 0 ≤ p ∧ p < m.n := ⟨hp0, p4⟩
              have hxx' := hx.trans (X hxP)
              refine gd_tt p4 (w_offP ?_)
              refine gd_tt p4 (hist_nil (w_rdP gCP (v := .int .i64 o.2.1) rfl ?_))
              refine gd_tt p4 (gd_tt p4 (gd_tt p4 ?_))
              refine w_idxN eI_len (hw2.ex hxx') hz fun q' hq' => ?_
              refine gd_tt p4 (hist_nil (w_rd1 hq' rfl ?_))
              refine gd_tt p4 (w_eql (pk_tt p4 ?_))
              by_cases s1 : o.2.1 = z
              rotate_left
              · iterate 3 refine gd_tf s1 ?_
                refine pk_ff s1 (c_f ?_)
                refine w_add (by omega) (by omega) ?_
                exact leave (.inr fun h => s1 h.1) _ ⟨e0, e2, e4', e7, e8, e10, e11⟩ e12 rfl
              refine gd_tt s1 (w_offP ?_)
              refine gd_tt s1 (hist_nil (w_rdP gCP (v := .int .i64 o.2.2.1) rfl ?_))
              refine gd_tt s1 (w_eql (pk_tt s1 ?_))
              refine c_dec (fun s2 => ?_) (fun s2 => ?_)
              rotate_left
              · refine w_add (by omega) (by omega) ?_
                exact leave (.inr fun h => s2 h.2) _ ⟨e0, e2, e4', e7, e8, e10, e11⟩ e12 rfl
              have gnP := (X hxP).some gn
              have pb := pn_b hN hpp
              have pi := pq_in hN hpp kk.1
              refine w_offP (w_rdP gnP (v := slB i0 m.n) rfl (w_mul (by omega) (by omega) ?_))
              refine w_offP (w_rdP gCP (v := .int .i64 o.1) rfl (w_add (by omega) (by omega) ?_))
              obtain ⟨bl', bo, sb, hb, hbR⟩ := (ra.ex (X hxP)).get hN hpp kk.1
              refine w_idxT (enc := eBo) eBo_len sb pi.1 hb fun pp hpp' => w_rd1 hpp' rfl ?_
              have nextp : ∀ (e' : Env) (hZ : AH), EvT v0 vw vu h.length pn m.n i e' → e' 12 = .pointer (some ⟨ir + 1, 0, none⟩) → e' 16 = .int .i64 j → e' 17 = .pointer (some ⟨pcl, 0, none⟩) → e' 18 = .int .i64 (p + 1) → Exx ir h23 hZ → hZ[pcl]? = some (.row (e4 o) true) →
                  RowAt hZ ir m.n (fun q => ((∃ o ∈ m.closes.take j, TgC m.n st.1.row z o q) ∨ (o.2.1 = z ∧ o.2.2.1 = 0) ∧ ∃ p', (0 ≤ p' ∧ p' < p) ∧ st.1.row (p', o.1) ∧ q = (p', o.2.2.2)) ∨ (st.1.row (p, o.1) ∧ q = (p, o.2.2.2))) → I3 e' hZ :=
                fun e' hZ f1 f2 f3 f4 f5 y1 y2 y3 => hI3 (m.n - (p + 1)).toNat _ _ (by omega) ⟨p + 1, by omega, by omega, rfl, f1, f2, f3, f4, f5, y1, y2, y3.imp fun a b _ _ => by
                  rw [ex_lt hp0]
                  constructor
                  · rintro ((h | ⟨h1, h2⟩) | h)
                    · exact .inl h
                    · exact .inr ⟨h1, .inl h2⟩
                    · exact .inr ⟨⟨s1, s2⟩, .inr h⟩
                  · rintro (h | ⟨h1, h2 | h2⟩)
                    · exact .inl (.inl h)
                    · exact .inl (.inr ⟨h1, h2⟩)
                    · exact .inr h2⟩
              refine c_b (fun hbt => ?_) (fun hbf => ?_)
              · have g23P := hxP.some g23 (by omega)
                have hto := kk.2.2.1
                have pbt := pn_b hN hpp
                have pit := pq_in hN hpp hto
                refine w_offP (w_rdP g23P (v := slB ir m.n) rfl ?_)
                refine w_mul (by omega) (by omega) ?_
                refine w_offP (w_rdP gCP (v := .int .i64 o.2.2.2) rfl (w_add (by omega) (by omega) ?_))
                refine w_idxP pit.1 pit.2 ?_
                refine rP.put hN hpp hto fun hZ y1 y2 y3 => ?_
                refine w_add (by omega) (by omega) ?_
                exact nextp _ _ ⟨e0, e2, e4', e7, e8, e10, e11⟩ e12 eK eC rfl (hxP.trans y1) (y1.some gCP pc) (y3.imp fun a b _ _ => or_congr Iff.rfl ⟨fun h => ⟨hbR.1 hbt, h⟩, fun h => h.2⟩)
              · refine w_add (by omega) (by omega) ?_
                exact nextp _ _ ⟨e0, e2, e4', e7, e8, e10, e11⟩ e12 eK eC rfl hxP gCP (rP.imp fun a b _ _ => ⟨.inl, fun h => h.elim id fun h => by rw [hbR.2 h.1] at hbf; cases hbf⟩)
            · iterate 7 refine gd_tf p4 ?_
              refine pk_ff p4 ?_
              iterate 3 refine gopf ?_
              refine pk_f (c_f ?_)
              refine w_add (by omega) (by omega) ?_
              exact leave (.inl (by omega)) _ ⟨e0, e2, e4', e7, e8, e10, e11⟩ e12 rfl
          have hje : j = m.closes.length := by omega
          rw [hje, List.take_length] at rc
          have k9 := hx9.len
          have gnE := (X hx9).some gn
          rw [e12]
          refine w_rdPA (n := 2) (hx9.some g23 (by omega)) (Nat.le_refl 2) ?_
          refine w_stPA gnE rfl (Nat.le_refl 2) rfl ?_
          refine w_add (by omega) (by omega) ?_
          refine commit _ h9 st.1.bys (fun q => ∃ o ∈ m.closes, TgC m.n st.1.row z o q) vu ⟨lowRow m st.1.row z, st.1.bys⟩ st.2 ⟨e0, e2, e4', e7, e8, e10, rfl⟩ (hx.trans (X hx9)) (by omega) rc ((tu.ex (X hx9)).mono (by omega)) (fun hh => by have := hvu _ hh; omega) hms rfl ?_
          intro p q hp hq
          constructor
          · rintro ⟨o, ho, ⟨s1, s2⟩, p', hp', h5, h6⟩
            have e1 : p = p' := congrArg Prod.fst h6
            have e2 : q = o.2.2.2 := congrArg Prod.snd h6
            subst e1
            exact ⟨o.1, h5, o, ho, rfl, s1, s2, e2.symm⟩
          · rintro ⟨b, h2, o, ho, h3, h4, h5, h6⟩
            have h3 : o.1 = b := h3
            have h6 : o.2.2.2 = q := h6
            subst h3
            exact ⟨o, ho, ⟨h4, h5⟩, p, hp, h2, Prod.ext rfl h6.symm⟩
      · rw [if_neg k2] at hms
        refine loopE_intro (fun mm2 e h9 => ∃ j : Nat, j ≤ m.inners.length ∧ mm2 = m.inners.length - j ∧ EvT v0 vw vu h.length pn m.n i e ∧ e 12 = .pointer (some ⟨ir + 1, 0, none⟩) ∧ e 19 = .int .i64 j ∧ Exx ir h23 h9 ∧
          RowAt h9 ir m.n (fun q => ∃ o ∈ m.inners.take j, TgI m.n st.1.row z o q)) m.inners.length
          ⟨0, Nat.zero_le _, rfl, ⟨e0, e2, e4', e7, e8, e10, e11⟩, rfl, rfl, Exx.refl _ _, r23.imp fun p q _ _ => ⟨False.elim, fun ⟨o, ho, _⟩ => by cases ho⟩⟩ ?_
        clear e0 e2 e4' e7 e8 e10 e11
        rintro I2 mm2 E h9 ⟨j, hj, hmm2, ⟨e0, e2, e4', e7, e8, e10, e11⟩, e12, eK, hx9, rc⟩ hI2
        rw [e4', eK, e8, e11]
        have b9 := b2.ex (hx.trans (X hx9))
        refine w_offP (w_rdP b9.row (v := vn) rfl (w_len b9.n (w_lss (c_dec (fun p3 => ?_) (fun p3 => ?_)))))
        · obtain ⟨o, ho⟩ := getElem?_of_lt (l := m.inners) (i := j) (by omega)
          have kk := ok.inners o (List.mem_of_getElem? ho)
          refine w_offP (w_rdP b9.row (v := vn) rfl ?_)
          refine w_idxN (enc := e3) (fun _ => rfl) b9.n ho fun p hp => w_rdA hp rfl ?_
          refine copy3 fun hA' hA xA gA => ?_
          have hxA := hx9.ex xA
          have rcA := rc.ex xA
          have pc : h9.length ≠ ir := by have := hx9.len; omega
          generalize hpc : h9.length = pcl at *
          refine loopE_intro (fun mm3 e hP => ∃ p : Int, 0 ≤ p ∧ p ≤ m.n ∧ mm3 = (m.n - p).toNat ∧ EvT v0 vw vu h.length pn m.n i e ∧ e 12 = .pointer (some ⟨ir + 1, 0, none⟩) ∧ e 19 = .int .i64 j ∧ e 20 = .pointer (some ⟨pcl, 0, none⟩) ∧ e 21 = .int .i64 p ∧ Exx ir h23 hP ∧ hP[pcl]? = some (.row (e3 o) true) ∧
            RowAt hP ir m.n (fun q => (∃ o ∈ m.inners.take j, TgI m.n st.1.row z o q) ∨ (o.2.1 = z) ∧ ∃ p', (0 ≤ p' ∧ p' < p) ∧ st.1.row (p', o.1) ∧ q = (p', o.2.2))) (m.n - 0).toNat
            ⟨0, Int.le_refl _, by omega, rfl, ⟨e0, e2, e4', e7, e8, e10, e11⟩, e12, eK, rfl, rfl, hxA, gA, rcA.imp fun p q _ _ => ⟨.inl, fun h => h.elim id fun ⟨_, p', hp', _⟩ => by omega⟩⟩ ?_
          clear e0 e2 e4' e7 e8 e10 e11 e12 eK
          rintro I3 mm3 E3 hP ⟨p, hp0, hpn', hmm3, ⟨e0, e2, e4', e7, e8, e10, e11⟩, e12, eK, eC, eP, hxP, gCP, rP⟩ hI3
          rw [e2, e7, e8, e11, e12, eK, eC, eP]
          have leave : (p = m.n ∨ ¬ (o.2.1 = z)) → ∀ (e' : Env), EvT v0 vw vu h.length pn m.n i e' → e' 12 = .pointer (some ⟨ir + 1, 0, none⟩) → e' 19 = .int .i64 ((j : Int) + 1) → I2 e' hP := by
            intro why e' f1 f2 f3
            refine hI2 (mm2 - 1) _ _ (by omega) ⟨j + 1, by omega, by omega, f1, f2, f3, hxP, rP.imp fun a b _ _ => ?_⟩
            rw [ex_take ho]
            refine or_congr Iff.rfl ?_
            rcases why with rfl | why
            · exact Iff.rfl
            · exact ⟨fun h => (why h.1).elim, fun h => (why h.1).elim⟩
          refine w_lss ?_
          by_cases p4 : p < m.n
          · have hpp : 0 ≤ p ∧ p < m.n := ⟨hp0, p4⟩
            have hxx' := hx.trans (X hxP)
            refine gd_tt p4 (w_offP ?_)
            refine gd_tt p4 (hist_nil (w_rdP gCP (v := .int .i64 o.2.1) rfl ?_))
            refine gd_tt p4 (gd_tt p4 (gd_tt p4 ?_))
            refine w_idxN eI_len (hw2.ex hxx') hz fun q' hq' => ?_
            refine gd_tt p4 (hist_nil (w_rd1 hq' rfl ?_))
            refine gd_tt p4 (w_eql (pk_tt p4 ?_))
            refine c_dec (fun s1 => ?_) (fun s1 => ?_)
            rotate_left
            · refine w_add (by omega) (by omega) ?_
              exact leave (.inr s1) _ ⟨e0, e2, e4', e7, e8, e10, e11⟩ e12 rfl
            have gnP := (X hxP).some gn
            have pb := pn_b hN hpp
            have pi := pq_in hN hpp kk.1
            refine w_offP (w_rdP gnP (v := slB i0 m.n) rfl (w_mul (by omega) (by omega) ?_))
            refine w_offP (w_rdP gCP (v := .int .i64 o.1) rfl (w_add (by omega) (by omega) ?_))
            obtain ⟨bl', bo, sb, hb, hbR⟩ := (ra.ex (X hxP)).get hN hpp kk.1
            refine w_idxT (enc := eBo) eBo_len sb pi.1 hb fun pp hpp' => w_rd1 hpp' rfl ?_
            have nextp : ∀ (e' : Env) (hZ : AH), EvT v0 vw vu h.length pn m.n i e' → e' 12 = .pointer (some ⟨ir + 1, 0, none⟩) → e' 19 = .int .i64 j → e' 20 = .pointer (some ⟨pcl, 0, none⟩) → e' 21 = .int .i64 (p + 1) → Exx ir h23 hZ → hZ[pcl]? = some (.row (e3 o) true) →
                RowAt hZ ir m.n (fun q => ((∃ o ∈ m.inners.take j, TgI m.n st.1.row z o q) ∨ (o.2.1 = z) ∧ ∃ p', (0 ≤ p' ∧ p' < p) ∧ st.1.row (p', o.1) ∧ q = (p', o.2.2)) ∨ (st.1.row (p, o.1) ∧ q = (p, o.2.2))) → I3 e' hZ :=
              fun e' hZ f1 f2 f3 f4 f5 y1 y2 y3 => hI3 (m.n - (p + 1)).toNat _ _ (by omega) ⟨p + 1, by omega, by omega, rfl, f1, f2, f3, f4, f5, y1, y2, y3.imp fun a b _ _ => by
                rw [ex_lt hp0]
                constructor
                · rintro ((h | ⟨h1, h2⟩) | h)
                  · exact .inl h
                  · exact .inr ⟨h1, .inl h2⟩
                  · exact .inr ⟨s1, .inr h⟩
                · rintro (h | ⟨h1, h2 | h2⟩)
                  · exact .inl (.inl h)
                  · exact .inl (.inr ⟨h1, h2⟩)
                  · exact .inr h2⟩
            refine c_b (fun hbt => ?_) (fun hbf => ?_)
            · have g23P := hxP.some g23 (by omega)
              have hto := kk.2.2
              have pbt := pn_b hN hpp
              have pit := pq_in hN hpp hto
              refine w_offP (w_rdP g23P (v := slB ir m.n) rfl ?_)
              refine w_mul (by omega) (by omega) ?_
              refine w_offP (w_rdP gCP (v := .int .i64 o.2.2) rfl (w_add (by omega) (by omega) ?_))
              refine w_idxP pit.1 pit.2 ?_
              refine rP.put hN hpp hto fun hZ y1 y2 y3 => ?_
              refine w_add (by omega) (by omega) ?_
              exact nextp _ _ ⟨e0, e2, e4', e7, e8, e10, e11⟩ e12 eK eC rfl (hxP.trans y1) (y1.some gCP pc) (y3.imp fun a b _ _ => or_congr Iff.rfl ⟨fun h => ⟨hbR.1 hbt, h⟩, fun h => h.2⟩)
            · refine w_add (by omega) (by omega) ?_
              exact nextp _ _ ⟨e0, e2, e4', e7, e8, e10, e11⟩ e12 eK eC rfl hxP gCP (rP.imp fun a b _ _ => ⟨.inl, fun h => h.elim id fun h => by rw [hbR.2 h.1] at hbf; cases hbf⟩)
          · iterate 7 refine gd_tf p4 ?_
            refine pk_ff p4 ?_
            refine c_f ?_
            refine w_add (by omega) (by omega) ?_
            exact leave (.inl (by omega)) _ ⟨e0, e2, e4', e7, e8, e10, e11⟩ e12 rfl
        have hje : j = m.inners.length := by omega
        rw [hje, List.take_length] at rc
        have k9 := hx9.len
        have gnE := (X hx9).some gn
        rw [e12]
        refine w_rdPA (n := 2) (hx9.some g23 (by omega)) (Nat.le_refl 2) ?_
        refine w_stPA gnE rfl (Nat.le_refl 2) rfl ?_
        refine w_add (by omega) (by omega) ?_
        refine commit _ h9 st.1.bys (fun q => ∃ o ∈ m.inners, TgI m.n st.1.row z o q) vu ⟨innerRow m st.1.row z, st.1.bys⟩ st.2 ⟨e0, e2, e4', e7, e8, e10, rfl⟩ (hx.trans (X hx9)) (by omega) rc ((tu.ex (X hx9)).mono (by omega)) (fun hh => by have := hvu _ hh; omega) hms rfl ?_
        intro p q hp hq
        constructor
        · rintro ⟨o, ho, s1, p', hp', h5, h6⟩
          have e1 : p = p' := congrArg Prod.fst h6
          have e2 : q = o.2.2 := congrArg Prod.snd h6
          subst e1
          exact ⟨o.1, h5, o, ho, rfl, s1, e2.symm⟩
        · rintro ⟨b, h2, o, ho, h3, h4, h6⟩
          have h3 : o.1 = b := h3
          have h6 : o.2.2 = q := h6
          subst h3
          exact ⟨o, ho, h4, p, hp, h2, Prod.ext rfl h6.symm⟩
  · have hie : i = w.length := by omega
    subst hie
    rw [List.take_length] at gn ra
    have inr := (mrun_in ok w).1
    generalize mrun m l w = st at *
    have b5 := b2.ex hx
    refine loopE_intro (fun mm e hF => ∃ a : Nat, a ≤ m.final.length ∧ mm = m.final.length - a ∧ e 4 = .pointer (some ⟨h.length, 0, none⟩) ∧ e 7 = .int .i64 m.n ∧ e 8 = .pointer (some ⟨pn, 0, none⟩) ∧ e 22 = .int .i64 a ∧ hF = h' ∧ (∀ q ∈ m.final.take a, ∀ p, ¬ st.1.row (p, q))) m.final.length
      ⟨0, Nat.zero_le _, rfl, e4', e7, e8, rfl, rfl, fun q hq => by cases hq⟩ ?_
    clear hI
    rintro I1 mm1 e1 hF ⟨a, ha, hmm1, f4, f7, f8, f22, rfl, hno⟩ hI
    rw [f4, f22]
    refine w_offP (w_rdP b5.row (v := vf) rfl (w_len b5.f (w_lss (c_dec (fun p2 => ?_) (fun p2 => ?_)))))
    · obtain ⟨q, hq⟩ := getElem?_of_lt (l := m.final) (i := a) (by omega)
      have hqi := ok.final q (List.mem_of_getElem? hq)
      refine loopE_intro (fun mm e hG => ∃ p : Int, 0 ≤ p ∧ p ≤ m.n ∧ mm = (m.n - p).toNat ∧ e 4 = .pointer (some ⟨h.length, 0, none⟩) ∧ e 7 = .int .i64 m.n ∧ e 8 = .pointer (some ⟨pn, 0, none⟩) ∧ e 22 = .int .i64 a ∧ e 23 = .int .i64 p ∧ hG = hF ∧ (∀ p', p' < p → ¬ st.1.row (p', q))) (m.n - 0).toNat
        ⟨0, Int.le_refl _, by omega, rfl, f4, f7, f8, f22, rfl, rfl, fun p' hp' hr => by have := (inr _ _ hr).1.1; omega⟩ ?_
      clear f4 f7 f8 f22
      rintro I2 mm2 e2' hG ⟨p, hp0, hpn', hmm2, f4, f7, f8, f22, f23, rfl, hnp⟩ hI2
      rw [f4, f7, f8, f22, f23]
      refine w_lss (c_dec (fun p3 => ?_) (fun p3 => ?_))
      · have hpp : 0 ≤ p ∧ p < m.n := ⟨hp0, p3⟩
        have pb := pn_b hN hpp
        have pi := pq_in hN hpp hqi
        refine w_offP (w_rdP gn (v := slB i0 m.n) rfl (w_mul (by omega) (by omega) ?_))
        refine w_offP (w_rdP b5.row (v := vf) rfl (w_idxN eI_len b5.f hq fun q' hq' => w_rd1 hq' rfl (w_add (by omega) (by omega) ?_)))
        obtain ⟨bl', bo, sb, hb, hbR⟩ := ra.get hN hpp hqi
        refine w_idxT (enc := eBo) eBo_len sb pi.1 hb fun pp hpp => w_rd1 hpp rfl (c_b (fun ht => ?_) (fun hf => ?_))
        · exact k _ true (x12.trans hx) ⟨fun _ => ⟨p, q, hbR.1 ht, List.mem_of_getElem? hq⟩, fun _ => rfl⟩
        · refine w_add (by omega) (by omega) ?_
          refine hI2 (m.n - (p + 1)).toNat _ _ (by omega) ⟨p + 1, by omega, by omega, rfl, f4, f7, f8, f22, rfl, rfl, fun p' hp' hr => ?_⟩
          by_cases e : p' = p
          · rw [e] at hr
            rw [hbR.2 hr] at hf
            cases hf
          · exact hnp p' (by omega) hr
      · refine w_add (by omega) (by omega) ?_
        refine hI (mm1 - 1) _ _ (by omega) ⟨a + 1, by omega, by omega, f4, f7, f8, rfl, rfl, fun q' hq' p' hr => ?_⟩
        rw [take_succ_get hq] at hq'
        rcases List.mem_append.1 hq' with h | h
        · exact hno q' h p' hr
        · rw [List.mem_singleton.1 h] at hr
          exact hnp p' (by have := (inr _ _ hr).1; omega) hr
    · have hae : a = m.final.length := by omega
      rw [hae, List.take_length] at hno
      exact k _ false (x12.trans hx) ⟨fun h => (by cases h), fun ⟨p, q, h1, h2⟩ => (hno q h2 p h1).elim⟩
end Go.Proofs.Ytebbjimmgblcpaa.W
