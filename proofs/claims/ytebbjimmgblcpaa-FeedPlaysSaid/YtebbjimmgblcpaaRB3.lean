/- Parts of a proof, joined by a program. Conditions: none. -/
import Derived.Test.YtebbjimmgblcpaaRB2

section
/- The document's Takes of a machine of numbers: the walk. Conditions: none. -/
namespace Go.Proofs.Ytebbjimmgblcpaa.W
open Go Go.AM FeedM
set_option linter.unusedVariables false
set_option maxRecDepth 100000

/-- all pairs are of states. -/
def InR (m : Mach) (R : Row) : Prop := ∀ p q : Int, R (p, q) → (0 ≤ p ∧ p < m.n) ∧ (0 ≤ q ∧ q < m.n)
theorem mrun_in {l : List Sy} {m : Mach} {b : Nat} (ok : MkOK l m b) : ∀ w, InR m (mrun m l w).1.row ∧ ∀ v ∈ (mrun m l w).2, InR m v.row := by
  refine snoc_ind ?_ ?_
  · refine ⟨?_, fun v hv => by cases hv⟩
    rintro p q ⟨h1, h2⟩
    have h1 : p = q := h1
    have := ok.init p h2
    exact ⟨this, h1 ▸ this⟩
  · intro w k ⟨ih1, ih2⟩
    rw [mrun_snoc]
    unfold mstep
    split
    · refine ⟨?_, fun v hv => ?_⟩
      · rintro p q ⟨h1, p', hp', o, ho, h2, h3, h4⟩
        have h1 : p = q := h1
        have h4 : o.2.2.1 = p := h4
        have := (ok.opens o ho).2.2.1
        rw [h4] at this
        exact ⟨this, h1 ▸ this⟩
      · rcases List.mem_append.1 hv with hv | hv
        · exact ih2 v hv
        · rw [List.mem_singleton.1 hv]; exact ih1
    split
    · split
      · refine ⟨?_, ih2⟩
        rintro p q ⟨b, hb, c, hc, h1, h2, h3, h4⟩
        have h4 : c.2.2.2 = q := h4
        have := (ok.closes c hc).2.2.1
        rw [h4] at this
        exact ⟨(ih1 _ _ hb).1, this⟩
      · rename_i u hu
        have hum : u ∈ (mrun m l w).2 := List.mem_of_getLast? hu
        refine ⟨?_, fun v hv => ih2 v (List.dropLast_subset _ hv)⟩
        rintro p q ⟨b, hb, o, ho, h1, h2, c, hc, h3, h4, h5, h6⟩
        have h6 : c.2.2.2 = q := h6
        have := (ok.closes c hc).2.2.1
        rw [h6] at this
        exact ⟨(ih2 u hum _ _ hb).1, this⟩
    · refine ⟨?_, ih2⟩
      rintro p q ⟨b, hb, o, ho, h1, h2, h3⟩
      have h3 : o.2.2 = q := h3
      have := (ok.inners o ho).2.2
      rw [h3] at this
      exact ⟨(ih1 _ _ hb).1, this⟩

theorem gopf {f : (Value → AH → HT → ST → Prop) → Prop} {h : AH} {H : HT} {S : ST} {K : Value → AH → HT → ST → Prop} (k : K undef h H S) : gopD (gB (.bool false) true) f h H S K := k
def EvT (v0 vw vu : Value) (pm pn : Nat) (n : Int) (i : Int) (e : Env) : Prop := e 0 = v0 ∧ e 2 = vw ∧ e 4 = .pointer (some ⟨pm, 0, none⟩) ∧ e 7 = .int .i64 n ∧ e 8 = .pointer (some ⟨pn, 0, none⟩) ∧ e 10 = vu ∧ e 11 = .int .i64 i

def TgO (n : Int) (R : Row) (z : Int) (o : Int × Int × Int × Int) (q : Int × Int) : Prop := o.2.1 = z ∧ ∃ p, (0 ≤ p ∧ p < n) ∧ R (p, o.1) ∧ q = (o.2.2.1, o.2.2.1)
def TgC (n : Int) (R : Row) (z : Int) (o : Int × Int × Int × Int) (q : Int × Int) : Prop := (o.2.1 = z ∧ o.2.2.1 = 0) ∧ ∃ p, (0 ≤ p ∧ p < n) ∧ R (p, o.1) ∧ q = (p, o.2.2.2)
def TgI (n : Int) (R : Row) (z : Int) (o : Int × Int × Int) (q : Int × Int) : Prop := o.2.1 = z ∧ ∃ p, (0 ≤ p ∧ p < n) ∧ R (p, o.1) ∧ q = (p, o.2.2)

theorem takes27 {h : AH} {v0 vm vw : Value} {l : List Sy} {m : Mach} {w : List Int} {K : Value → AH → Prop} (hl : Syms h v0 l) (bl : l.length ≤ 1000) (mv : MV h vm m) (ok : MkOK l m 25) (hw : Ints h vw w) (hin : ∀ k ∈ w, 0 ≤ k ∧ k < (l.length : Nat)) (hn : w.length ≤ 10000)
    (k : ∀ h' b, Ex h h' → (b = true ↔ ∃ p q, (mrun m l w).1.row (p, q) ∧ q ∈ m.final) → K (.bool b) h') : callW Try.prog 27 [v0, vm, vw] h K := by
  have r40 : (10000000 : Nat) < room40 := big40
  have hN : N3 m.n := ok.n
  have hN1 := hN.1
  have hN2 := hN.2
  have hC := ok.cnt
  have nb := nn_b hN
  refine c27 ?_
  unfold s27
  refine boxM mv fun h1 vi vf vo vc vn x1 l1 b1 => ?_
  have n1 : ¬ m.n < 1 := by omega
  have n2 : ¬ 200 < m.n := by omega
  refine w_offP (w_rdP b1.row (v := .int .i64 m.n) rfl (w_lss ?_))
  refine g_ff n1 (g_ff n1 (w_gtr (pk_ff n1 ?_)))
  refine g_ff n2 (b1.rd fun v33 mv33 => g_ff n2 (inside52 mv33 ok fun h2 x2 => g_ff n2 (w_notb (pk_ff n2 (c_f ?_)))))
  refine w_mul (by omega) (by omega) (w_mkB hN ?_)
  refine n_newv fun h3 x3 l3 g3 => ?_
  refine w_some (v := .agg (lvC h2.length m.n 0).toArray) rfl ?_
  refine n_rowv (c := [(.slice none 0 0), (.int .i64 0)]) fun h4 x4 l4 g4 => ?_
  refine w_stPA g4 rfl (Nat.le_refl 2) rfl ?_
  have hb4 := lt_of_get g4
  have b2 := b1.ex x2
  have hl2 := hl.ex (x1.trans x2)
  have hw2 := hw.ex (x1.trans x2)
  have x12 := x1.trans x2
  have x5 : ∀ o, Ex h2 (h4.set h3.length o) := fun o => (x3.trans x4).set (by omega) o
  have r5 : ∀ o, RowAt (h4.set h3.length o) h2.length m.n (fun _ => False) := fun o => (RowAt.zero g3).keep ((get_ne (by omega) _).trans (x4.get _ (by omega)))
  have g5 : ∀ o, (h4.set h3.length o)[h3.length]? = some o := fun o => get_set _ hb4 o
  have l5 : ∀ o, (h4.set h3.length o).length = h3.length + 1 := fun o => by simp [l4]
  refine loopE_intro (fun mm e h' => ∃ i : Nat, i ≤ m.init.length ∧ mm = m.init.length - i ∧ e 0 = v0 ∧ e 2 = vw ∧ e 4 = .pointer (some ⟨h.length, 0, none⟩) ∧ e 7 = .int .i64 m.n ∧ e 8 = .pointer (some ⟨h3.length, 0, none⟩) ∧ e 9 = .int .i64 i ∧
    Ex h2 h' ∧ h3.length < h'.length ∧ h'[h3.length]? = some (.row (lvC h2.length m.n 0) true) ∧ RowAt h' h2.length m.n (fun q => ∃ p ∈ m.init.take i, q = (p, p))) m.init.length
    ⟨0, Nat.zero_le _, rfl, rfl, rfl, rfl, rfl, rfl, rfl, x5 _, (by rw [l5]; omega), g5 _, (r5 _).imp fun p q _ _ => ⟨False.elim, fun ⟨o, ho, _⟩ => by cases ho⟩⟩ ?_
  rintro I mm e h' ⟨i, hi, hmm, e0, e2, e4', e7, e8, e9, hx, hlen, gn, ra⟩ hI
  rw [e4', e7, e8, e9]
  have b5 := b2.ex hx
  refine w_offP (w_rdP b5.row (v := vi) rfl (w_len b5.i (w_lss (c_dec (fun p1 => ?_) (fun p1 => ?_)))))
  · obtain ⟨p, hp⟩ := getElem?_of_lt (l := m.init) (i := i) (by omega)
    have hpi := ok.init p (List.mem_of_getElem? hp)
    have pb := pn_b hN hpi
    have pi := pq_in hN hpi hpi
    refine w_offP (w_rdP gn (v := slB h2.length m.n) rfl ?_)
    refine w_offP (w_rdP b5.row (v := vi) rfl (w_idxN eI_len b5.i hp fun q hq => w_rd1 hq rfl (w_mul (by omega) (by omega) ?_)))
    refine w_offP (w_rdP b5.row (v := vi) rfl (w_idxN eI_len b5.i hp fun q hq => w_rd1 hq rfl (w_add (by omega) (by omega) ?_)))
    refine w_idxP pi.1 pi.2 (ra.put hN hpi hpi fun hZ y1 y2 y3 => w_add (by omega) (by omega) ?_)
    refine hI (mm - 1) _ _ (by omega) ⟨i + 1, by omega, by omega, e0, e2, e4', e7, e8, rfl, Exx.base hx y1 (Nat.le_refl _), by omega, y1.some gn (by omega), y3.imp fun a b _ _ => ?_⟩
    rw [ex_take hp]
  have hie : i = m.init.length := by omega
  rw [hie, List.take_length] at ra
  have ra : RowAt h' h2.length m.n (FeedM.begin m).row := ra.imp fun p q _ _ => ⟨fun ⟨a, ha, he⟩ => by
    have e1 : p = a := congrArg Prod.fst he
    have e2 : q = a := congrArg Prod.snd he
    exact ⟨by rw [e1, e2], by rw [e1]; exact ha⟩, fun ⟨h1, h2⟩ => ⟨p, h2, Prod.ext rfl (show q = p from (show p = q from h1).symm)⟩⟩
  clear hI hie p1
  refine loopE_intro (fun mm e h' => ∃ (i : Nat) (vu : Value) (i0 : Nat), i ≤ w.length ∧ mm = w.length - i ∧ EvT v0 vw vu h.length h3.length m.n i e ∧ Ex h2 h' ∧ h3.length < h'.length ∧
    h'[h3.length]? = some (.row (lvC i0 m.n (mrun m l (w.take i)).1.bys) true) ∧ RowAt h' i0 m.n (mrun m l (w.take i)).1.row ∧ i0 ≠ h3.length ∧ ¬ onId vu i0 ∧ TkU h' h3.length m.n vu (mrun m l (w.take i)).2 h'.length) w.length
    ⟨0, .slice none 0 0, h2.length, Nat.zero_le _, rfl, ⟨e0, e2, e4', e7, e8, rfl, rfl⟩, hx, hlen, gn, ra, by omega, fun h => h, TkU.nil _ _ _ _⟩ ?_
  clear ra gn hx e0 e2 e4' e7 e8 e9 hmm hi b5 hlen
  rintro I mm e h' ⟨i, vu, i0, hi, hmm, ⟨e0, e2, e4', e7, e8, e10, e11⟩, hx, hlen, gn, ra, hne, hnu, tu⟩ hI
  rw [e0, e2, e4', e7, e8, e10, e11]
  generalize hpn : h3.length = pn at *
  have hpn2 : h2.length ≤ pn := by omega
  refine w_len (hw2.ex hx) (w_lss (c_dec (fun p1 => ?_) (fun p1 => ?_)))
  · obtain ⟨z, hz⟩ := getElem?_of_lt (l := w) (i := i) (by omega)
    obtain ⟨z0, z1⟩ := hin z (List.mem_of_getElem? hz)
    obtain ⟨x, hxx⟩ := getElem?_of_lt (l := l) (i := z.toNat) (by omega)
    have hkz : kindAt l z.toNat = x.2 := by unfold kindAt; rw [hxx]
    have hms := mrun_snoc m l (w.take i) z
    rw [← take_succ_get hz] at hms
    have inr := (mrun_in ok (w.take i)).1
    have inu := (mrun_in ok (w.take i)).2
    have lenU : (mrun m l (w.take i)).2.length ≤ 10000 := by
      rw [mrun_len]
      have := opn_le l (w.take i)
      rw [List.length_take] at this
      omega
    generalize mrun m l (w.take i) = st at *
    have n3' : ¬ z < 0 := by omega
    have n4 : ¬ ((l.length : Nat) : Int) ≤ z := by omega
    refine w_idxN eI_len (hw2.ex hx) hz fun q hq => w_rd1 hq rfl (w_lss ?_)
    refine g_ff n3' (g_ff n3' (g_ff n3' ?_))
    refine w_idxN eI_len (hw2.ex hx) hz fun q hq => ?_
    refine g_ff n3' (w_rd1 hq rfl (g_ff n3' (g_ff n3' (w_len (hl2.ex hx) (g_ff n3' (w_geq (pk_ff n3' (c_ff n4 ?_))))))))
    refine w_mul (by omega) (by omega) ?_
    refine mkLv hN gn fun h23 x23 l23 r23 g23 c ii a1 a2 a3 => ?_
    have hx23 := hx.trans x23
    refine w_idxN eI_len (hw2.ex hx23) hz fun q hq => w_rd1 hq rfl ?_
    refine w_idxT (enc := eSy) eSy_len (hl2.ex hx23) z0 hxx fun q hq => w_off hq (by simp [eSy_len]) fun q hq => w_rd1 hq rfl (w_eql ?_)
    generalize hir : h'.length = ir at *
    have irpn : ir ≠ pn := by omega
    have hvu : ∀ j, onId vu j → pn < j ∧ j < ir := fun j hj => by have := tu.on hj; omega
    have i0lt : i0 < ir := by have := ra.lt; omega
    have X : ∀ {hZ : AH}, Exx ir h23 hZ → Ex h' hZ := fun y => Exx.base x23 y (by omega)
    have commit : ∀ (e' : Env) (hE : AH) (by' : Int) (D : Row) (vu' : Value) (lv' : Lv) (ls' : List Lv), EvT v0 vw vu' h.length pn m.n ((i : Int) + 1) e' → Ex h2 hE → pn < hE.length → RowAt hE ir m.n D → TkU hE pn m.n vu' ls' hE.length → ¬ onId vu' ir → mrun m l (w.take (i + 1)) = (lv', ls') → by' = lv'.bys → (∀ p q : Int, (0 ≤ p ∧ p < m.n) → (0 ≤ q ∧ q < m.n) → (D (p, q) ↔ lv'.row (p, q))) →
        I e' (hE.set pn (.row (lvC ir m.n by') true)) := by
      intro e' hE by' D vu' lv' ls' hev y1 y2 y3 y4 y5 y6 y7 y8
      refine hI (mm - 1) _ _ (by omega) ⟨i + 1, vu', ir, by omega, by omega, hev, y1.set hpn2 _, by simpa using y2, ?_, ?_, irpn, y5, ?_⟩
      · rw [get_set _ y2, y6, y7]
      · rw [y6]
        exact (y3.keep (get_ne (by omega) _)).imp y8
      · rw [y6]
        have := y4.set (fun hh => by have := y4.on hh; omega) (.inr rfl) (.row (lvC ir m.n by') true)
        simpa using this
    unfold mstep at hms
    rw [hkz] at hms
    refine c_dec (fun k1 => ?_) (fun k1 => ?_)
    · rw [if_pos k1] at hms
      refine loopE_intro (fun mm2 e h9 => ∃ j : Nat, j ≤ m.opens.length ∧ mm2 = m.opens.length - j ∧ EvT v0 vw vu h.length pn m.n i e ∧ e 12 = .pointer (some ⟨ir + 1, 0, none⟩) ∧ e 13 = .int .i64 j ∧ Exx ir h23 h9 ∧
        RowAt h9 ir m.n (fun q => ∃ o ∈ m.opens.take j, TgO m.n st.1.row z o q)) m.opens.length
        ⟨0, Nat.zero_le _, rfl, ⟨e0, e2, e4', e7, e8, e10, e11⟩, rfl, rfl, Exx.refl _ _, r23.imp fun p q _ _ => ⟨False.elim, fun ⟨o, ho, _⟩ => by cases ho⟩⟩ ?_
      clear e0 e2 e4' e7 e8 e10 e11
      rintro I2 mm2 E h9 ⟨j, hj, hmm2, ⟨e0, e2, e4', e7, e8, e10, e11⟩, e12, eK, hx9, rc⟩ hI2
      rw [e4', eK, e2, e8, e10, e11]
      have b9 := b2.ex (hx.trans (X hx9))
      refine w_offP (w_rdP b9.row (v := vo) rfl (w_len b9.o (w_lss (c_dec (fun p3 => ?_) (fun p3 => ?_)))))
      · obtain ⟨o, ho⟩ := getElem?_of_lt (l := m.opens) (i := j) (by omega)
        have kk := ok.opens o (List.mem_of_getElem? ho)
        refine w_offP (w_rdP b9.row (v := vo) rfl ?_)
        refine w_idxN (enc := e4) (fun _ => rfl) b9.o ho fun p hp => w_rdA hp rfl ?_
        refine copy4 fun hA' hA xA gA => ?_
        have hxA := hx9.ex xA
        have rcA := rc.ex xA
        have pc : h9.length ≠ ir := by have := hx9.len; omega
        generalize hpc : h9.length = pcl at *
        refine loopE_intro (fun mm3 e hP => ∃ p : Int, 0 ≤ p ∧ p ≤ m.n ∧ mm3 = (m.n - p).toNat ∧ EvT v0 vw vu h.length pn m.n i e ∧ e 12 = .pointer (some ⟨ir + 1, 0, none⟩) ∧ e 13 = .int .i64 j ∧ e 14 = .pointer (some ⟨pcl, 0, none⟩) ∧ e 15 = .int .i64 p ∧ Exx ir h23 hP ∧ hP[pcl]? = some (.row (e4 o) true) ∧
          RowAt hP ir m.n (fun q => (∃ o ∈ m.opens.take j, TgO m.n st.1.row z o q) ∨ (o.2.1 = z) ∧ ∃ p', (0 ≤ p' ∧ p' < p) ∧ st.1.row (p', o.1) ∧ q = (o.2.2.1, o.2.2.1))) (m.n - 0).toNat
          ⟨0, Int.le_refl _, by omega, rfl, ⟨e0, e2, e4', e7, e8, e10, e11⟩, e12, eK, rfl, rfl, hxA, gA, rcA.imp fun p q _ _ => ⟨.inl, fun h => h.elim id fun ⟨_, p', hp', _⟩ => by omega⟩⟩ ?_
        clear e0 e2 e4' e7 e8 e10 e11 e12 eK
        rintro I3 mm3 E3 hP ⟨p, hp0, hpn', hmm3, ⟨e0, e2, e4', e7, e8, e10, e11⟩, e12, eK, eC, eP, hxP, gCP, rP⟩ hI3
        rw [e2, e7, e8, e11, e12, eK, eC, eP]
        have leave : (p = m.n ∨ ¬ (o.2.1 = z)) → ∀ (e' : Env), EvT v0 vw vu h.length pn m.n i e' → e' 12 = .pointer (some ⟨ir + 1, 0, none⟩) → e' 13 = .int .i64 ((j : Int) + 1) → I2 e' hP := by
          intro why e' f1 f2 f3
          refine hI2 (mm2 - 1) _ _ (by omega) ⟨j + 1, by omega, by omega, f1, f2, f3, hxP, rP.imp fun a b _ _ => ?_⟩
          rw [ex_take ho]
          refine or_congr Iff.rfl ?_
          rcases why with rfl | why
          · exact Iff.rfl
          · exact ⟨fun h => (why h.1).elim, fun h => (why h.1).elim⟩
        refine w_lss ?_
        by_cases p4 : p < m.n
        · have hpp : 0 ≤ p ∧ p < m.n := ⟨hp0, p4⟩
          have hxx' := hx.trans (X hxP)
          refine gd_tt p4 (w_offP ?_)
          refine gd_tt p4 (hist_nil (w_rdP gCP (v := .int .i64 o.2.1) rfl ?_))
          refine gd_tt p4 (gd_tt p4 (gd_tt p4 ?_))
          refine w_idxN eI_len (hw2.ex hxx') hz fun q' hq' => ?_
          refine gd_tt p4 (hist_nil (w_rd1 hq' rfl ?_))
          refine gd_tt p4 (w_eql (pk_tt p4 ?_))
          refine c_dec (fun s1 => ?_) (fun s1 => ?_)
          rotate_left
          · refine w_add (by omega) (by omega) ?_
            exact leave (.inr s1) _ ⟨e0, e2, e4', e7, e8, e10, e11⟩ e12 rfl
          have gnP := (X hxP).some gn
          have pb := pn_b hN hpp
          have pi := pq_in hN hpp kk.1
          refine w_offP (w_rdP gnP (v := slB i0 m.n) rfl (w_mul (by omega) (by omega) ?_))
          refine w_offP (w_rdP gCP (v := .int .i64 o.1) rfl (w_add (by omega) (by omega) ?_))
          obtain ⟨bl', bo, sb, hb, hbR⟩ := (ra.ex (X hxP)).get hN hpp kk.1
          refine w_idxT (enc := eBo) eBo_len sb pi.1 hb fun pp hpp' => w_rd1 hpp' rfl ?_
          have nextp : ∀ (e' : Env) (hZ : AH), EvT v0 vw vu h.length pn m.n i e' → e' 12 = .pointer (some ⟨ir + 1, 0, none⟩) → e' 13 = .int .i64 j → e' 14 = .pointer (some ⟨pcl, 0, none⟩) → e' 15 = .int .i64 (p + 1) → Exx ir h23 hZ → hZ[pcl]? = some (.row (e4 o) true) →
              RowAt hZ ir m.n (fun q => ((∃ o ∈ m.opens.take j, TgO m.n st.1.row z o q) ∨ (o.2.1 = z) ∧ ∃ p', (0 ≤ p' ∧ p' < p) ∧ st.1.row (p', o.1) ∧ q = (o.2.2.1, o.2.2.1)) ∨ (st.1.row (p, o.1) ∧ q = (o.2.2.1, o.2.2.1))) → I3 e' hZ :=
            fun e' hZ f1 f2 f3 f4 f5 y1 y2 y3 => hI3 (m.n - (p + 1)).toNat _ _ (by omega) ⟨p + 1, by omega, by omega, rfl, f1, f2, f3, f4, f5, y1, y2, y3.imp fun a b _ _ => by
              rw [ex_lt hp0]
              constructor
              · rintro ((h | ⟨h1, h2⟩) | h)
                · exact .inl h
                · exact .inr ⟨h1, .inl h2⟩
                · exact .inr ⟨s1, .inr h⟩
              · rintro (h | ⟨h1, h2 | h2⟩)
                · exact .inl (.inl h)
                · exact .inl (.inr ⟨h1, h2⟩)
                · exact .inr h2⟩
          refine c_b (fun hbt => ?_) (fun hbf => ?_)
          · have g23P := hxP.some g23 (by omega)
            have hto := kk.2.2.1
            have pbt := pn_b hN kk.2.2.1
            have pit := pq_in hN kk.2.2.1 hto
            refine w_offP (w_rdP g23P (v := slB ir m.n) rfl ?_)
            refine w_offP (w_rdP gCP (v := .int .i64 o.2.2.1) rfl (w_mul (by omega) (by omega) ?_))
            refine w_offP (w_rdP gCP (v := .int .i64 o.2.2.1) rfl (w_add (by omega) (by omega) ?_))
            refine w_idxP pit.1 pit.2 ?_
            refine rP.put hN kk.2.2.1 hto fun hZ y1 y2 y3 => ?_
            refine w_add (by omega) (by omega) ?_
            exact nextp _ _ ⟨e0, e2, e4', e7, e8, e10, e11⟩ e12 eK eC rfl (hxP.trans y1) (y1.some gCP pc) (y3.imp fun a b _ _ => or_congr Iff.rfl ⟨fun h => ⟨hbR.1 hbt, h⟩, fun h => h.2⟩)
          · refine w_add (by omega) (by omega) ?_
            exact nextp _ _ ⟨e0, e2, e4', e7, e8, e10, e11⟩ e12 eK eC rfl hxP gCP (rP.imp fun a b _ _ => ⟨.inl, fun h => h.elim id fun h => by rw [hbR.2 h.1] at hbf; cases hbf⟩)
        · iterate 7 refine gd_tf p4 ?_
          refine pk_ff p4 ?_
          refine c_f ?_
          refine w_add (by omega) (by omega) ?_
          exact leave (.inl (by omega)) _ ⟨e0, e2, e4', e7, e8, e10, e11⟩ e12 rfl
      -- all rules are through
      have hje : j = m.opens.length := by omega
      rw [hje, List.take_length] at rc
      have gnE := (X hx9).some gn
      have raE := ra.ex (X hx9)
      have tuE := tu.ex (X hx9)
      have xE : Ex h2 h9 := hx.trans (X hx9)
      have k9 := hx9.len
      rw [e12]
      refine w_rdPA (n := 2) (((Ex.res h9)).some gnE) (Nat.le_refl 2) ?_
      refine w_some (bldSl_one rfl (by decide) rfl rfl) ?_
      refine n_res (n_new ?_)
      refine tuE.push (lv := st.1) raE hne hnu i0lt (by omega) (by omega) (by omega) fun vu' h37 t37 l37 k37 id37 => ?_
      have x37 : Ex h2 h37 := ⟨by have := xE.len; omega, fun j hj => (k37 j (by have := xE.len; omega) (fun hh => by have := hvu j hh; omega)).trans (xE.get j hj)⟩
      refine w_idxN eI_len hw2 hz fun q hq => ⟨PtrTo.ids hq (xE.trans (.app _ _)) x37, PtrTo.ids hq (xE.trans (Ex.res _)) (xE.trans (.app _ _)), ?_⟩
      refine w_rd1 (PtrTo.ex hq x37) rfl ?_
      have g37 : h37[ir + 1]? = some (.row (lvC ir m.n st.1.bys) true) := (k37 _ (by omega) (fun hh => by have := hvu _ hh; omega)).trans (hx9.some g23 (by omega))
      refine w_offP (w_stP g37 (show 1 < 2 by omega) rfl rfl ?_)
      have hb37 := lt_of_get g37
      have g38 := get_set h37 hb37 (.row ((lvC ir m.n st.1.bys).set (0 + 1) (.int .i64 z)) true)
      refine w_rdPA (n := 2) g38 (Nat.le_refl 2) ?_
      have nvu' : ∀ j, onId vu' j → pn < j ∧ (j < ir ∨ h9.length ≤ j) := fun j hj => by
        rcases id37 j hj with h | h
        · have := hvu j h; omega
        · omega
      have gn37 : (h37.set (ir + 1) (.row ((lvC ir m.n st.1.bys).set (0 + 1) (.int .i64 z)) true))[pn]? = some (.row (lvC i0 m.n st.1.bys) true) := (get_ne (by omega) _).trans ((k37 _ (by omega) (fun hh => by have := hvu _ hh; omega)).trans gnE)
      refine w_stPA gn37 rfl (Nat.le_refl 2) rfl ?_
      refine w_add (by omega) (by omega) ?_
      refine commit _ (h37.set (ir + 1) (.row ((lvC ir m.n st.1.bys).set (0 + 1) (.int .i64 z)) true)) z (fun q => ∃ o ∈ m.opens, TgO m.n st.1.row z o q) vu' ⟨openRow m st.1.row z, z⟩ (st.2 ++ [st.1]) ⟨e0, e2, e4', e7, e8, rfl, rfl⟩ (x37.set (by omega) _) (by simp; omega) ?_ ?_ (fun hh => by have := nvu' _ hh; omega) hms rfl ?_
      · exact (rc.keep (k37 _ (by omega) (fun hh => by have := hvu _ hh; omega))).keep (get_ne (by omega) _)
      · have := (t37.set (fun hh => by have := nvu' _ hh; omega) (.inl (by omega)) (j := ir + 1) (.row ((lvC ir m.n st.1.bys).set (0 + 1) (.int .i64 z)) true)).mono (c := h37.length) (by omega)
        simpa using this
      · intro p q hp hq
        constructor
        · rintro ⟨o, ho, s1, p', hp', h5, h6⟩
          have e1 : p = o.2.2.1 := congrArg Prod.fst h6
          have e2 : q = o.2.2.1 := congrArg Prod.snd h6
          exact ⟨e1.trans e2.symm, (p', o.1), h5, o, ho, rfl, s1, e1.symm⟩
        · rintro ⟨h1, ⟨a, b⟩, h2, o, ho, h3, h4, h5⟩
          have h1 : p = q := h1
          have h3 : o.1 = b := h3
          have h5 : o.2.2.1 = p := h5
          subst h3
          exact ⟨o, ho, h4, a, (inr _ _ h2).1, h2, Prod.ext h5.symm (show q = o.2.2.1 by rw [h5, h1])⟩
    · rw [if_neg k1] at hms
      refine w_eql (c_dec (fun k2 => ?_) (fun k2 => ?_))
      · rw [if_pos k2] at hms
        refine (tu.ex x23).len (w_gtr (c_dec (fun k3 => ?_) (fun k3 => ?_)))
        · obtain ⟨u, hu⟩ : ∃ u, st.2.getLast? = some u := by
            cases hg : st.2.getLast? with
            | some u => exact ⟨u, rfl⟩
            | none => rw [List.getLast?_eq_none_iff.1 hg] at k3; simp at k3
          rw [hu] at hms
          obtain ⟨us, ib, sus, hus, rbb, hpos⟩ := (tu.ex x23).last hu
          refine (b2.ex hx23).rd fun v207 mv207 => (tu.ex x23).len (w_sub (by omega) (by omega) ?_)
          have e1 : ((st.2.length : Nat) : Int) - 1 = ((st.2.length - 1 : Nat) : Int) := by omega
          rw [e1]
          refine w_idxN (eLv_len m.n) sus hus fun q hq => w_rdA hq rfl ?_
          refine w_rdPA (n := 2) (x23.some gn) (Nat.le_refl 2) ?_
          refine w_idxN eI_len (hw2.ex hx23) hz fun q hq => w_rd1 hq rfl ?_
          refine back53 (l := l) mv207 ok rbb (ra.ex x23) fun h40 jr x40 hjr r40' => ?_
          have g40 := x40.some g23
          refine w_stPA g40 rfl (Nat.le_refl 2) rfl ?_
          have hb40 := lt_of_get g40
          have x2340 := x23.trans x40
          refine (tu.ex x2340).len (w_sub (by omega) (by omega) ?_)
          refine (tu.ex x2340).cut hpos fun vu' t' id' => ?_
          refine w_rdPA (n := 2) (get_set _ hb40 _) (Nat.le_refl 2) ?_
          have gn40 := x2340.some gn
          refine w_stPA ((get_ne (by omega) _).trans gn40) rfl (Nat.le_refl 2) rfl ?_
          refine w_add (by omega) (by omega) ?_
          have hq40 : pn < h40.length := by have := x2340.len; omega
          refine hI (mm - 1) _ _ (by omega) ⟨i + 1, vu', jr, by omega, by omega, ⟨e0, e2, e4', e7, e8, rfl, rfl⟩, ((hx.trans x2340).set (by omega) _).set hpn2 _, by simpa using hq40, ?_, ?_, by omega, fun hh => by have := hvu _ (id' _ hh); omega, ?_⟩
          · rw [hms]
            exact get_set _ (by simpa using hq40) _
          · rw [hms]
            exact (r40'.keep (get_ne (by omega) _)).keep (get_ne (by omega) _)
          · rw [hms]
            have := ((t'.set (j := ir + 1) (fun hh => by have := hvu _ (id' _ hh); omega) (.inl (by omega)) (.row (lvC jr m.n u.bys) true)).set (fun hh => by have := hvu _ (id' _ hh); omega) (.inr rfl) (.row (lvC jr m.n u.bys) true)).mono (c := h40.length) (by have := x2340.len; omega)
            simp only [List.length_set]
            exact this
        · have hnil : st.2 = [] := List.length_eq_zero_iff.1 (by omega)
          have hgl : st.2.getLast? = none := by rw [hnil]; rfl
          rw [hgl] at hms
          refine loopE_intro (fun mm2 e h9 => ∃ j : Nat, j ≤ m.closes.length ∧ mm2 = m.closes.length - j ∧ EvT v0 vw vu h.length pn m.n i e ∧ e 12 = .pointer (some ⟨ir + 1, 0, none⟩) ∧ e 16 = .int .i64 j ∧ Exx ir h23 h9 ∧
            RowAt h9 ir m.n (fun q => ∃ o ∈ m.closes.take j, TgC m.n st.1.row z o q)) m.closes.length
            ⟨0, Nat.zero_le _, rfl, ⟨e0, e2, e4', e7, e8, e10, e11⟩, rfl, rfl, Exx.refl _ _, r23.imp fun p q _ _ => ⟨False.elim, fun ⟨o, ho, _⟩ => by cases ho⟩⟩ ?_
          clear e0 e2 e4' e7 e8 e10 e11
          rintro I2 mm2 E h9 ⟨j, hj, hmm2, ⟨e0, e2, e4', e7, e8, e10, e11⟩, e12, eK, hx9, rc⟩ hI2
          rw [e4', eK, e8, e11]
          have b9 := b2.ex (hx.trans (X hx9))
          refine w_offP (w_rdP b9.row (v := vc) rfl (w_len b9.c (w_lss (c_dec (fun p3 => ?_) (fun p3 => ?_)))))
          · obtain ⟨o, ho⟩ := getElem?_of_lt (l := m.closes) (i := j) (by omega)
            have kk := ok.closes o (List.mem_of_getElem? ho)
            refine w_offP (w_rdP b9.row (v := vc) rfl ?_)
            refine w_idxN (enc := e4) (fun _ => rfl) b9.c ho fun p hp => w_rdA hp rfl ?_
            refine copy4 fun hA' hA xA gA => ?_
            have hxA := hx9.ex xA
            have rcA := rc.ex xA
            have pc : h9.length ≠ ir := by have := hx9.len; omega
            generalize hpc : h9.length = pcl at *
            refine loopE_intro (fun mm3 e hP => ∃ p : Int, 0 ≤ p ∧ p ≤ m.n ∧ mm3 = (m.n - p).toNat ∧ EvT v0 vw vu h.length pn m.n i e ∧ e 12 = .pointer (some ⟨ir + 1, 0, none⟩) ∧ e 16 = .int .i64 j ∧ e 17 = .pointer (some ⟨pcl, 0, none⟩) ∧ e 18 = .int .i64 p ∧ Exx ir h23 hP ∧ hP[pcl]? = some (.row (e4 o) true) ∧
              RowAt hP ir m.n (fun q => (∃ o ∈ m.closes.take j, TgC m.n st.1.row z o q) ∨ (o.2.1 = z ∧ o.2.2.1 = 0) ∧ ∃ p', (0 ≤ p' ∧ p' < p) ∧ st.1.row (p', o.1) ∧ q = (p', o.2.2.2))) (m.n - 0).toNat
              ⟨0, Int.le_refl _, by omega, rfl, ⟨e0, e2, e4', e7, e8, e10, e11⟩, e12, eK, rfl, rfl, hxA, gA, rcA.imp fun p q _ _ => ⟨.inl, fun h => h.elim id fun ⟨_, p', hp', _⟩ => by omega⟩⟩ ?_
            clear e0 e2 e4' e7 e8 e10 e11 e12 eK
            rintro I3 mm3 E3 hP ⟨p, hp0, hpn', hmm3, ⟨e0, e2, e4', e7, e8, e10, e11⟩, e12, eK, eC, eP, hxP, gCP, rP⟩ hI3
            rw [e2, e7, e8, e11, e12, eK, eC, eP]
            have leave : (p = m.n ∨ ¬ (o.2.1 = z ∧ o.2.2.1 = 0)) → ∀ (e' : Env), EvT v0 vw vu h.length pn m.n i e' → e' 12 = .pointer (some ⟨ir + 1, 0, none⟩) → e' 16 = .int .i64 ((j : Int) + 1) → I2 e' hP := by
              intro why e' f1 f2 f3
              refine hI2 (mm2 - 1) _ _ (by omega) ⟨j + 1, by omega, by omega, f1, f2, f3, hxP, rP.imp fun a b _ _ => ?_⟩
              rw [ex_take ho]
              refine or_congr Iff.rfl ?_
              rcases why with rfl | why
              · exact Iff.rfl
              · exact ⟨fun h => (why h.1).elim, fun h => (why h.1).elim⟩
            refine w_lss ?_
            by_cases p4 : p < m.n
            · have hpp : 0 ≤ p ∧ p < m.n := ⟨hp0, p4⟩
              have hxx' := hx.trans (X hxP)
              refine gd_tt p4 (w_offP ?_)
              refine gd_tt p4 (hist_nil (w_rdP gCP (v := .int .i64 o.2.1) rfl ?_))
              refine gd_tt p4 (gd_tt p4 (gd_tt p4 ?_))
              refine w_idxN eI_len (hw2.ex hxx') hz fun q' hq' => ?_
              refine gd_tt p4 (hist_nil (w_rd1 hq' rfl ?_))
              refine gd_tt p4 (w_eql (pk_tt p4 ?_))
              by_cases s1 : o.2.1 = z
              rotate_left
              · iterate 3 refine gd_tf s1 ?_
                refine pk_ff s1 (c_f ?_)
                refine w_add (by omega) (by omega) ?_
                exact leave (.inr fun h => s1 h.1) _ ⟨e0, e2, e4', e7, e8, e10, e11⟩ e12 rfl
              refine gd_tt s1 (w_offP ?_)
              refine gd_tt s1 (hist_nil (w_rdP gCP (v := .int .i64 o.2.2.1) rfl ?_))
              refine gd_tt s1 (w_eql (pk_tt s1 ?_))
              refine c_dec (fun s2 => ?_) (fun s2 => ?_)
              rotate_left
              · refine w_add (by omega) (by omega) ?_
                exact leave (.inr fun h => s2 h.2) _ ⟨e0, e2, e4', e7, e8, e10, e11⟩ e12 rfl
              have gnP := (X hxP).some gn
              have pb := pn_b hN hpp
              have pi := pq_in hN hpp kk.1
              refine w_offP (w_rdP gnP (v := slB i0 m.n) rfl (w_mul (by omega) (by omega) ?_))
              refine w_offP (w_rdP gCP (v := .int .i64 o.1) rfl (w_add (by omega) (by omega) ?_))
              obtain ⟨bl', bo, sb, hb, hbR⟩ := (ra.ex (X hxP)).get hN hpp kk.1
              refine w_idxT (enc := eBo) eBo_len sb pi.1 hb fun pp hpp' => w_rd1 hpp' rfl ?_
              have nextp : ∀ (e' : Env) (hZ : AH), EvT v0 vw vu h.length pn m.n i e' → e' 12 = .pointer (some ⟨ir + 1, 0, none⟩) → e' 16 = .int .i64 j → e' 17 = .pointer (some ⟨pcl, 0, none⟩) → e' 18 = .int .i64 (p + 1) → Exx ir h23 hZ → hZ[pcl]? = some (.row (e4 o) true) →
                  RowAt hZ ir m.n (fun q => ((∃ o ∈ m.closes.take j, TgC m.n st.1.row z o q) ∨ (o.2.1 = z ∧ o.2.2.1 = 0) ∧ ∃ p', (0 ≤ p' ∧ p' < p) ∧ st.1.row (p', o.1) ∧ q = (p', o.2.2.2)) ∨ (st.1.row (p, o.1) ∧ q = (p, o.2.2.2))) → I3 e' hZ :=
                fun e' hZ f1 f2 f3 f4 f5 y1 y2 y3 => hI3 (m.n - (p + 1)).toNat _ _ (by omega) ⟨p + 1, by omega, by omega, rfl, f1, f2, f3, f4, f5, y1, y2, y3.imp fun a b _ _ => by
                  rw [ex_lt hp0]
                  constructor
                  · rintro ((h | ⟨h1, h2⟩) | h)
                    · exact .inl h
                    · exact .inr ⟨h1, .inl h2⟩
                    · exact .inr ⟨⟨s1, s2⟩, .inr h⟩
                  · rintro (h | ⟨h1, h2 | h2⟩)
                    · exact .inl (.inl h)
                    · exact .inl (.inr ⟨h1, h2⟩)
                    · exact .inr h2⟩
              refine c_b (fun hbt => ?_) (fun hbf => ?_)
              · have g23P := hxP.some g23 (by omega)
                have hto := kk.2.2.1
                have pbt := pn_b hN hpp
                have pit := pq_in hN hpp hto
                refine w_offP (w_rdP g23P (v := slB ir m.n) rfl ?_)
                refine w_mul (by omega) (by omega) ?_
                refine w_offP (w_rdP gCP (v := .int .i64 o.2.2.2) rfl (w_add (by omega) (by omega) ?_))
                refine w_idxP pit.1 pit.2 ?_
                refine rP.put hN hpp hto fun hZ y1 y2 y3 => ?_
                refine w_add (by omega) (by omega) ?_
                exact nextp _ _ ⟨e0, e2, e4', e7, e8, e10, e11⟩ e12 eK eC rfl (hxP.trans y1) (y1.some gCP pc) (y3.imp fun a b _ _ => or_congr Iff.rfl ⟨fun h => ⟨hbR.1 hbt, h⟩, fun h => h.2⟩)
              · refine w_add (by omega) (by omega) ?_
                exact nextp _ _ ⟨e0, e2, e4', e7, e8, e10, e11⟩ e12 eK eC rfl hxP gCP (rP.imp fun a b _ _ => ⟨.inl, fun h => h.elim id fun h => by rw [hbR.2 h.1] at hbf; cases hbf⟩)
            · iterate 7 refine gd_tf p4 ?_
              refine pk_ff p4 ?_
              iterate 3 refine gopf ?_
              refine pk_f (c_f ?_)
              refine w_add (by omega) (by omega) ?_
              exact leave (.inl (by omega)) _ ⟨e0, e2, e4', e7, e8, e10, e11⟩ e12 rfl
          have hje : j = m.closes.length := by omega
          rw [hje, List.take_length] at rc
          have k9 := hx9.len
          have gnE := (X hx9).some gn
          rw [e12]
          refine w_rdPA (n := 2) (hx9.some g23 (by omega)) (Nat.le_refl 2) ?_
          refine w_stPA gnE rfl (Nat.le_refl 2) rfl ?_
          refine w_add (by omega) (by omega) ?_
          refine commit _ h9 st.1.bys (fun q => ∃ o ∈ m.closes, TgC m.n st.1.row z o q) vu ⟨lowRow m st.1.row z, st.1.bys⟩ st.2 ⟨e0, e2, e4', e7, e8, e10, rfl⟩ (hx.trans (X hx9)) (by omega) rc ((tu.ex (X hx9)).mono (by omega)) (fun hh => by have := hvu _ hh; omega) hms rfl ?_
          intro p q hp hq
          constructor
          · rintro ⟨o, ho, ⟨s1, s2⟩, p', hp', h5, h6⟩
            have e1 : p = p' := congrArg Prod.fst h6
            have e2 : q = o.2.2.2 := congrArg Prod.snd h6
            subst e1
            exact ⟨o.1, h5, o, ho, rfl, s1, s2, e2.symm⟩
          · rintro ⟨b, h2, o, ho, h3, h4, h5, h6⟩
            have h3 : o.1 = b := h3
            have h6 : o.2.2.2 = q := h6
            subst h3
            exact ⟨o, ho, ⟨h4, h5⟩, p, hp, h2, Prod.ext rfl h6.symm⟩
      · rw [if_neg k2] at hms
        refine loopE_intro (fun mm2 e h9 => ∃ j : Nat, j ≤ m.inners.length ∧ mm2 = m.inners.length - j ∧ EvT v0 vw vu h.length pn m.n i e ∧ e 12 = .pointer (some ⟨ir + 1, 0, none⟩) ∧ e 19 = .int .i64 j ∧ Exx ir h23 h9 ∧
          RowAt h9 ir m.n (fun q => ∃ o ∈ m.inners.take j, TgI m.n st.1.row z o q)) m.inners.length
          ⟨0, Nat.zero_le _, rfl, ⟨e0, e2, e4', e7, e8, e10, e11⟩, rfl, rfl, Exx.refl _ _, r23.imp fun p q _ _ => ⟨False.elim, fun ⟨o, ho, _⟩ => by cases ho⟩⟩ ?_
        clear e0 e2 e4' e7 e8 e10 e11
        rintro I2 mm2 E h9 ⟨j, hj, hmm2, ⟨e0, e2, e4', e7, e8, e10, e11⟩, e12, eK, hx9, rc⟩ hI2
        rw [e4', eK, e8, e11]
        have b9 := b2.ex (hx.trans (X hx9))
        refine w_offP (w_rdP b9.row (v := vn) rfl (w_len b9.n (w_lss (c_dec (fun p3 => ?_) (fun p3 => ?_)))))
        · obtain ⟨o, ho⟩ := getElem?_of_lt (l := m.inners) (i := j) (by omega)
          have kk := ok.inners o (List.mem_of_getElem? ho)
          refine w_offP (w_rdP b9.row (v := vn) rfl ?_)
          refine w_idxN (enc := e3) (fun _ => rfl) b9.n ho fun p hp => w_rdA hp rfl ?_
          refine copy3 fun hA' hA xA gA => ?_
          have hxA := hx9.ex xA
          have rcA := rc.ex xA
          have pc : h9.length ≠ ir := by have := hx9.len; omega
          generalize hpc : h9.length = pcl at *
          refine loopE_intro (fun mm3 e hP => ∃ p : Int, 0 ≤ p ∧ p ≤ m.n ∧ mm3 = (m.n - p).toNat ∧ EvT v0 vw vu h.length pn m.n i e ∧ e 12 = .pointer (some ⟨ir + 1, 0, none⟩) ∧ e 19 = .int .i64 j ∧ e 20 = .pointer (some ⟨pcl, 0, none⟩) ∧ e 21 = .int .i64 p ∧ Exx ir h23 hP ∧ hP[pcl]? = some (.row (e3 o) true) ∧
            RowAt hP ir m.n (fun q => (∃ o ∈ m.inners.take j, TgI m.n st.1.row z o q) ∨ (o.2.1 = z) ∧ ∃ p', (0 ≤ p' ∧ p' < p) ∧ st.1.row (p', o.1) ∧ q = (p', o.2.2))) (m.n - 0).toNat
            ⟨0, Int.le_refl _, by omega, rfl, ⟨e0, e2, e4', e7, e8, e10, e11⟩, e12, eK, rfl, rfl, hxA, gA, rcA.imp fun p q _ _ => ⟨.inl, fun h => h.elim id fun ⟨_, p', hp', _⟩ => by omega⟩⟩ ?_
          clear e0 e2 e4' e7 e8 e10 e11 e12 eK
          rintro I3 mm3 E3 hP ⟨p, hp0, hpn', hmm3, ⟨e0, e2, e4', e7, e8, e10, e11⟩, e12, eK, eC, eP, hxP, gCP, rP⟩ hI3
          rw [e2, e7, e8, e11, e12, eK, eC, eP]
          have leave : (p = m.n ∨ ¬ (o.2.1 = z)) → ∀ (e' : Env), EvT v0 vw vu h.length pn m.n i e' → e' 12 = .pointer (some ⟨ir + 1, 0, none⟩) → e' 19 = .int .i64 ((j : Int) + 1) → I2 e' hP := by
            intro why e' f1 f2 f3
            refine hI2 (mm2 - 1) _ _ (by omega) ⟨j + 1, by omega, by omega, f1, f2, f3, hxP, rP.imp fun a b _ _ => ?_⟩
            rw [ex_take ho]
            refine or_congr Iff.rfl ?_
            rcases why with rfl | why
            · exact Iff.rfl
            · exact ⟨fun h => (why h.1).elim, fun h => (why h.1).elim⟩
          refine w_lss ?_
          by_cases p4 : p < m.n
          · have hpp : 0 ≤ p ∧ p < m.n := ⟨hp0, p4⟩
            have hxx' := hx.trans (X hxP)
            refine gd_tt p4 (w_offP ?_)
            refine gd_tt p4 (hist_nil (w_rdP gCP (v := .int .i64 o.2.1) rfl ?_))
            refine gd_tt p4 (gd_tt p4 (gd_tt p4 ?_))
            refine w_idxN eI_len (hw2.ex hxx') hz fun q' hq' => ?_
            refine gd_tt p4 (hist_nil (w_rd1 hq' rfl ?_))
            refine gd_tt p4 (w_eql (pk_tt p4 ?_))
            refine c_dec (fun s1 => ?_) (fun s1 => ?_)
            rotate_left
            · refine w_add (by omega) (by omega) ?_
              exact leave (.inr s1) _ ⟨e0, e2, e4', e7, e8, e10, e11⟩ e12 rfl
            have gnP := (X hxP).some gn
            have pb := pn_b hN hpp
            have pi := pq_in hN hpp kk.1
            refine w_offP (w_rdP gnP (v := slB i0 m.n) rfl (w_mul (by omega) (by omega) ?_))
            refine w_offP (w_rdP gCP (v := .int .i64 o.1) rfl (w_add (by omega) (by omega) ?_))
            obtain ⟨bl', bo, sb, hb, hbR⟩ := (ra.ex (X hxP)).get hN hpp kk.1
            refine w_idxT (enc := eBo) eBo_len sb pi.1 hb fun pp hpp' => w_rd1 hpp' rfl ?_
            have nextp : ∀ (e' : Env) (hZ : AH), EvT v0 vw vu h.length pn m.n i e' → e' 12 = .pointer (some ⟨ir + 1, 0, none⟩) → e' 19 = .int .i64 j → e' 20 = .pointer (some ⟨pcl, 0, none⟩) → e' 21 = .int .i64 (p + 1) → Exx ir h23 hZ → hZ[pcl]? = some (.row (e3 o) true) →
                RowAt hZ ir m.n (fun q => ((∃ o ∈ m.inners.take j, TgI m.n st.1.row z o q) ∨ (o.2.1 = z) ∧ ∃ p', (0 ≤ p' ∧ p' < p) ∧ st.1.row (p', o.1) ∧ q = (p', o.2.2)) ∨ (st.1.row (p, o.1) ∧ q = (p, o.2.2))) → I3 e' hZ :=
              fun e' hZ f1 f2 f3 f4 f5 y1 y2 y3 => hI3 (m.n - (p + 1)).toNat _ _ (by omega) ⟨p + 1, by omega, by omega, rfl, f1, f2, f3, f4, f5, y1, y2, y3.imp fun a b _ _ => by
                rw [ex_lt hp0]
                constructor
                · rintro ((h | ⟨h1, h2⟩) | h)
                  · exact .inl h
                  · exact .inr ⟨h1, .inl h2⟩
                  · exact .inr ⟨s1, .inr h⟩
                · rintro (h | ⟨h1, h2 | h2⟩)
                  · exact .inl (.inl h)
                  · exact .inl (.inr ⟨h1, h2⟩)
                  · exact .inr h2⟩
            refine c_b (fun hbt => ?_) (fun hbf => ?_)
            · have g23P := hxP.some g23 (by omega)
              have hto := kk.2.2
              have pbt := pn_b hN hpp
              have pit := pq_in hN hpp hto
              refine w_offP (w_rdP g23P (v := slB ir m.n) rfl ?_)
              refine w_mul (by omega) (by omega) ?_
              refine w_offP (w_rdP gCP (v := .int .i64 o.2.2) rfl (w_add (by omega) (by omega) ?_))
              refine w_idxP pit.1 pit.2 ?_
              refine rP.put hN hpp hto fun hZ y1 y2 y3 => ?_
              refine w_add (by omega) (by omega) ?_
              exact nextp _ _ ⟨e0, e2, e4', e7, e8, e10, e11⟩ e12 eK eC rfl (hxP.trans y1) (y1.some gCP pc) (y3.imp fun a b _ _ => or_congr Iff.rfl ⟨fun h => ⟨hbR.1 hbt, h⟩, fun h => h.2⟩)
            · refine w_add (by omega) (by omega) ?_
              exact nextp _ _ ⟨e0, e2, e4', e7, e8, e10, e11⟩ e12 eK eC rfl hxP gCP (rP.imp fun a b _ _ => ⟨.inl, fun h => h.elim id fun h => by rw [hbR.2 h.1] at hbf; cases hbf⟩)
          · iterate 7 refine gd_tf p4 ?_
            refine pk_ff p4 ?_
            refine c_f ?_
            refine w_add (by omega) (by omega) ?_
            exact leave (.inl (by omega)) _ ⟨e0, e2, e4', e7, e8, e10, e11⟩ e12 rfl
        have hje : j = m.inners.length := by omega
        rw [hje, List.take_length] at rc
        have k9 := hx9.len
        have gnE := (X hx9).some gn
        rw [e12]
        refine w_rdPA (n := 2) (hx9.some g23 (by omega)) (Nat.le_refl 2) ?_
        refine w_stPA gnE rfl (Nat.le_refl 2) rfl ?_
        refine w_add (by omega) (by omega) ?_
        refine commit _ h9 st.1.bys (fun q => ∃ o ∈ m.inners, TgI m.n st.1.row z o q) vu ⟨innerRow m st.1.row z, st.1.bys⟩ st.2 ⟨e0, e2, e4', e7, e8, e10, rfl⟩ (hx.trans (X hx9)) (by omega) rc ((tu.ex (X hx9)).mono (by omega)) (fun hh => by have := hvu _ hh; omega) hms rfl ?_
        intro p q hp hq
        constructor
        · rintro ⟨o, ho, s1, p', hp', h5, h6⟩
          have e1 : p = p' := congrArg Prod.fst h6
          have e2 : q = o.2.2 := congrArg Prod.snd h6
          subst e1
          exact ⟨o.1, h5, o, ho, rfl, s1, e2.symm⟩
        · rintro ⟨b, h2, o, ho, h3, h4, h6⟩
          have h3 : o.1 = b := h3
          have h6 : o.2.2 = q := h6
          subst h3
          exact ⟨o, ho, h4, p, hp, h2, Prod.ext rfl h6.symm⟩
  · have hie : i = w.length := by omega
    subst hie
    rw [List.take_length] at gn ra
    have inr := (mrun_in ok w).1
    generalize mrun m l w = st at *
    have b5 := b2.ex hx
    refine loopE_intro (fun mm e hF => ∃ a : Nat, a ≤ m.final.length ∧ mm = m.final.length - a ∧ e 4 = .pointer (some ⟨h.length, 0, none⟩) ∧ e 7 = .int .i64 m.n ∧ e 8 = .pointer (some ⟨pn, 0, none⟩) ∧ e 22 = .int .i64 a ∧ hF = h' ∧ (∀ q ∈ m.final.take a, ∀ p, ¬ st.1.row (p, q))) m.final.length
      ⟨0, Nat.zero_le _, rfl, e4', e7, e8, rfl, rfl, fun q hq => by cases hq⟩ ?_
    clear hI
    rintro I1 mm1 e1 hF ⟨a, ha, hmm1, f4, f7, f8, f22, rfl, hno⟩ hI
    rw [f4, f22]
    refine w_offP (w_rdP b5.row (v := vf) rfl (w_len b5.f (w_lss (c_dec (fun p2 => ?_) (fun p2 => ?_)))))
    · obtain ⟨q, hq⟩ := getElem?_of_lt (l := m.final) (i := a) (by omega)
      have hqi := ok.final q (List.mem_of_getElem? hq)
      refine loopE_intro (fun mm e hG => ∃ p : Int, 0 ≤ p ∧ p ≤ m.n ∧ mm = (m.n - p).toNat ∧ e 4 = .pointer (some ⟨h.length, 0, none⟩) ∧ e 7 = .int .i64 m.n ∧ e 8 = .pointer (some ⟨pn, 0, none⟩) ∧ e 22 = .int .i64 a ∧ e 23 = .int .i64 p ∧ hG = hF ∧ (∀ p', p' < p → ¬ st.1.row (p', q))) (m.n - 0).toNat
        ⟨0, Int.le_refl _, by omega, rfl, f4, f7, f8, f22, rfl, rfl, fun p' hp' hr => by have := (inr _ _ hr).1.1; omega⟩ ?_
      clear f4 f7 f8 f22
      rintro I2 mm2 e2' hG ⟨p, hp0, hpn', hmm2, f4, f7, f8, f22, f23, rfl, hnp⟩ hI2
      rw [f4, f7, f8, f22, f23]
      refine w_lss (c_dec (fun p3 => ?_) (fun p3 => ?_))
      · have hpp : 0 ≤ p ∧ p < m.n := ⟨hp0, p3⟩
        have pb := pn_b hN hpp
        have pi := pq_in hN hpp hqi
        refine w_offP (w_rdP gn (v := slB i0 m.n) rfl (w_mul (by omega) (by omega) ?_))
        refine w_offP (w_rdP b5.row (v := vf) rfl (w_idxN eI_len b5.f hq fun q' hq' => w_rd1 hq' rfl (w_add (by omega) (by omega) ?_)))
        obtain ⟨bl', bo, sb, hb, hbR⟩ := ra.get hN hpp hqi
        refine w_idxT (enc := eBo) eBo_len sb pi.1 hb fun pp hpp => w_rd1 hpp rfl (c_b (fun ht => ?_) (fun hf => ?_))
        · exact k _ true (x12.trans hx) ⟨fun _ => ⟨p, q, hbR.1 ht, List.mem_of_getElem? hq⟩, fun _ => rfl⟩
        · refine w_add (by omega) (by omega) ?_
          refine hI2 (m.n - (p + 1)).toNat _ _ (by omega) ⟨p + 1, by omega, by omega, rfl, f4, f7, f8, f22, rfl, rfl, fun p' hp' hr => ?_⟩
          by_cases e : p' = p
          · rw [e] at hr
            rw [hbR.2 hr] at hf
            cases hf
          · exact hnp p' (by omega) hr
      · refine w_add (by omega) (by omega) ?_
        refine hI (mm1 - 1) _ _ (by omega) ⟨a + 1, by omega, by omega, f4, f7, f8, rfl, rfl, fun q' hq' p' hr => ?_⟩
        rw [take_succ_get hq] at hq'
        rcases List.mem_append.1 hq' with h | h
        · exact hno q' h p' hr
        · rw [List.mem_singleton.1 h] at hr
          exact hnp p' (by have := (inr _ _ hr).1; omega) hr
    · have hae : a = m.final.length := by omega
      rw [hae, List.take_length] at hno
      exact k _ false (x12.trans hx) ⟨fun h => (by cases h), fun ⟨p, q, h1, h2⟩ => (hno q h2 p h1).elim⟩
end Go.Proofs.Ytebbjimmgblcpaa.W
end

section
/- FeedTakes: the walk. Conditions: none. -/
namespace Go.Proofs.Ytebbjimmgblcpaa.W
open Go Go.AM FeedM
set_option linter.unusedVariables false
set_option maxRecDepth 100000

theorem deep_err0 {l : List Sy} {m : Mach} {d : Int} {w : List Int} {r : Int} {st : FS} {k : Nat} {x : Sy} (g : Good l m d w r st) (ok : okSy l) (hx : l[k]? = some x) (h1 : x.2 = 1) (hd : (opn l w : Int) = d) :
    (FeedM.write st (signOf x)).e = 13 := by
  have h := (deep_err g ok hx h1 hd).1
  rw [write_app] at h
  by_cases e : (FeedM.write st (signOf x)).e = 0
  · exfalso
    have p := (deep_err g ok hx h1 hd).2.2
    obtain ⟨hi, ⟨c, h2, hc⟩, _⟩ := ok _ _ hx
    have hs : signOf x = [60, c, 62] := by unfold signOf; rw [if_pos h1, h2]; rfl
    rw [hs, lex_open g.s g.e hc] at e
    have hidx : idxOf ([c], 1) st.l = k := by
      have : x = ([c], 1) := by rw [← h1, ← h2]
      rw [g.hl, ← this, hi]
    have hsym : FeedM.sym { st with s := [60, c], at_ := st.read, read := st.read + 2 } [c] 1 = FeedM.wrong { st with s := [], at_ := st.read, read := st.read + 2 } 13 st.read := by
      unfold FeedM.sym
      dsimp only
      rw [hidx, if_neg (by omega), if_pos ⟨rfl, by rw [g.deep, g.under]; omega⟩]
    have hw : FeedM.wrong { st with s := [], at_ := st.read, read := st.read + 2 } 13 st.read = { st with s := [], at_ := st.read, read := st.read + 2, e := 13, place := st.read } := by
      unfold FeedM.wrong
      rw [if_pos g.e]
    rw [hsym, hw] at e
    exact absurd e (by simp [rd1])
  · rw [write_err e] at h
    exact h

theorem deep_any {l : List Sy} {m : Mach} {d : Int} (hd0 : 0 ≤ d) {w : List Int} {s : List UInt8} (ok : okSy l) (t : TextOf l w s) : ¬ Low l d w → (FeedM.write (FeedM.new l m d) s).e = 13 := by
  induction t with
  | nil => exact fun h => (h fun n => by rw [List.take_nil]; exact hd0).elim
  | @snoc w s sep k x t hx hk hb hc ih =>
    intro nlow
    rw [write_app]
    by_cases lw : Low l d w
    · have p := text_pre (m := m) ok t lw
      have hk' : kindAt l k.toNat = x.2 := by unfold kindAt; rw [hx]
      have big : ¬ (opn l (w ++ [k]) : Int) ≤ d := by
        intro hle
        refine nlow fun n => ?_
        by_cases q : n ≤ w.length
        · rw [List.take_append_of_le_length q]
          exact lw n
        · rw [List.take_of_length_le (by simp; omega)]
          exact hle
      have lst := lw.last
      rw [opn_snoc] at big
      unfold ostep at big
      rw [hk'] at big
      have h1 : x.2 = 1 := by
        refine Classical.byContradiction fun h1 => ?_
        rw [if_neg h1] at big
        split at big <;> omega
      rw [if_pos h1] at big
      have hd : (opn l w : Int) = d := by omega
      generalize FeedM.write (FeedM.new l m d) s = st at *
      cases sep with
      | cons c sep =>
        rw [List.cons_append, write_cons p.e, write_app]
        have g := blank_pre p (hb c (by simp))
        have g := blanks_good (sep := sep) g fun c hc => hb c (List.mem_cons_of_mem _ hc)
        exact deep_err0 g ok hx h1 hd
      | nil =>
        rw [List.nil_append]
        by_cases q : st.s = []
        · have g := p.good
          rw [ended_nil q] at g
          exact deep_err0 g ok hx h1 hd
        · have : FeedM.write st (signOf x) = FeedM.write (FeedM.ended st) (signOf x) := by
            have : ∃ r, signOf x = 60 :: r := by
              unfold signOf
              rw [if_pos h1]; exact ⟨_, rfl⟩
            obtain ⟨r, hr⟩ := this
            rw [hr, write_cons p.e, write_cons p.good.e, step_ended p (by decide)]
          rw [this]
          exact deep_err0 p.good ok hx h1 hd
    · have := ih lw
      rw [write_err (by omega)]
      exact this

end Go.Proofs.Ytebbjimmgblcpaa.W
end

section
/- The document's feed, as plain mathematics; it goes along with the program's. Conditions: none. -/
namespace Go.Proofs.Ytebbjimmgblcpaa.W
open Go Go.AM FeedM
set_option linter.unusedVariables false
set_option maxRecDepth 100000

structure RS where
  l : List Sy
  m : Mach
  max : Int
  n : Int
  from_ : Int
  tok : List UInt8
  w : List Int
  opn : Int
  err : Int
  fail : Int
  fin : Bool

def letB (s : List UInt8) : Bool := s.all letter && decide (0 < s.length) && decide (s.length ≤ 8)
def rread1 (s : List UInt8) : Sy :=
  if s.head? = some 60 ∧ s.getLast? = some 62 then (if 2 < s.length ∧ s[1]? = some 47 then ((s.drop 2).take (s.length - 1 - 2), 2) else ((s.drop 1).take (s.length - 1 - 1), 1)) else (s, 3)
def rwrong (rs : RS) (e a : Int) : RS := { rs with err := e, fail := a }
def rwhole (rs : RS) : RS :=
  if letB (rread1 rs.tok).1 = false ∨ idxOf (rread1 rs.tok) rs.l < 0 then rwrong { rs with tok := [] } 12 rs.from_
  else if (rread1 rs.tok).2 = 1 ∧ rs.max ≤ rs.opn then rwrong { rs with tok := [] } 13 rs.from_
  else { rs with tok := [], opn := if (rread1 rs.tok).2 = 1 then rs.opn + 1 else if (rread1 rs.tok).2 = 2 then max (rs.opn - 1) 0 else rs.opn, w := rs.w ++ [idxOf (rread1 rs.tok) rs.l] }
def nameLen (s : List UInt8) : Nat := (s.filter letter).length
def headLet (s : List UInt8) : Bool := match s with
  | c :: _ => letter c
  | [] => false
def routside (rs : RS) (c : UInt8) : RS := if c = 32 ∨ c = 9 ∨ c = 10 then rs else if c = 60 ∨ letter c = true then { rs with from_ := rs.n, tok := [c] } else rwrong rs 12 rs.n
def rinside (rs : RS) (c : UInt8) : RS :=
  if letter c = true ∧ nameLen rs.tok < 8 then { rs with tok := rs.tok ++ [c] }
  else if c = 47 ∧ rs.tok = [60] then { rs with tok := [60, 47] }
  else if (c = 62 ∧ rs.tok.head? = some 60) ∧ 0 < nameLen rs.tok then rwhole { rs with tok := rs.tok ++ [62] }
  else if headLet rs.tok = true ∧ letter c = false then (if (rwhole rs).err = 0 then routside (rwhole rs) c else rwhole rs)
  else rwrong rs 12 rs.from_
def rstep1 (rs : RS) (c : UInt8) : RS := if rs.tok = [] then routside rs c else rinside rs c
def rstep (rs : RS) (c : UInt8) : RS := { rstep1 rs c with n := (rstep1 rs c).n + 1 }
def rwrite : RS → List UInt8 → RS
  | rs, [] => rs
  | rs, c :: t => if rs.err = 0 then rwrite (rstep rs c) t else rs
def rshut1 (rs : RS) : RS := if rs.err = 0 ∧ rs.tok ≠ [] then (if headLet rs.tok = true then rwhole rs else rwrong rs 12 rs.from_) else rs
def rshut (rs : RS) : RS := rshut1 { rs with fin := true }
def rnew (l : List Sy) (m : Mach) (mx : Int) : RS := ⟨l, m, mx, 0, 0, [], [], 0, 0, 0, false⟩

def lets (s : List UInt8) : Prop := ∀ c ∈ s, letter c = true
/-- what a token that is begun looks like. -/
inductive TokOK : List UInt8 → Prop
  | nil : TokOK []
  | plain (c : UInt8) (t : List UInt8) : letter c = true → lets t → t.length ≤ 7 → TokOK (c :: t)
  | op (t : List UInt8) : lets t → t.length ≤ 8 → TokOK (60 :: t)
  | cl (t : List UInt8) : lets t → t.length ≤ 8 → TokOK (60 :: 47 :: t)

theorem lets_filter {t : List UInt8} (h : lets t) : nameLen t = t.length := by
  unfold nameLen
  rw [List.filter_eq_self.2 h]
theorem lets_all {t : List UInt8} (h : lets t) (h0 : 0 < t.length) (h8 : t.length ≤ 8) : letB t = true := by
  unfold letB
  rw [Bool.and_eq_true, Bool.and_eq_true, List.all_eq_true]
  exact ⟨⟨h, decide_eq_true h0⟩, decide_eq_true h8⟩

structure Sim (l : List Sy) (m : Mach) (deep mx : Int) (st : FS) (rs : RS) : Prop where
  m1 : st.m = m
  l1 : st.l = l
  d1 : st.deep = deep
  m2 : rs.m = m
  l2 : rs.l = l
  d2 : rs.max = mx
  s : st.s = rs.tok
  at_ : st.s ≠ [] → st.at_ = rs.from_
  rd : st.read = rs.n
  w : st.word = rs.w
  e : st.e = rs.err
  pl : st.place = rs.fail
  e0 : st.e = 0 → st.place = 0
  op : rs.opn = st.under.length
  lv : (st.now, st.under) = mrun m l st.word
  win : ∀ k ∈ st.word, 0 ≤ k ∧ k < (l.length : Nat)
  tok : TokOK st.s
  cl : st.closed = rs.fin

/-- bounds that tell the same, as far as one comes -/
def SameD (deep mx : Int) : Prop := ∀ u : Nat, u < room40 → (deep ≤ u ↔ mx ≤ u)

theorem idx_kind {l : List Sy} {x : Sy} (h : ¬ idxOf x l < 0) : kindAt l (idxOf x l).toNat = x.2 ∧ 0 ≤ idxOf x l ∧ idxOf x l < (l.length : Nat) := by
  unfold idxOf at h ⊢
  cases hf : l.findIdx? (fun y => decide (x = y)) with
  | none => rw [hf] at h; exact (h (by decide)).elim
  | some i =>
    rw [hf] at h
    obtain ⟨hi, h2, _⟩ := List.findIdx?_eq_some_iff_getElem.1 hf
    have h2 : x = l[i] := of_decide_eq_true h2
    refine ⟨?_, by show (0 : Int) ≤ (i : Int); omega, by show (i : Int) < _; omega⟩
    show kindAt l ((i : Int).toNat) = x.2
    unfold kindAt
    rw [Int.toNat_natCast, List.getElem?_eq_getElem hi, ← h2]

/-- a token is whole in both. -/
theorem sim_whole {l : List Sy} {m : Mach} {deep mx : Int} {st : FS} {rs : RS} (sd : SameD deep mx) (hu : st.under.length < room40) (S : Sim l m deep mx { st with s := [] } { rs with tok := [] }) (ha : st.at_ = rs.from_) (he : st.e = 0) {n : List UInt8} {k : Int} (hr : rread1 rs.tok = (n, k)) (hl : letB n = true) :
    Sim l m deep mx (FeedM.sym st n k) (rwhole rs) := by
  have hi : st.l = l := S.l1
  have hi2 : rs.l = l := S.l2
  have hop : rs.opn = st.under.length := S.op
  have hd1 : st.deep = deep := S.d1
  have hd2 : rs.max = mx := S.d2
  have herr : rs.err = 0 := S.e.symm.trans he
  unfold FeedM.sym rwhole
  have hx1 : idxOf (n, k) st.l = idxOf (n, k) l := by rw [hi]
  have hx2 : idxOf (n, k) rs.l = idxOf (n, k) l := by rw [hi2]
  rw [hr, hx1, hx2]
  dsimp only
  by_cases k0 : idxOf (n, k) l < 0
  · rw [if_pos k0, if_pos (.inr k0)]
    unfold FeedM.wrong rwrong
    rw [if_pos (show ({ st with s := [] } : FS).e = 0 from he)]
    exact ⟨S.m1, S.l1, S.d1, S.m2, S.l2, S.d2, rfl, fun h => (h rfl).elim, S.rd, S.w, rfl, ha, (fun h => by cases h), S.op, S.lv, S.win, .nil, S.cl⟩
  have hor : ¬ (letB n = false ∨ idxOf (n, k) l < 0) := by
    rintro (h | h)
    · rw [hl] at h; cases h
    · exact k0 h
  rw [if_neg k0, if_neg hor]
  have hdd : (k = 1 ∧ st.deep ≤ (st.under.length : Nat)) ↔ (k = 1 ∧ rs.max ≤ rs.opn) := by rw [hop, hd1, hd2, sd _ hu]
  by_cases k1 : k = 1 ∧ st.deep ≤ (st.under.length : Nat)
  · rw [if_pos k1, if_pos (hdd.1 k1)]
    unfold FeedM.wrong rwrong
    rw [if_pos (show ({ st with s := [] } : FS).e = 0 from he)]
    exact ⟨S.m1, S.l1, S.d1, S.m2, S.l2, S.d2, rfl, fun h => (h rfl).elim, S.rd, S.w, rfl, ha, (fun h => by cases h), S.op, S.lv, S.win, .nil, S.cl⟩
  rw [if_neg k1, if_neg (fun h => k1 (hdd.2 h))]
  obtain ⟨q1, q2, q3⟩ := idx_kind k0
  have hw : st.word = rs.w := S.w
  have lv : (st.now, st.under) = mrun m l st.word := S.lv
  have hm : st.m = m := S.m1
  have hms := mrun_snoc m l st.word (idxOf (n, k) l)
  rw [← lv] at hms
  unfold mstep at hms
  rw [q1] at hms
  have win : ∀ j ∈ st.word ++ [idxOf (n, k) l], 0 ≤ j ∧ j < (l.length : Nat) := mem_snoc S.win ⟨q2, q3⟩
  dsimp only at hms
  by_cases a1 : k = 1
  · rw [if_pos a1] at hms
    rw [if_pos a1, if_pos a1]
    exact ⟨S.m1, S.l1, S.d1, S.m2, S.l2, S.d2, rfl, fun h => (h rfl).elim, S.rd, by rw [← hw]; rfl, S.e, S.pl, S.e0, by show rs.opn + 1 = ((st.under ++ [st.now]).length : Nat); rw [hop]; simp, by rw [← hm] at hms; exact hms.symm ▸ (by rw [hm]; rfl), win, .nil, S.cl⟩
  rw [if_neg a1] at hms
  rw [if_neg a1, if_neg a1]
  by_cases a2 : k = 2
  · rw [if_pos a2] at hms
    rw [if_pos a2, if_pos a2]
    unfold FeedM.closedBy
    dsimp only
    cases hg : st.under.getLast? with
    | none =>
      rw [hg] at hms
      have hnil := List.getLast?_eq_none_iff.1 hg
      exact ⟨S.m1, S.l1, S.d1, S.m2, S.l2, S.d2, rfl, fun h => (h rfl).elim, S.rd, by rw [← hw], S.e, S.pl, S.e0, by show max (rs.opn - 1) 0 = ((st.under.length : Nat) : Int); rw [hop, hnil]; rfl, by dsimp only at hms ⊢; rw [hms, hm], win, .nil, S.cl⟩
    | some u =>
      rw [hg] at hms
      have hne : st.under ≠ [] := by intro h; rw [h] at hg; cases hg
      have hpos := List.length_pos_iff.2 hne
      exact ⟨S.m1, S.l1, S.d1, S.m2, S.l2, S.d2, rfl, fun h => (h rfl).elim, S.rd, by rw [← hw], S.e, S.pl, S.e0, by show max (rs.opn - 1) 0 = ((st.under.dropLast.length : Nat) : Int); rw [hop, List.length_dropLast]; omega, by dsimp only at hms ⊢; rw [hms, hm], win, .nil, S.cl⟩
  · rw [if_neg a2] at hms
    rw [if_neg a2, if_neg a2]
    exact ⟨S.m1, S.l1, S.d1, S.m2, S.l2, S.d2, rfl, fun h => (h rfl).elim, S.rd, by rw [← hw]; rfl, S.e, S.pl, S.e0, S.op, (by show (_, _) = mrun m l (st.word ++ [idxOf (n, k) l]); rw [hms, ← hm]; rfl), win, .nil, S.cl⟩
end Go.Proofs.Ytebbjimmgblcpaa.W
end

section
/- The document's feed goes along with the program's: bytes, the end. Conditions: none. -/
namespace Go.Proofs.Ytebbjimmgblcpaa.W
open Go Go.AM FeedM
set_option linter.unusedVariables false
set_option maxRecDepth 100000

section
variable {l : List Sy} {m : Mach} {deep mx : Int} {st : FS} {rs : RS}

theorem Sim.app (S : Sim l m deep mx st rs) {c : UInt8} (hne : st.s ≠ []) (ht : TokOK (st.s ++ [c])) : Sim l m deep mx { st with s := st.s ++ [c] } { rs with tok := rs.tok ++ [c] } :=
  ⟨S.m1, S.l1, S.d1, S.m2, S.l2, S.d2, by show st.s ++ [c] = rs.tok ++ [c]; rw [S.s], fun _ => S.at_ hne, S.rd, S.w, S.e, S.pl, S.e0, S.op, S.lv, S.win, ht, S.cl⟩
theorem Sim.wrong (S : Sim l m deep mx st rs) (he : st.e = 0) {a b : Int} (hab : a = b) : Sim l m deep mx (FeedM.wrong st 12 a) (rwrong rs 12 b) := by
  unfold FeedM.wrong rwrong
  rw [if_pos he]
  exact ⟨S.m1, S.l1, S.d1, S.m2, S.l2, S.d2, S.s, S.at_, S.rd, S.w, rfl, hab, (fun h => by cases h), S.op, S.lv, S.win, S.tok, S.cl⟩
theorem Sim.cut (S : Sim l m deep mx st rs) : Sim l m deep mx { st with s := [] } { rs with tok := [] } :=
  ⟨S.m1, S.l1, S.d1, S.m2, S.l2, S.d2, rfl, fun h => (h rfl).elim, S.rd, S.w, S.e, S.pl, S.e0, S.op, S.lv, S.win, .nil, S.cl⟩
theorem Sim.read (S : Sim l m deep mx st rs) : Sim l m deep mx { st with read := st.read + 1 } { rs with n := rs.n + 1 } :=
  ⟨S.m1, S.l1, S.d1, S.m2, S.l2, S.d2, S.s, S.at_, by show st.read + 1 = rs.n + 1; rw [S.rd], S.w, S.e, S.pl, S.e0, S.op, S.lv, S.win, S.tok, S.cl⟩

theorem wrong_s (st : FS) (e p : Int) : (FeedM.wrong st e p).s = st.s := by unfold FeedM.wrong; split <;> rfl
theorem closedBy_s (st : FS) (k : Int) : (FeedM.closedBy st k).s = st.s := by unfold FeedM.closedBy; split <;> rfl
theorem sym_s (st : FS) (n : List UInt8) (k : Int) : (FeedM.sym st n k).s = [] := by
  unfold FeedM.sym
  split
  · rw [wrong_s]
  split
  · rw [wrong_s]
  dsimp only
  split
  · rfl
  split
  · rw [closedBy_s]
  · rfl

theorem sim_first (S : Sim l m deep mx st rs) (he : st.e = 0) (hs : st.s = []) (c : UInt8) : Sim l m deep mx (FeedM.first st c) (routside rs c) := by
  unfold FeedM.first routside
  by_cases h1 : c = 32 ∨ c = 9 ∨ c = 10
  · rw [if_pos h1, if_pos h1]; exact S
  rw [if_neg h1, if_neg h1]
  by_cases h2 : letter c = true ∨ c = 60
  · rw [if_pos h2, if_pos h2.symm, hs, List.nil_append]
    refine ⟨S.m1, S.l1, S.d1, S.m2, S.l2, S.d2, rfl, fun _ => S.rd, S.rd, S.w, S.e, S.pl, S.e0, S.op, S.lv, S.win, ?_, S.cl⟩
    rcases h2 with h | rfl
    · exact .plain c [] h (fun _ h => by cases h) (Nat.zero_le _)
    · exact .op [] (fun _ h => by cases h) (Nat.zero_le _)
  · rw [if_neg h2, if_neg (fun h => h2 h.symm)]
    exact S.wrong he S.rd

theorem letter_ne {c d : UInt8} (h : letter c = true) (hd : letter d = false) : c ≠ d := by
  rintro rfl; rw [h] at hd; cases hd
theorem lets_snoc {t : List UInt8} {c : UInt8} (h : lets t) (hc : letter c = true) : lets (t ++ [c]) := mem_snoc h hc
theorem rread_plain {c : UInt8} {t : List UInt8} (h : letter c = true) : rread1 (c :: t) = (c :: t, 3) := by
  unfold rread1
  rw [if_neg]
  rintro ⟨h1, _⟩
  exact letter_ne h (by decide : letter 60 = false) (Option.some.inj h1)

theorem more_op {t : List UInt8} (ht : lets t) : fromKind (60 :: t) = (1, 1) := by
  unfold fromKind
  rw [if_pos (show (60 :: t).head? = some 60 from rfl), if_neg]
  intro h
  cases t with
  | nil => cases h
  | cons d t => exact letter_ne (ht d (by simp)) (by decide : letter 47 = false) (Option.some.inj h)
theorem more_cl {t : List UInt8} : fromKind (60 :: 47 :: t) = (2, 2) := by unfold fromKind; simp
theorem nameLen_op {t : List UInt8} (ht : lets t) : nameLen (60 :: t) = t.length := by
  have : nameLen (60 :: t) = nameLen t := by unfold nameLen; rw [List.filter_cons_of_neg (by decide)]
  rw [this, lets_filter ht]
theorem nameLen_cl {t : List UInt8} (ht : lets t) : nameLen (60 :: 47 :: t) = t.length := by
  have : nameLen (60 :: 47 :: t) = nameLen t := by unfold nameLen; rw [List.filter_cons_of_neg (by decide), List.filter_cons_of_neg (by decide)]
  rw [this, lets_filter ht]
theorem rread_op {t : List UInt8} (ht : lets t) (h0 : 0 < t.length) : rread1 (60 :: t ++ [62]) = (t, 1) := by
  unfold rread1
  have h1 : (60 :: t ++ [62]).getLast? = some 62 := by rw [List.getLast?_append]; rfl
  have h2 : ¬ (2 < (60 :: t ++ [62]).length ∧ (60 :: t ++ [62])[1]? = some 47) := by
    rintro ⟨_, h⟩
    cases t with
    | nil => cases h0
    | cons d t => exact letter_ne (ht d (by simp)) (by decide : letter 47 = false) (Option.some.inj h)
  rw [if_pos ⟨rfl, h1⟩, if_neg h2]
  have : ((60 :: t ++ [62]).drop 1).take ((60 :: t ++ [62]).length - 1 - 1) = t := by simp
  rw [this]
theorem rread_cl {t : List UInt8} (h0 : 0 < t.length) : rread1 (60 :: 47 :: t ++ [62]) = (t, 2) := by
  unfold rread1
  have h1 : (60 :: 47 :: t ++ [62]).getLast? = some 62 := by
    rw [List.getLast?_append]; rfl
  rw [if_pos ⟨rfl, h1⟩, if_pos ⟨by simp, rfl⟩]
  have : ((60 :: 47 :: t ++ [62]).drop 2).take ((60 :: 47 :: t ++ [62]).length - 1 - 2) = t := by simp
  rw [this]

theorem sim_ended (sd : SameD deep mx) (S : Sim l m deep mx st rs) (he : st.e = 0) (hu : st.under.length < room40) {c : UInt8} {t : List UInt8} (hs : st.s = c :: t) (hc : letter c = true) (ht : lets t) (h7 : t.length ≤ 7) : Sim l m deep mx (FeedM.ended st) (rwhole rs) := by
  have : FeedM.ended st = FeedM.sym st st.s 3 := by
    unfold FeedM.ended
    rw [hs]
    dsimp only
    rw [if_pos hc]
  rw [this, hs]
  refine sim_whole sd hu S.cut (S.at_ (by rw [hs]; simp)) he (by rw [← S.s, hs]; exact rread_plain hc) (lets_all ?_ (by simp) (by simp; omega))
  intro d hd
  rcases List.mem_cons.1 hd with rfl | hd
  · exact hc
  · exact ht d hd

theorem sim_step (sd : SameD deep mx) (S : Sim l m deep mx st rs) (he : st.e = 0) (hu : st.under.length < room40) (c : UInt8) : Sim l m deep mx (FeedM.step st c) (rstep rs c) := by
  suffices h : Sim l m deep mx (FeedM.step1 (if letter c = true then st else FeedM.ended st) c) (rstep1 rs c) from h.read
  have hss : rs.tok = st.s := S.s.symm
  unfold rstep1
  rw [hss]
  have st1e : ∀ (s : FS), s.e = 0 → s.s ≠ [] → FeedM.step1 s c = FeedM.more s c := by
    intro s h1 h2
    unfold FeedM.step1
    rw [if_neg (fun h => h h1)]
    cases hq : s.s with
    | nil => exact (h2 hq).elim
    | cons _ _ => rfl
  have st1n : ∀ (s : FS), s.e = 0 → s.s = [] → FeedM.step1 s c = FeedM.first s c := by
    intro s h1 h2
    unfold FeedM.step1
    rw [if_neg (fun h => h h1), h2]
  have tok := S.tok
  cases hs : st.s with
  | nil =>
    rw [if_pos rfl]
    have : (if letter c = true then st else FeedM.ended st) = st := by
      split
      · rfl
      · exact ended_nil hs
    rw [this, st1n st he hs]
    exact sim_first S he hs c
  | cons c0 t0 =>
    have hz : ¬ (c0 :: t0 = []) := by simp
    rw [if_neg hz]
    have hne : st.s ≠ [] := by rw [hs]; simp
    unfold rinside
    rw [hss, hs]
    rw [hs] at tok
    generalize htok : c0 :: t0 = tk at tok
    cases tok with
    | nil => cases htok
    | plain c1 t hc ht h7 =>
      have hn : nameLen (c1 :: t) = t.length + 1 := by
        rw [lets_filter (fun d hd => (List.mem_cons.1 hd).elim (fun e => e ▸ hc) (ht d))]
        rfl
      have hfk : fromKind (c1 :: t) = (0, 3) := by
        unfold fromKind
        rw [if_neg]
        intro h
        exact letter_ne hc (by decide : letter 60 = false) (Option.some.inj h)
      rw [hn]
      cases hl : letter c with
      | true =>
        rw [if_pos rfl, st1e st he hne]
        unfold FeedM.more
        dsimp only
        rw [hs, htok, hfk]
        dsimp only [List.length_cons]
        by_cases h8 : t.length + 1 < 8
        · rw [if_pos (.inl ⟨hl, h8⟩), if_pos ⟨rfl, h8⟩]
          have := S.app (c := c) hne (by rw [hs, htok]; exact .plain c1 (t ++ [c]) hc (lets_snoc ht hl) (by simp; omega))
          rw [hs, htok, hss, hs, htok] at this
          exact this
        · have n47 := letter_ne hl (by decide : letter 47 = false)
          have n62 := letter_ne hl (by decide : letter 62 = false)
          rw [if_neg (by rintro (h | h); exact h8 h.2; exact n47 h.1), if_neg (fun h => n62 h.1), if_neg (fun h => h8 h.2), if_neg (fun h => n47 h.1), if_neg (fun h => n62 h.1.1), if_neg (by rintro ⟨_, h⟩; cases h)]
          exact S.wrong he (S.at_ hne)
      | false =>
        rw [if_neg (by decide)]
        rw [if_neg (fun h => by cases h.1), if_neg (fun h => letter_ne hc (by decide : letter 60 = false) (List.head_eq_of_cons_eq h.2)), if_neg (fun h => letter_ne hc (by decide : letter 60 = false) (Option.some.inj h.1.2)), if_pos ⟨hc, rfl⟩]
        have S1 := sim_ended sd S he hu (hs.trans htok) hc ht h7
        have hsn : (FeedM.ended st).s = [] := by
          have : FeedM.ended st = FeedM.sym st st.s 3 := by
            unfold FeedM.ended
            rw [hs, htok]
            dsimp only
            rw [if_pos hc]
          rw [this, sym_s]
        by_cases e1 : (FeedM.ended st).e = 0
        · rw [if_pos (S1.e.symm.trans e1), st1n _ e1 hsn]
          exact sim_first S1 e1 hsn c
        · rw [if_neg (fun h => e1 (S1.e.trans h))]
          have : FeedM.step1 (FeedM.ended st) c = FeedM.ended st := by
            unfold FeedM.step1
            rw [if_pos e1]
          rw [this]
          exact S1
    | op t ht h8 =>
      have hen : (if letter c = true then st else FeedM.ended st) = st := by
        split
        · rfl
        · unfold FeedM.ended
          rw [hs, htok]
          rfl
      rw [hen, st1e st he hne, nameLen_op ht]
      unfold FeedM.more
      dsimp only
      rw [hs, htok, more_op ht]
      have hlen : (60 :: t).length - (1, (1 : Int)).1 = t.length := by simp
      rw [hlen]
      dsimp only
      by_cases a1 : letter c = true ∧ t.length < 8
      · rw [if_pos (.inl a1), if_pos a1]
        have := S.app (c := c) hne (by rw [hs, htok]; exact .op (t ++ [c]) (lets_snoc ht a1.1) (by simp; omega))
        rw [hs, htok, hss, hs, htok] at this
        exact this
      rw [if_neg a1]
      by_cases a2 : c = 47 ∧ (60 :: t) = [60]
      · obtain ⟨rfl, h2⟩ := a2
        have h2 : t = [] := List.tail_eq_of_cons_eq h2
        subst h2
        rw [if_pos (.inr ⟨rfl, rfl, rfl⟩), if_pos ⟨rfl, rfl⟩]
        have := S.app (c := 47) hne (by rw [hs, htok]; exact .cl [] (fun _ h => by cases h) (Nat.zero_le _))
        rw [hs, htok, hss, hs, htok] at this
        exact this
      rw [if_neg (by
        rintro (h | ⟨h1, _, h3⟩)
        · exact a1 h
        · exact a2 ⟨h1, by rw [List.length_eq_zero_iff.1 h3]⟩), if_neg a2]
      by_cases a3 : c = 62 ∧ 0 < t.length
      · obtain ⟨rfl, h0⟩ := a3
        rw [if_pos ⟨rfl, by decide, h0⟩, if_pos ⟨⟨rfl, rfl⟩, h0⟩]
        have hcut : Sim l m deep mx { st with s := [] } { { rs with tok := 60 :: t ++ [62] } with tok := [] } := S.cut
        exact sim_whole (rs := { rs with tok := 60 :: t ++ [62] }) sd hu hcut (S.at_ hne) he (rread_op ht h0) (lets_all ht h0 h8)
      · rw [if_neg (fun h => a3 ⟨h.1, h.2.2⟩), if_neg (fun h => a3 ⟨h.1.1, h.2⟩), if_neg (by rintro ⟨h, _⟩; exact Bool.false_ne_true h)]
        exact S.wrong he (S.at_ hne)
    | cl t ht h8 =>
      have hen : (if letter c = true then st else FeedM.ended st) = st := by
        split
        · rfl
        · unfold FeedM.ended
          rw [hs, htok]
          rfl
      rw [hen, st1e st he hne, nameLen_cl ht]
      unfold FeedM.more
      dsimp only
      rw [hs, htok, more_cl]
      have hlen : (60 :: 47 :: t).length - (2, (2 : Int)).1 = t.length := by simp
      rw [hlen]
      dsimp only
      by_cases a1 : letter c = true ∧ t.length < 8
      · rw [if_pos (.inl a1), if_pos a1]
        have := S.app (c := c) hne (by rw [hs, htok]; exact .cl (t ++ [c]) (lets_snoc ht a1.1) (by simp; omega))
        rw [hs, htok, hss, hs, htok] at this
        exact this
      rw [if_neg a1]
      rw [if_neg (by
        rintro (h | ⟨_, h2, _⟩)
        · exact a1 h
        · exact absurd h2 (by decide)), if_neg (show ¬ (c = 47 ∧ 60 :: 47 :: t = [60]) from by rintro ⟨_, h⟩; cases h)]
      by_cases a3 : c = 62 ∧ 0 < t.length
      · obtain ⟨rfl, h0⟩ := a3
        rw [if_pos ⟨rfl, by decide, h0⟩, if_pos ⟨⟨rfl, rfl⟩, h0⟩]
        have hcut : Sim l m deep mx { st with s := [] } { { rs with tok := 60 :: 47 :: t ++ [62] } with tok := [] } := S.cut
        exact sim_whole (rs := { rs with tok := 60 :: 47 :: t ++ [62] }) sd hu hcut (S.at_ hne) he (rread_cl h0) (lets_all ht h0 h8)
      · rw [if_neg (fun h => a3 ⟨h.1, h.2.2⟩), if_neg (fun h => a3 ⟨h.1.1, h.2⟩), if_neg (by rintro ⟨h, _⟩; exact Bool.false_ne_true h)]
        exact S.wrong he (S.at_ hne)
end

theorem sim_write {l : List Sy} {m : Mach} {deep mx : Int} (sd : SameD deep mx) {b : Nat} : ∀ (t : List UInt8) {st : FS} {rs : RS}, Fit st (5 * t.length + b) → Sim l m deep mx st rs → Sim l m deep mx (FeedM.write st t) (rwrite rs t)
  | [], st, rs, _, S => S
  | c :: t, st, rs, ft, S => by
    unfold rwrite
    by_cases he : st.e = 0
    · rw [write_cons he, if_pos (S.e.symm.trans he)]
      have := ft.ub
      exact sim_write sd t ((ft.mono (c := (5 * t.length + b) + 5) (by simp; omega)).step) (sim_step sd S he (by omega) c)
    · rw [write_err he, if_neg (fun h => he (S.e.trans h))]
      exact S

theorem sim_new (l : List Sy) (m : Mach) (deep mx : Int) : Sim l m deep mx (FeedM.new l m deep) (rnew l m mx) :=
  ⟨rfl, rfl, rfl, rfl, rfl, rfl, rfl, fun h => (h rfl).elim, rfl, rfl, rfl, rfl, fun _ => rfl, rfl, rfl, (fun k hk => by cases hk), .nil, rfl⟩

theorem sim_shut {l : List Sy} {m : Mach} {deep mx : Int} {st : FS} {rs : RS} (sd : SameD deep mx) (S : Sim l m deep mx st rs) (hu : st.under.length < room40) : Sim l m deep mx (FeedM.shut st) (rshut rs) := by
  have S0 : Sim l m deep mx { st with closed := true } { rs with fin := true } := ⟨S.m1, S.l1, S.d1, S.m2, S.l2, S.d2, S.s, S.at_, S.rd, S.w, S.e, S.pl, S.e0, S.op, S.lv, S.win, S.tok, rfl⟩
  unfold rshut rshut1
  by_cases he : st.e = 0
  · have herr : rs.err = 0 := S.e.symm.trans he
    have tok := S.tok
    have hss : rs.tok = st.s := S.s.symm
    cases hs : st.s with
    | nil =>
      rw [if_neg (by rintro ⟨_, h⟩; exact h (hss.trans hs))]
      have : FeedM.shut st = { st with closed := true } := by
        have e2 : FeedM.shut2 st = st := by
          unfold FeedM.shut2
          rw [hs]
        unfold FeedM.shut FeedM.shut1
        rw [if_pos he, ended_nil hs, e2]
      rw [this]
      exact S0
    | cons c0 t0 =>
      have hne : st.s ≠ [] := by rw [hs]; simp
      rw [if_pos ⟨herr, by show rs.tok ≠ []; rw [hss]; exact hne⟩]
      have e1 : headLet ({ rs with fin := true } : RS).tok = letter c0 := by show headLet rs.tok = _; rw [hss, hs]; rfl
      rw [e1]
      rw [hs] at tok
      have notlet : letter c0 = false → Sim l m deep mx (FeedM.shut st) (if letter c0 = true then rwhole { rs with fin := true } else rwrong { rs with fin := true } 12 rs.from_) := by
        intro h
        rw [h, if_neg (by decide)]
        have : FeedM.shut st = FeedM.wrong { st with closed := true } 12 st.at_ := by
          unfold FeedM.shut FeedM.shut1
          rw [if_pos he]
          have : FeedM.ended st = st := by
            unfold FeedM.ended
            rw [hs]
            dsimp only
            rw [if_neg (by rw [h]; decide)]
          have e2 : FeedM.shut2 st = FeedM.wrong st 12 st.at_ := by
            unfold FeedM.shut2
            rw [hs]
          rw [this, e2]
          unfold FeedM.wrong
          rw [if_pos he, if_pos (show ({ st with closed := true } : FS).e = 0 from he)]
        rw [this]
        exact S0.wrong he (S.at_ hne)
      generalize htok : c0 :: t0 = tk at tok
      cases tok with
      | nil => cases htok
      | plain c1 t hc ht h7 =>
        have e2 : c0 = c1 := List.head_eq_of_cons_eq htok
        rw [e2, if_pos hc]
        have : FeedM.shut st = FeedM.ended { st with closed := true } := by
          have en : FeedM.ended st = FeedM.sym st st.s 3 := by
            unfold FeedM.ended
            rw [hs, htok]
            dsimp only
            rw [if_pos hc]
          have en2 : FeedM.ended { st with closed := true } = FeedM.sym { st with closed := true } st.s 3 := by
            unfold FeedM.ended
            rw [hs, htok]
            dsimp only
            rw [if_pos hc]
          have sc : ∀ (n : List UInt8) (k : Int), FeedM.sym { st with closed := true } n k = { FeedM.sym st n k with closed := true } := by
            intro n k
            unfold FeedM.sym
            dsimp only
            split
            · unfold FeedM.wrong
              dsimp only
              split <;> rfl
            split
            · unfold FeedM.wrong
              dsimp only
              split <;> rfl
            split
            · rfl
            split
            · unfold FeedM.closedBy
              dsimp only
              split <;> rfl
            · rfl
          unfold FeedM.shut FeedM.shut1
          rw [if_pos he, en, en2, sc]
          unfold FeedM.shut2
          rw [sym_s]
        rw [this]
        exact sim_ended sd S0 he hu (hs.trans htok) hc ht h7
      | op t ht h8 =>
        have e2 : c0 = 60 := List.head_eq_of_cons_eq htok
        exact notlet (by rw [e2]; decide)
      | cl t ht h8 =>
        have e2 : c0 = 60 := List.head_eq_of_cons_eq htok
        exact notlet (by rw [e2]; decide)
  · rw [if_neg (fun h => he (S.e.trans h.1)), shut_err he]
    exact S0
end Go.Proofs.Ytebbjimmgblcpaa.W
end

section
/- The document's feed: walks of its small functions. Conditions: none. -/
namespace Go.Proofs.Ytebbjimmgblcpaa.W
open Go Go.AM FeedM
set_option linter.unusedVariables false
set_option maxRecDepth 100000

theorem letter58 {c : UInt8} {h : AH} {K : Value → AH → Prop} (k : K (.bool (letter c)) h) : callW Try.prog 58 [.int .u8 c.toNat] h K := by
  refine c58 ?_
  unfold s58
  unfold letter at k
  (repeat' (first | (with_reducible refine w_lss ?_) | (with_reducible refine w_leq ?_) | (with_reducible refine w_gtr ?_) | (with_reducible refine w_geq ?_) | (with_reducible refine w_eql ?_) | (with_reducible refine w_neq ?_) | (with_reducible refine w_lenSl ?_) | (with_reducible refine w_lenStr ?_) | (with_reducible refine w_not ?_) | (with_reducible refine w_add (by omega) (by omega) ?_) | (with_reducible refine w_sub (by omega) (by omega) ?_) | (with_reducible refine w_rem (by omega) (by omega) ?_) | (with_reducible refine w_quo (by omega) (by omega) (by omega) ?_) | (with_reducible refine w_seql ?_) | (with_reducible refine w_sneq ?_) | (with_reducible refine c_t ?_) | (with_reducible refine c_f ?_) | (with_reducible refine c_tt (by first | assumption | omega) ?_) | (with_reducible refine c_ff (by first | assumption | omega) ?_) | (with_reducible refine c_dec (fun hc => ?_) (fun hc => ?_)) | (with_reducible refine c_b (fun hc => ?_) (fun hc => ?_)) | (with_reducible refine gc_tt ?_) | (with_reducible refine gc_ft ?_) | (with_reducible refine gc_tf ?_) | (with_reducible refine gc_ff ?_) | (with_reducible refine g_tt (by first | assumption | omega) ?_) | (with_reducible refine g_tf (by first | assumption | omega) ?_) | (with_reducible refine g_ft (by first | assumption | omega) ?_) | (with_reducible refine g_ff (by first | assumption | omega) ?_) | (with_reducible refine g_dec (fun hc => ?_) (fun hc => ?_)) | (with_reducible refine g_decf (fun hc => ?_) (fun hc => ?_)) | (with_reducible refine pk_t ?_) | (with_reducible refine pk_f ?_) | (with_reducible refine pk_tt (by first | assumption | omega) ?_) | (with_reducible refine pk_ff (by first | assumption | omega) ?_)))
  · have : decide (97 ≤ c.toNat ∧ c.toNat ≤ 122) = decide ((c.toNat : Int) ≤ 122) := by
      rw [Bool.eq_iff_iff]; simp only [decide_eq_true_eq]; omega
    rw [this] at k
    exact k
  · have : decide (97 ≤ c.toNat ∧ c.toNat ≤ 122) = false := by
      rw [decide_eq_false_iff_not]; omega
    rw [this] at k
    exact k

theorem nameLen_snoc (s : List UInt8) (c : UInt8) : nameLen (s ++ [c]) = nameLen s + (if letter c = true then 1 else 0) := by
  unfold nameLen
  rw [List.filter_append, List.length_append]
  congr 1
  split
  · rename_i h; rw [List.filter_cons_of_pos h]; rfl
  · rename_i h; rw [List.filter_cons_of_neg h]; rfl
theorem nameLen_le (s : List UInt8) : nameLen s ≤ s.length := List.length_filter_le _ _

theorem name66 {s : List UInt8} {h : AH} {K : Value → AH → Prop} (hs : s.length ≤ 1000000) (k : K (.int .i64 (nameLen s : Nat)) h) : callW Try.prog 66 [.string (bs s)] h K := by
  refine c66 ?_
  unfold s66
  refine loopE_intro (fun m e h' => ∃ i : Nat, i ≤ s.length ∧ m = s.length - i ∧ e 0 = .string (bs s) ∧ e 3 = .int .i64 (nameLen (s.take i) : Nat) ∧ e 4 = .int .i64 i ∧ h' = h) s.length ⟨0, Nat.zero_le _, rfl, rfl, rfl, rfl, rfl⟩ ?_
  rintro I m e h' ⟨i, hi, hm, e0, e3, e4, rfl⟩ hI
  rw [e0, e3, e4]
  have hle := nameLen_le (s.take i)
  rw [List.length_take] at hle
  refine w_lenStr (w_lss (c_dec (fun q => ?_) (fun q => ?_)))
  · obtain ⟨c, hc⟩ := getElem?_of_lt (l := s) (i := i) (by omega)
    have hsn := nameLen_snoc (s.take i) c
    rw [← take_succ_get hc] at hsn
    refine w_idxStr (by omega) hc (letter58 (c_b (fun hl => ?_) (fun hl => ?_)))
    · rw [if_pos hl] at hsn
      refine w_add (by omega) (by omega) (w_add (by omega) (by omega) ?_)
      exact hI (m - 1) _ _ (by omega) ⟨i + 1, by omega, by omega, e0, (by rw [hsn]; rfl), rfl, rfl⟩
    · rw [if_neg (by rw [hl]; decide)] at hsn
      refine w_add (by omega) (by omega) ?_
      exact hI (m - 1) _ _ (by omega) ⟨i + 1, by omega, by omega, e0, (by rw [hsn]; exact e3), rfl, rfl⟩
  · have : s.take i = s := List.take_of_length_le (by omega)
    rw [this]
    exact k

theorem letters74 {s : List UInt8} {h : AH} {K : Value → AH → Prop} (hs : s.length ≤ 1000000) (k : K (.bool (letB s)) h) : callW Try.prog 74 [.string (bs s)] h K := by
  refine c74 ?_
  unfold s74
  refine loopE_intro (fun m e h' => ∃ i : Nat, i ≤ s.length ∧ m = s.length - i ∧ e 0 = .string (bs s) ∧ e 3 = .int .i64 i ∧ h' = h ∧ (s.take i).all letter = true) s.length ⟨0, Nat.zero_le _, rfl, rfl, rfl, rfl, rfl⟩ ?_
  rintro I m e h' ⟨i, hi, hm, e0, e3, rfl, ha⟩ hI
  rw [e0, e3]
  refine w_lenStr (w_lss (c_dec (fun q => ?_) (fun q => ?_)))
  · obtain ⟨c, hc⟩ := getElem?_of_lt (l := s) (i := i) (by omega)
    have bad : letter c = false → letB s = false := by
      intro hl
      unfold letB
      have : s.all letter = false := by
        rw [List.all_eq_false]
        exact ⟨c, List.mem_of_getElem? hc, by rw [hl]; decide⟩
      rw [this]
      rfl
    refine w_idxStr (by omega) hc (w_lss ?_)
    by_cases q1 : (c.toNat : Int) < 97
    · refine g_ft q1 (g_ft q1 (g_ft q1 (g_ft q1 (pk_tt q1 (c_t ?_)))))
      rw [bad (by unfold letter; rw [decide_eq_false_iff_not]; omega)] at k
      exact k
    · refine g_ff q1 (g_ff q1 (g_ff q1 ?_))
      refine w_idxStr (by omega) hc (g_ff q1 (w_gtr (pk_ff q1 ?_)))
      refine c_dec (fun q2 => ?_) (fun q2 => ?_)
      · rw [bad (by unfold letter; rw [decide_eq_false_iff_not]; omega)] at k
        exact k
      · refine w_add (by omega) (by omega) ?_
        refine hI (m - 1) _ _ (by omega) ⟨i + 1, by omega, by omega, e0, rfl, rfl, ?_⟩
        rw [take_succ_get hc, List.all_append, ha]
        have : letter c = true := by unfold letter; rw [decide_eq_true_eq]; omega
        simp [this]
  · have : s.take i = s := List.take_of_length_le (by omega)
    rw [this] at ha
    unfold letB at k
    rw [ha] at k
    refine w_lenStr (w_gtr ?_)
    by_cases q1 : (0 : Int) < (s.length : Nat)
    · refine g_tt q1 (g_tt q1 (w_lenStr (g_tt q1 (w_leq (pk_tt q1 ?_)))))
      have e1 : (true && decide (0 < s.length) && decide (s.length ≤ 8)) = decide (((s.length : Nat) : Int) ≤ 8) := by
        rw [Bool.eq_iff_iff]; simp; omega
      rw [e1] at k
      exact k
    · refine g_tf q1 (g_tf q1 (g_tf q1 (pk_ff q1 ?_)))
      have e1 : (true && decide (0 < s.length) && decide (s.length ≤ 8)) = false := by
        have : decide (0 < s.length) = false := by rw [decide_eq_false_iff_not]; omega
        rw [this]; rfl
      rw [e1] at k
      exact k

theorem find68 {h : AH} {v : Value} {l : List Sy} {x : Sy} {K : Value → AH → Prop} (hl : Syms h v l) (hn : l.length < 1000000) (k : ∀ h', Ex h h' → K (.int .i64 (idxOf x l)) h') : callW Try.prog 68 [v, .agg (eSy x).toArray] h K := by
  refine c68 ?_
  unfold s68
  refine n_boxv rfl fun h1 x1 l1 g1 => ?_
  refine loopE_intro (fun m e h' => ∃ i : Nat, i ≤ l.length ∧ m = l.length - i ∧ e 0 = v ∧ e 3 = .pointer (some ⟨h.length, 0, none⟩) ∧ e 5 = .int .i64 i ∧ h' = h1 ∧ x ∉ l.take i) l.length ⟨0, Nat.zero_le _, rfl, rfl, rfl, rfl, rfl, by simp⟩ ?_
  rintro I m e h' ⟨i, hi, hm, e0, e3', e5, rfl, hni⟩ hI
  rw [e0, e3', e5]
  refine w_len hl (w_lss (c_dec (fun hc => ?_) (fun hc => ?_)))
  · obtain ⟨y, hy⟩ := getElem?_of_lt (l := l) (i := i) (by omega)
    refine w_idxN eSy_len (hl.ex x1) hy fun p hp => w_rdA hp rfl ?_
    refine w_rdPA (n := 2) g1 (Nat.le_refl 2) ?_
    refine w_syeq (a := y) (b := x) ?_
    refine c_dec (fun he => ?_) (fun he => ?_)
    · subst he
      rw [findIdx_at hni hy] at k
      exact k _ x1
    · refine w_add (by omega) (by omega) ?_
      refine hI (m - 1) _ _ (by omega) ⟨i + 1, by omega, by omega, e0, e3', rfl, rfl, ?_⟩
      rw [take_succ_get hy]
      simp only [List.mem_append, List.mem_singleton, not_or]
      exact ⟨hni, fun e => he e.symm⟩
  · have : l.take i = l := List.take_of_length_le (by omega)
    rw [this] at hni
    rw [findIdx_none hni] at k
    exact k _ x1

theorem res67 (e : Env) (h : AH) : resList Try.prog e h Try.f67.results.toList = (rdRow true 2 (e 2) h).map fun v => [v, e 3] := by
  have h1 : Try.f67.results.toList = [.cell 2 67, .tmp 3] := by kernel_rfl
  have h2 : ∀ x, pLoad Try.prog 67 x h = rdRow true 2 x h := fun x => by kernel_rfl
  rw [h1]
  show (match pLoad Try.prog 67 (e 2) h with
    | some v => match resList Try.prog e h [.tmp 3] with
      | some vs => some (v :: vs)
      | none => none
    | none => none) = _
  rw [h2]
  cases rdRow true 2 (e 2) h <;> rfl

theorem fin67 {E : Value → Value → Value → Value → Env} {h hX : AH} {p4 p2 : Nat} {x : Sy} {c2 : List Value} {K : Value → AH → Prop} (hE2 : ∀ a b c d, E a b c d 2 = .pointer (some ⟨p2, 0, none⟩)) (hE3 : ∀ a b c d, E a b c d 3 = d) (g4 : hX[p4]? = some (.row (eSy x) true)) (g2 : hX[p2]? = some (.row [(.string (bs [])), (.int .i64 0)] true))
    (hx : Ex h hX) (hp : h.length ≤ p2) (hs : x.1.length ≤ 1000000) (k : ∀ h', Ex h h' → K (.tuple #[.agg (eSy x).toArray, .bool (letB x.1)]) h') :
    optW (rdRow true 2 (.pointer (some ⟨p4, 0, none⟩)) hX) fun v42 =>
    optW (pOff 0 (.pointer (some ⟨p4, 0, none⟩))) fun v43 =>
    optW (rdRow false 1 v43 hX) fun v44 =>
    callW Try.prog 74 [v44] hX fun v45 h_18 =>
    (∀ x ∈ (idOf (.pointer (some ⟨p4, 0, none⟩))), (hX : AH)[x]? = (h_18 : AH)[x]?) ∧
    optW (pStore 2 (.pointer (some ⟨p2, 0, none⟩)) v42 h_18) fun h_19 =>
    optW (resList Try.prog (E v42 v43 v44 v45) h_19 Try.f67.results.toList) fun vs => K (resOf vs) h_19 := by
  refine w_rdPA (n := 2) g4 (Nat.le_refl 2) (w_offP (w_rdP g4 (v := .string (bs x.1)) rfl ?_))
  refine letters74 hs ⟨fun _ _ => rfl, ?_⟩
  have hb := lt_of_get g2
  refine w_stPA g2 rfl (Nat.le_refl 2) rfl ?_
  rw [res67]
  refine w_some (v := [.agg (eSy x).toArray, .bool (letB x.1)]) ?_ ?_
  · rw [hE2, hE3]
    have g := hopt (o := rdRow true 2 (.pointer (some ⟨p2, 0, none⟩)) _) (w_rdPA (get_set hX hb (.row (spliceL [(.string (bs [])), (.int .i64 0)] 0 (cellsL (.agg (((eSy x).drop 0).take 2).toArray))) true)) (Nat.le_refl 2) rfl)
    rw [g]
    rfl
  · exact k _ (hx.set hp _)

theorem read67 {s : List UInt8} {h : AH} {K : Value → AH → Prop} (hs : s.length ≤ 1000000) (k : ∀ h', Ex h h' → K (.tuple #[.agg (eSy (rread1 s)).toArray, .bool (letB (rread1 s).1)]) h') : callW Try.prog 67 [.string (bs s)] h K := by
  refine c67 ?_
  unfold s67
  refine n_rowv (c := [(.string (bs [])), (.int .i64 0)]) fun h1 x1 l1 g1 => ?_
  refine w_some (v := .agg (eSy (s, 3)).toArray) rfl ?_
  refine n_rowv (c := [(.string (bs [])), (.int .i64 0)]) fun h2 x2 l2 g2 => ?_
  refine w_stPA g2 rfl (Nat.le_refl 2) rfl ?_
  have hb2 := lt_of_get g2
  have x3 : ∀ o, Ex h (h2.set h1.length o) := fun o => (x1.trans x2).set (by omega) o
  have g1' : ∀ o, (h2.set h1.length o)[h.length]? = some (.row [(.string (bs [])), (.int .i64 0)] true) := fun o => (get_ne (by omega) _).trans (x2.some g1)
  have g2' : ∀ o, (h2.set h1.length o)[h1.length]? = some o := fun o => get_set _ hb2 o
  have base := x3 (.row (eSy (s, 3)) true)
  have b1 := g1' (.row (eSy (s, 3)) true)
  have b2 := g2' (.row (eSy (s, 3)) true)
  change optW (pBin Try.prog .neq 9 (.string (bs s)) (.string (bs []))) _
  generalize hH : h2.set h1.length (.row (spliceL [(.string (bs [])), (.int .i64 0)] 0 (cellsL (.agg (eSy (s, 3)).toArray))) true) = h3
  have e3 : h2.set h1.length (.row (eSy (s, 3)) true) = h3 := hH
  rw [e3] at base b1 b2
  clear x3 g1' g2' hH e3
  have hlt3 := lt_of_get b2
  have plain : rread1 s = (s, 3) → ∀ (E : Value → Value → Value → Value → Env), (∀ a b c d, E a b c d 2 = .pointer (some ⟨h.length, 0, none⟩)) → (∀ a b c d, E a b c d 3 = d) →
      optW (rdRow true 2 (.pointer (some ⟨h1.length, 0, none⟩)) h3) fun v42 =>
      optW (pOff 0 (.pointer (some ⟨h1.length, 0, none⟩))) fun v43 =>
      optW (rdRow false 1 v43 h3) fun v44 =>
      callW Try.prog 74 [v44] h3 fun v45 h_18 =>
      (∀ x ∈ (idOf (.pointer (some ⟨h1.length, 0, none⟩))), (h3 : AH)[x]? = (h_18 : AH)[x]?) ∧
      optW (pStore 2 (.pointer (some ⟨h.length, 0, none⟩)) v42 h_18) fun h_19 =>
      optW (resList Try.prog (E v42 v43 v44 v45) h_19 Try.f67.results.toList) fun vs => K (resOf vs) h_19 := by
    intro hr E hE2 hE3
    exact fin67 (h := h) (c2 := []) hE2 hE3 b2 b1 base (Nat.le_refl _) hs fun h' x' => by have := k h' x'; rw [hr] at this; exact this
  refine w_sneq ?_
  by_cases q0 : s = []
  · have q0' : ¬ ¬ s = [] := fun h => h q0
    refine g_tf q0' (g_tf q0' (g_tf q0' (pk_ff q0' ?_)))
    iterate 6 refine gc_tf ?_
    refine pk_f (c_f ?_)
    exact plain (by unfold rread1; rw [q0]; rfl) (fun _ _ _ _ => _) (fun _ _ _ _ => rfl) (fun _ _ _ _ => rfl)
  · have hpos : 0 < s.length := List.length_pos_iff.2 q0
    obtain ⟨c0, hc0⟩ := getElem?_of_lt hpos
    have hh : s.head? = some c0 := by rw [List.head?_eq_getElem?]; exact hc0
    refine g_tt q0 (g_tt q0 ?_)
    refine w_idxStr (by omega) hc0 (g_tt q0 (w_eql (pk_tt q0 ?_)))
    by_cases q1 : (c0.toNat : Int) = 60
    · have e60 : c0 = 60 := (ceq rfl).1 q1
      obtain ⟨cl, hcl⟩ := getElem?_of_lt (l := s) (i := s.length - 1) (by omega)
      have hgl : s.getLast? = some cl := by rw [List.getLast?_eq_getElem?]; exact hcl
      refine g_tt q1 (g_tt q1 (g_tt q1 (w_lenStr (g_tt q1 (w_sub (by omega) (by omega) (g_tt q1 ?_))))))
      refine w_idxStr (by omega) (by rw [show (((s.length : Nat) : Int) - 1).toNat = s.length - 1 by omega]; exact hcl) (g_tt q1 (w_eql (pk_tt q1 ?_)))
      refine c_dec (fun q2 => ?_) (fun q2 => ?_)
      · have e62 : cl = 62 := (ceq rfl).1 q2
        have hlen : 2 ≤ s.length := by
          refine Classical.byContradiction fun h => ?_
          have : s.length - 1 = 0 := by omega
          rw [this, hc0] at hcl
          have := Option.some.inj hcl
          rw [e60, e62] at this
          exact absurd this (by decide)
        have cond : s.head? = some 60 ∧ s.getLast? = some 62 := ⟨by rw [hh, e60], by rw [hgl, e62]⟩
        refine w_lenStr (w_sub (by omega) (by omega) (w_subStr (by omega) (by omega) (by omega) ?_))
        have e1 : ((1 : Int)).toNat = 1 := rfl
        have e2 : (((s.length : Nat) : Int) - 1).toNat = s.length - 1 := by omega
        rw [e1, e2]
        have l1' : ((s.drop 1).take (s.length - 1 - 1)).length ≤ 1000000 := by rw [List.length_take]; omega
        refine w_some (v := .agg (eSy ((s.drop 1).take (s.length - 1 - 1), 1)).toArray) rfl ?_
        refine w_stPA b2 rfl (Nat.le_refl 2) rfl ?_
        have b2' := get_set h3 hlt3 (.row (spliceL (eSy (s, 3)) 0 (cellsL (.agg (eSy ((s.drop 1).take (s.length - 1 - 1), 1)).toArray))) true)
        have b1' : ∀ o, (h3.set h1.length o)[h.length]? = some (.row [(.string (bs [])), (.int .i64 0)] true) := fun o => (get_ne (by omega) _).trans b1
        have base' : ∀ o, Ex h (h3.set h1.length o) := fun o => base.set (by omega) o
        have opn : rread1 s = ((s.drop 1).take (s.length - 1 - 1), 1) → ∀ h', Ex h h' → K (.tuple #[.agg (eSy ((s.drop 1).take (s.length - 1 - 1), 1)).toArray, .bool (letB ((s.drop 1).take (s.length - 1 - 1)))]) h' := by
          intro hr h' x'
          have := k h' x'
          rw [hr] at this
          exact this
        refine w_lenStr (w_gtr ?_)
        by_cases q3 : (2 : Int) < (s.length : Nat)
        · obtain ⟨c1, hc1⟩ := getElem?_of_lt (l := s) (i := 1) (by omega)
          refine g_tt q3 (g_tt q3 ?_)
          refine w_idxStr (by omega) hc1 (g_tt q3 (w_eql (pk_tt q3 ?_)))
          refine c_dec (fun q4 => ?_) (fun q4 => ?_)
          · have e47 : c1 = 47 := (ceq rfl).1 q4
            refine w_lenStr (w_sub (by omega) (by omega) (w_subStr (by omega) (by omega) (by omega) ?_))
            have e5 : ((2 : Int)).toNat = 2 := rfl
            rw [e5, e2]
            refine w_some (v := .agg (eSy ((s.drop 2).take (s.length - 1 - 2), 2)).toArray) rfl ?_
            refine w_stPA b2' rfl (Nat.le_refl 2) rfl ?_
            have hr : rread1 s = ((s.drop 2).take (s.length - 1 - 2), 2) := by
              unfold rread1
              rw [if_pos cond, if_pos ⟨by omega, by rw [hc1, e47]⟩]
            refine fin67 (h := h) (c2 := []) (fun _ _ _ _ => rfl) (fun _ _ _ _ => rfl) (x := ((s.drop 2).take (s.length - 1 - 2), 2)) (get_set _ (by simpa using hlt3) _) ((get_ne (by omega) _).trans (b1' _)) ((base' _).set (by omega) _) (Nat.le_refl _) (by rw [List.length_take]; omega) fun h' x' => ?_
            have := k h' x'
            rw [hr] at this
            exact this
          · have hr : rread1 s = ((s.drop 1).take (s.length - 1 - 1), 1) := by
              unfold rread1
              rw [if_pos cond, if_neg]
              rintro ⟨_, h47⟩
              rw [hc1] at h47
              exact q4 ((ceq rfl).2 (Option.some.inj h47))
            exact fin67 (h := h) (c2 := []) (fun _ _ _ _ => rfl) (fun _ _ _ _ => rfl) (x := ((s.drop 1).take (s.length - 1 - 1), 1)) b2' (b1' _) (base' _) (Nat.le_refl _) l1' (opn hr)
        · refine g_tf q3 (g_tf q3 (g_tf q3 (pk_ff q3 (c_f ?_))))
          have hr : rread1 s = ((s.drop 1).take (s.length - 1 - 1), 1) := by
            unfold rread1
            rw [if_pos cond, if_neg]
            rintro ⟨h2, _⟩
            omega
          exact fin67 (h := h) (c2 := []) (fun _ _ _ _ => rfl) (fun _ _ _ _ => rfl) (x := ((s.drop 1).take (s.length - 1 - 1), 1)) b2' (b1' _) (base' _) (Nat.le_refl _) l1' (opn hr)
      · refine plain ?_ (fun _ _ _ _ => _) (fun _ _ _ _ => rfl) (fun _ _ _ _ => rfl)
        unfold rread1
        rw [if_neg]
        rintro ⟨_, h62⟩
        rw [hgl] at h62
        exact q2 ((ceq rfl).2 (Option.some.inj h62))
    · iterate 6 refine g_tf q1 ?_
      refine pk_ff q1 (c_f ?_)
      refine plain ?_ (fun _ _ _ _ => _) (fun _ _ _ _ => rfl) (fun _ _ _ _ => rfl)
      unfold rread1
      rw [if_neg]
      rintro ⟨h60, _⟩
      rw [hh] at h60
      exact q1 ((ceq rfl).2 (Option.some.inj h60))
end Go.Proofs.Ytebbjimmgblcpaa.W
end

section
/- The document's feed at a place; its steps: walks. Conditions: none. -/
namespace Go.Proofs.Ytebbjimmgblcpaa.W
open Go Go.AM FeedM
set_option linter.unusedVariables false
set_option maxRecDepth 100000

structure RV where
  l : Value
  i : Value
  f : Value
  o : Value
  c : Value
  n : Value
def rcell (V : RV) (rs : RS) (vW : Value) : List Value := [V.l, .int .i64 rs.m.n, .int .i64 rs.m.g, V.i, V.f, V.o, V.c, V.n, .int .i64 rs.max, .int .i64 rs.n, .int .i64 rs.from_, .string (bs rs.tok), vW, .int .i64 rs.opn, .int .i64 rs.err, .int .i64 rs.fail, .bool rs.fin]

/-- the document's feed at a place, its word a slice of its own. -/
structure RR (hb : AH) (V : RV) (h : AH) (p : Nat) (rs : RS) (G : Nat → Prop) (vW : Value) : Prop where
  ex : Ex hb h
  sy : Syms hb V.l rs.l
  row : h[p]? = some (.row (rcell V rs vW) true)
  w : OwnG 1 G h vW rs.w.length (flat eI rs.w)
  nw : ¬ onId vW p
  gp : G p
  lo : ∀ j, G j → hb.length ≤ j
  lt : ∀ j, G j → j < h.length

section
variable {hb h : AH} {V : RV} {p : Nat} {rs : RS} {G : Nat → Prop} {vW : Value}

theorem RR.ext {h' : AH} (r : RR hb V h p rs G vW) (x : Ex h h') : RR hb V h' p rs G vW :=
  ⟨r.ex.trans x, r.sy, x.some r.row, r.w.mono (fun _ _ h => h) fun j hj _ => x.get j (r.w.on hj).2, r.nw, r.gp, r.lo, fun j hj => x.lt (r.lt j hj)⟩
theorem RR.other {h' : AH} {F F' : Nat → Prop} (r : RR hb V h p rs G vW) (c : Chg F h F' h') (hd : ∀ j, F j → ¬ G j) (hF : ∀ j, F j → hb.length ≤ j) : RR hb V h' p rs G vW ∧ ∀ j, F' j → ¬ G j :=
  ⟨⟨c.toEx r.ex hF, r.sy, (c.get p (r.lt p r.gp) fun h => hd p h r.gp).trans r.row, r.w.mono (fun _ _ h => h) fun j hj _ => c.get j (r.w.on hj).2 fun h => hd j h (r.w.on hj).1, r.nw, r.gp, r.lo, fun j hj => Nat.lt_of_lt_of_le (r.lt j hj) c.len⟩,
    fun j hj hG => (c.dom j hj).elim (fun h => hd j h hG) fun h => by have := r.lt j hG; omega⟩
/-- a field is set. -/
theorem RR.set (r : RR hb V h p rs G vW) (rs' : RS) (hw : rs'.w = rs.w) (hl : rs'.l = rs.l) : RR hb V (h.set p (.row (rcell V rs' vW) true)) p rs' G vW ∧ Chg G h G (h.set p (.row (rcell V rs' vW) true)) := by
  have hlt := lt_of_get r.row
  refine ⟨⟨r.ex.set (r.lo p r.gp) _, by rw [hl]; exact r.sy, get_set _ hlt _, ?_, r.nw, r.gp, r.lo, fun j hj => by simpa using r.lt j hj⟩, Chg.setf r.gp _⟩
  rw [hw]
  exact r.w.mono (fun _ _ h => h) fun j hj _ => get_ne (fun e => r.nw (by rw [e]; exact hj)) _

theorem wrong60 {e a : Int} {K : Value → AH → Prop} (r : RR hb V h p rs G vW) (kk : ∀ h', RR hb V h' p (rwrong rs e a) G vW → Chg G h G h' → K (.tuple #[]) h') : callW Try.prog 60 [.pointer (some ⟨p, 0, none⟩), .int .i64 e, .int .i64 a] h K := by
  refine c60 ?_
  unfold s60
  refine w_nilc (w_offP (w_stP r.row (show 14 < 17 by omega) rfl rfl ?_))
  obtain ⟨r1, c1⟩ := r.set { rs with err := e } rfl rfl
  refine w_nilc (w_offP (w_stP r1.row (show 15 < 17 by omega) rfl rfl ?_))
  obtain ⟨r2, c2⟩ := r1.set (rwrong rs e a) rfl rfl
  exact kk _ r2 (c1.trans c2)

theorem appW {k : Int} {K : Value → AH → Prop} (r : RR hb V h p rs G vW) (hn : rs.w.length + 1 < room40)
    (kk : ∀ h' G' vW', RR hb V h' p { rs with w := rs.w ++ [k] } G' vW' → Chg G h G' h' → K (.tuple #[]) h') :
    optW (pNilCheck (.pointer (some ⟨p, 0, none⟩))) fun v78 =>
    optW (pOff 12 v78) fun v79 =>
    optW (rdRow false 1 v79 h) fun v80 =>
    optW (bldSl 1 [(.int .i64 0)] 1 [(0, .int .i64 k)]) fun c =>
    newW none (.row c true) h fun i h_21 =>
    appSl 1 v80 (.slice (some ⟨i, 0, none⟩) 1 1) h_21 fun v83 h_22 =>
    optW (pNilCheck (.pointer (some ⟨p, 0, none⟩))) fun v84 =>
    optW (pOff 12 v84) fun v85 =>
    optW (pStore 1 v85 v83 h_22) fun h_23 =>
    K (.tuple #[]) h_23 := by
  refine w_nilc (w_offP (w_rdP r.row (v := vW) rfl ?_))
  refine w_some (bldSl_one rfl (by decide) rfl rfl) ?_
  refine n_new ?_
  have hlast : (h ++ [AObj.row (cellsL (.int .i64 k)) true])[h.length]? = some (.row (eI k) true) := get_new _ _
  have x1 : Ex h (h ++ [AObj.row (cellsL (.int .i64 k)) true]) := .app _ _
  have l1 : (h ++ [AObj.row (cellsL (.int .i64 k)) true]).length = h.length + 1 := by simp
  generalize h ++ [AObj.row (cellsL (.int .i64 k)) true] = h1 at *
  have r1 := r.ext x1
  refine appSl_of (app_g (by decide) r1.w (srcL_new hlast (by decide) rfl) rfl hn ?_)
  intro v' h2 o1 o2 o3 o4
  have hp := lt_of_get r.row
  have g2 : h2[p]? = some (.row (rcell V rs vW) true) := (o3 p (by omega) r.nw).trans r1.row
  obtain ⟨va, vcap, rfl⟩ := o1.sl.shape
  refine w_nilc (w_offP (w_stP g2 (show 12 < 17 by omega) rfl rfl ?_))
  have hlt2 := lt_of_get g2
  have np : ¬ onId (.slice va (rs.w.length + 1) vcap) p := fun hh => (o4 p hh).elim r.nw fun e => by omega
  refine kk _ (fun j => (G j ∨ j = h1.length) ∧ j < h2.length) _ ⟨?_, r.sy, get_set _ hlt2 _, ?_, np, ⟨.inl r.gp, hlt2⟩, fun j hj => ?_, fun j hj => by simpa using hj.2⟩ ⟨?_, fun j hj hG => ?_, fun j hj => ?_⟩
  · refine Ex.set ?_ (r.lo p r.gp) _
    have xl := r.ex.len
    exact ⟨by omega, fun j hj => (o3 j (by omega) fun hh => by have := r.lo j (r1.w.on hh).1; omega).trans ((x1.get j (by omega)).trans (r.ex.get j hj))⟩
  · have e1 : (rs.w ++ [k]).length = rs.w.length + 1 := by simp
    have e2 : flat eI (rs.w ++ [k]) = flat eI rs.w ++ eI k := flat_snoc _ _ _
    show OwnG 1 _ _ _ (rs.w ++ [k]).length (flat eI (rs.w ++ [k]))
    rw [e1, e2]
    exact o1.mono (fun j hj hF => ⟨hF, (o1.on hj).2⟩) fun j hj _ => get_ne (fun e => np (by rw [e]; exact hj)) _
  · rcases hj.1 with h | rfl
    · exact r.lo j h
    · have := r.ex.len; omega
  · simp; omega
  · rw [get_ne (fun e => hG (by rw [← e]; exact r.gp)), o3 j (by omega) fun hh => hG (r1.w.on hh).1]
    exact x1.get j hj
  · rcases hj.1 with h | rfl
    · exact .inl h
    · exact .inr (by omega)

/-- what grows, grows little. -/
structure RSm (rs : RS) (b : Nat) : Prop where
  tok : rs.tok.length + b < 1000000
  w : rs.w.length + b < room40
  l : rs.l.length < 1000000
  op : 0 ≤ rs.opn ∧ rs.opn + b < room40
  n : 0 ≤ rs.n ∧ rs.n + b < room40

theorem whole59 {K : Value → AH → Prop} (r : RR hb V h p rs G vW) (sm : RSm rs 1) (kk : ∀ h' G' vW', RR hb V h' p (rwhole rs) G' vW' → Chg G h G' h' → K (.tuple #[]) h') : callW Try.prog 59 [.pointer (some ⟨p, 0, none⟩)] h K := by
  have htok := sm.tok
  have hw := sm.w
  have hln := sm.l
  have hop := sm.op
  have r40 : room40 < 9223372036854775807 := by decide
  refine c59 ?_
  unfold s59
  refine w_nilc (w_offP (w_rdP r.row (v := .string (bs rs.tok)) rfl ?_))
  refine read67 (by omega) fun h1 x1 => w_some rfl (w_some rfl ?_)
  have r1 := r.ext x1
  refine n_rowv (c := [(.string (bs [])), (.int .i64 0)]) fun h2 x2 l2 g2 => ?_
  refine w_stPA g2 rfl (Nat.le_refl 2) rfl ?_
  have hb2 := lt_of_get g2
  have x3 : Ex h1 (h2.set h1.length (.row (spliceL [(.string (bs [])), (.int .i64 0)] 0 (cellsL (.agg (eSy (rread1 rs.tok)).toArray))) true)) := x2.set (Nat.le_refl _) _
  have g3 : (h2.set h1.length (.row (spliceL [(.string (bs [])), (.int .i64 0)] 0 (cellsL (.agg (eSy (rread1 rs.tok)).toArray))) true))[h1.length]? = some (.row (eSy (rread1 rs.tok)) true) := get_set _ hb2 _
  generalize h2.set h1.length (.row (spliceL [(.string (bs [])), (.int .i64 0)] 0 (cellsL (.agg (eSy (rread1 rs.tok)).toArray))) true) = h3 at *
  have r3 := r1.ext x3
  refine w_nilc (w_offP (w_rdP r3.row (v := V.l) rfl ?_))
  refine w_rdPA (n := 2) g3 (Nat.le_refl 2) ?_
  refine find68 (x := rread1 rs.tok) (r3.sy.ex r3.ex) hln fun h4 x4 => ?_
  have r4 := r3.ext x4
  have g4 := x4.some g3
  have np : p ≠ h1.length := by have := lt_of_get r1.row; omega
  refine w_nilc (w_offP (w_stP r4.row (show 11 < 17 by omega) rfl rfl ?_))
  obtain ⟨r5, c5⟩ := r4.set { rs with tok := [] } rfl rfl
  have g5 : (h4.set p (.row (rcell V { rs with tok := [] } vW) true))[h1.length]? = some (.row (eSy (rread1 rs.tok)) true) := (get_ne np _).trans g4
  have c05 : Chg G h G (h4.set p (.row (rcell V { rs with tok := [] } vW) true)) := (Chg.ex (x1.trans (x3.trans x4))).trans c5
  change optW (pUn .not (.bool (letB (rread1 rs.tok).1))) _
  have ee : h4.set p (.row ((rcell V rs vW).set (0 + 11) (.string (bs []))) true) = h4.set p (.row (rcell V { rs with tok := [] } vW) true) := rfl
  rw [ee]
  generalize h4.set p (.row (rcell V { rs with tok := [] } vW) true) = h5 at *
  unfold rwhole at kk
  have lst : ∀ (j : Int), 0 ≤ j → True := fun _ _ => trivial
  refine w_notb ?_
  have bad : (letB (rread1 rs.tok).1 = false ∨ idxOf (rread1 rs.tok) rs.l < 0) → optW (pNilCheck (.pointer (some ⟨p, 0, none⟩))) fun v30 =>
      optW (pOff 10 v30) fun v31 => optW (rdRow false 1 v31 h5) fun v32 => callW Try.prog 60 [.pointer (some ⟨p, 0, none⟩), (.int .i64 12), v32] h5 fun v33 h_8 => K (.tuple #[]) h_8 := by
    intro hbad
    rw [if_pos hbad] at kk
    refine w_nilc (w_offP (w_rdP r5.row (v := .int .i64 rs.from_) rfl ?_))
    exact wrong60 r5 fun h' r' c' => kk _ _ _ r' (c05.trans c')
  cases hlb : letB (rread1 rs.tok).1 with
  | false =>
    refine gc_ft (gc_ft (pk_t (c_t ?_)))
    exact bad (.inl hlb)
  | true =>
    refine gc_ff (gc_ff (w_lss (pk_f (c_dec (fun q => bad (.inr q)) (fun q => ?_)))))
    rw [if_neg (by rintro (h | h); rw [hlb] at h; cases h; exact q h)] at kk
    refine w_offP (w_rdP g5 (v := .int .i64 (rread1 rs.tok).2) rfl (w_eql ?_))
    have big : ∀ (op' : Int) (h6 : AH), RR hb V h6 p { rs with tok := [], opn := op' } G vW → Chg G h G h6 → (if (rread1 rs.tok).2 = 1 then rs.opn + 1 else if (rread1 rs.tok).2 = 2 then max (rs.opn - 1) 0 else rs.opn) = op' → ¬ ((rread1 rs.tok).2 = 1 ∧ rs.max ≤ rs.opn) →
        optW (pNilCheck (.pointer (some ⟨p, 0, none⟩))) fun v78 =>
        optW (pOff 12 v78) fun v79 =>
        optW (rdRow false 1 v79 h6) fun v80 =>
        optW (bldSl 1 [(.int .i64 0)] 1 [(0, .int .i64 (idxOf (rread1 rs.tok) rs.l))]) fun c =>
        newW none (.row c true) h6 fun i h_21 =>
        appSl 1 v80 (.slice (some ⟨i, 0, none⟩) 1 1) h_21 fun v83 h_22 =>
        optW (pNilCheck (.pointer (some ⟨p, 0, none⟩))) fun v84 =>
        optW (pOff 12 v84) fun v85 =>
        optW (pStore 1 v85 v83 h_22) fun h_23 =>
        K (.tuple #[]) h_23 := by
      intro op' h6 r6 c6 ho hnd
      rw [if_neg hnd, ho] at kk
      exact appW r6 (by show rs.w.length + 1 < room40; omega) fun h' G' vW' r' c' => kk _ _ _ r' (c6.trans c')
    by_cases k1 : (rread1 rs.tok).2 = 1
    · refine gd_tt k1 (gd_tt k1 (w_nilc (gd_tt k1 (w_offP (gd_tt k1 (hist_nil (w_rdP r5.row (v := .int .i64 rs.opn) rfl (gd_tt k1 (gd_tt k1 (w_nilc ?_))))))))))
      refine gd_tt k1 (w_offP (gd_tt k1 (hist_nil (w_rdP r5.row (v := .int .i64 rs.max) rfl (gd_tt k1 (w_geq (pk_tt k1 ?_)))))))
      refine c_dec (fun q2 => ?_) (fun q2 => ?_)
      · rw [if_pos ⟨k1, q2⟩] at kk
        refine w_nilc (w_offP (w_rdP r5.row (v := .int .i64 rs.from_) rfl ?_))
        exact wrong60 r5 fun h' r' c' => kk _ _ _ r' (c05.trans c')
      · refine w_offP (w_rdP g5 (v := .int .i64 (rread1 rs.tok).2) rfl (w_eql (c_tt k1 ?_)))
        refine w_nilc (w_offP (w_rdP r5.row (v := .int .i64 rs.opn) rfl (w_add (by omega) (by omega) (w_nilc (w_offP (w_stP r5.row (show 13 < 17 by omega) rfl rfl ?_))))))
        obtain ⟨r6, c6⟩ := r5.set { rs with tok := [], opn := rs.opn + 1 } rfl rfl
        have ne5 : p ≠ h1.length := np
        refine w_offP (w_rdP ((get_ne ne5 _).trans g5) (v := .int .i64 (rread1 rs.tok).2) rfl (w_eql (c_ff (by omega) ?_)))
        exact big (rs.opn + 1) _ r6 (c05.trans c6) (by rw [if_pos k1]) (fun h => q2 h.2)
    · refine gd_tf k1 (gd_tf k1 (gd_tf k1 (gd_tf k1 (gd_tf k1 (gd_tf k1 (gd_tf k1 (gd_tf k1 (gd_tf k1 (pk_ff k1 (c_f ?_))))))))))
      refine w_offP (w_rdP g5 (v := .int .i64 (rread1 rs.tok).2) rfl (w_eql (c_ff k1 ?_)))
      refine w_offP (w_rdP g5 (v := .int .i64 (rread1 rs.tok).2) rfl (w_eql ?_))
      refine c_dec (fun k2 => ?_) (fun k2 => ?_)
      · refine w_nilc (w_offP (w_rdP r5.row (v := .int .i64 rs.opn) rfl (w_sub (by omega) (by omega) (w_max' rfl (w_nilc (w_offP (w_stP r5.row (show 13 < 17 by omega) rfl rfl ?_)))))))
        obtain ⟨r6, c6⟩ := r5.set { rs with tok := [], opn := max (rs.opn - 1) 0 } rfl rfl
        exact big (max (rs.opn - 1) 0) _ r6 (c05.trans c6) (by rw [if_neg k1, if_pos k2]) (fun h => k1 h.1)
      · exact big rs.opn _ r5 c05 (by rw [if_neg k1, if_neg k2]) (fun h => k1 h.1)

theorem strOf {c : UInt8} {h : AH} {cs : List Value} {K : Value → Prop} (hc : cs = eB c) (k : K (.string (bs [c]))) : optW (pBytesStr (.slice (some ⟨h.length, 0, none⟩) 1 1) (h ++ [.row cs true])) K :=
  w_bstr (slB1 hc) (Nat.le_refl 1) k

theorem outside57 {c : UInt8} {K : Value → AH → Prop} (r : RR hb V h p rs G vW) (kk : ∀ h', RR hb V h' p (routside rs c) G vW → Chg G h G h' → K (.tuple #[]) h') : callW Try.prog 57 [.pointer (some ⟨p, 0, none⟩), .int .u8 c.toNat] h K := by
  refine c57 ?_
  unfold s57
  have e32 : ((c.toNat : Int) = 32) ↔ c = 32 := ceq rfl
  have e9 : ((c.toNat : Int) = 9) ↔ c = 9 := ceq rfl
  have e10 : ((c.toNat : Int) = 10) ↔ c = 10 := ceq rfl
  have e60 : ((c.toNat : Int) = 60) ↔ c = 60 := ceq rfl
  unfold routside at kk
  have blank : (c = 32 ∨ c = 9 ∨ c = 10) → K (.tuple #[]) h := by
    intro hb
    rw [if_pos hb] at kk
    exact kk h r (Chg.refl _ _)
  refine w_eql ?_
  by_cases q1 : (c.toNat : Int) = 32
  · refine g_ft q1 (g_ft q1 (pk_tt q1 (gc_ft (gc_ft (pk_t (c_t (blank (.inl (e32.1 q1)))))))))
  refine g_ff q1 (g_ff q1 (w_eql (pk_ff q1 ?_)))
  by_cases q2 : (c.toNat : Int) = 9
  · refine g_ft q2 (g_ft q2 (pk_tt q2 (c_t (blank (.inr (.inl (e9.1 q2)))))))
  refine g_ff q2 (g_ff q2 (w_eql (pk_ff q2 ?_)))
  refine c_dec (fun q3 => blank (.inr (.inr (e10.1 q3)))) (fun q3 => ?_)
  rw [if_neg (by rintro (h | h | h); exact q1 (e32.2 h); exact q2 (e9.2 h); exact q3 (e10.2 h))] at kk
  have good : (c = 60 ∨ letter c = true) →
      optW (pNilCheck (.pointer (some ⟨p, 0, none⟩))) fun v31 =>
      optW (pOff 9 v31) fun v32 =>
      optW (rdRow false 1 v32 (reserve 1 h)) fun v33 =>
      optW (bldSl 1 [(.int .u8 0)] 1 [(0, .int .u8 c.toNat)]) fun cc =>
      newW (some (h.length)) (.row cc true) (reserve 1 h) fun i h_8 =>
      optW (pBytesStr (.slice (some ⟨i, 0, none⟩) 1 1) h_8) fun v36 =>
      optW (pNilCheck (.pointer (some ⟨p, 0, none⟩))) fun v37 =>
      optW (pOff 10 v37) fun v38 =>
      optW (pStore 1 v38 v33 h_8) fun h_9 =>
      optW (pNilCheck (.pointer (some ⟨p, 0, none⟩))) fun v39 =>
      optW (pOff 11 v39) fun v40 =>
      optW (pStore 1 v40 v36 h_9) fun h_10 =>
      K (.tuple #[]) h_10 := by
    intro hg
    rw [if_pos hg] at kk
    refine w_nilc (w_offP (w_rdP ((r.ext (Ex.res h)).row) (v := .int .i64 rs.n) rfl ?_))
    refine w_some (bldSl_one rfl (by decide) rfl rfl) ?_
    refine n_res (n_new ?_)
    refine strOf rfl ?_
    have x1 : Ex h (h ++ [AObj.row (cellsL (.int .u8 c.toNat)) true]) := .app _ _
    have r1 := r.ext x1
    refine w_nilc (w_offP (w_stP r1.row (show 10 < 17 by omega) rfl rfl ?_))
    obtain ⟨r2, c2⟩ := r1.set { rs with from_ := rs.n } rfl rfl
    refine w_nilc (w_offP (w_stP r2.row (show 11 < 17 by omega) rfl rfl ?_))
    obtain ⟨r3, c3⟩ := r2.set { rs with from_ := rs.n, tok := [c] } rfl rfl
    exact kk _ r3 ((Chg.ex x1).trans (c2.trans c3))
  refine w_eql ?_
  by_cases q4 : (c.toNat : Int) = 60
  · refine g_ft q4 (g_ft q4 (pk_tt q4 (c_t ?_)))
    exact good (.inl (e60.1 q4))
  refine g_ff q4 (g_ff q4 (letter58 (pk_ff q4 (c_b (fun hl => good (.inr hl)) (fun hl => ?_)))))
  rw [if_neg (by rintro (h | h); exact q4 (e60.2 h); rw [hl] at h; cases h)] at kk
  refine w_nilc (w_offP (w_rdP r.row (v := .int .i64 rs.n) rfl ?_))
  exact wrong60 r fun h' r' c' => kk _ r' c'
end
end Go.Proofs.Ytebbjimmgblcpaa.W
end

section
/- The document's feed: made, written to, closed: walks. Conditions: none. -/
namespace Go.Proofs.Ytebbjimmgblcpaa.W
open Go Go.AM FeedM
set_option linter.unusedVariables false
set_option maxRecDepth 100000

theorem RSm.mono {rs : RS} {b c : Nat} (s : RSm rs b) (h : c ≤ b) : RSm rs c := ⟨by have := s.tok; omega, by have := s.w; omega, s.l, by have := s.op; omega, by have := s.n; omega⟩
theorem RSm.wrong {rs : RS} {b : Nat} {e a : Int} (s : RSm rs b) : RSm (rwrong rs e a) b := ⟨s.tok, s.w, s.l, s.op, s.n⟩
theorem RSm.whole {rs : RS} {b : Nat} (s : RSm rs (b + 1)) : RSm (rwhole rs) b := by
  have h1 := s.tok; have h2 := s.w; have h3 := s.op; have h4 := s.n
  unfold rwhole
  split
  · exact ⟨by show ([] : List UInt8).length + b < _; simp; omega, by show rs.w.length + b < _; omega, s.l, by show 0 ≤ rs.opn ∧ rs.opn + b < room40; omega, by show 0 ≤ rs.n ∧ rs.n + b < room40; omega⟩
  split
  · exact ⟨by show ([] : List UInt8).length + b < _; simp; omega, by show rs.w.length + b < _; omega, s.l, by show 0 ≤ rs.opn ∧ rs.opn + b < room40; omega, by show 0 ≤ rs.n ∧ rs.n + b < room40; omega⟩
  · refine ⟨by show ([] : List UInt8).length + b < _; simp; omega, by show (rs.w ++ [_]).length + b < _; simp; omega, s.l, ?_, by show 0 ≤ rs.n ∧ rs.n + b < room40; omega⟩
    dsimp only
    split
    · omega
    split <;> omega
theorem RSm.outside {rs : RS} {b : Nat} {c : UInt8} (s : RSm rs (b + 1)) : RSm (routside rs c) b := by
  have h1 := s.tok
  unfold routside
  split
  · exact s.mono (by omega)
  split
  · exact ⟨by show [c].length + b < _; simp; omega, (s.mono (Nat.le_succ b)).w, s.l, (s.mono (Nat.le_succ b)).op, (s.mono (Nat.le_succ b)).n⟩
  · exact (s.mono (by omega)).wrong
theorem RSm.tokk {rs : RS} {b : Nat} {c : UInt8} (s : RSm rs (b + 1)) : RSm { rs with tok := rs.tok ++ [c] } b :=
  ⟨by have := s.tok; simp; omega, (s.mono (Nat.le_succ b)).w, s.l, (s.mono (Nat.le_succ b)).op, (s.mono (Nat.le_succ b)).n⟩
theorem RSm.inside {rs : RS} {b : Nat} {c : UInt8} (s : RSm rs (b + 2)) (hne : rs.tok ≠ []) : RSm (rinside rs c) b := by
  have hpos := List.length_pos_iff.2 hne
  unfold rinside
  split
  · exact (s.mono (c := b + 1) (by omega)).tokk
  split
  · rename_i h
    have := s.tok
    exact ⟨by show ([60, 47] : List UInt8).length + b < _; simp; omega, (s.mono (c := b) (by omega)).w, s.l, (s.mono (c := b) (by omega)).op, (s.mono (c := b) (by omega)).n⟩
  split
  · exact RSm.whole (RSm.tokk s)
  split
  · split
    · exact (RSm.whole s).outside
    · exact RSm.whole (s.mono (by omega))
  · exact (s.mono (by omega)).wrong
theorem RSm.step {rs : RS} {b : Nat} {c : UInt8} (s : RSm rs (b + 3)) : RSm (rstep rs c) b := by
  have : RSm (rstep1 rs c) (b + 1) := by
    unfold rstep1
    split
    · exact (s.mono (c := b + 1 + 1) (by omega)).outside
    · rename_i h; exact s.inside h
  exact ⟨by have := this.tok; show (rstep1 rs c).tok.length + b < _; omega, by have := this.w; show (rstep1 rs c).w.length + b < _; omega, this.l, by have := this.op; show 0 ≤ (rstep1 rs c).opn ∧ _; exact ⟨this.1, by show (rstep1 rs c).opn + b < _; omega⟩, by have := this.n; show 0 ≤ (rstep1 rs c).n + 1 ∧ (rstep1 rs c).n + 1 + b < _; omega⟩

section
variable {hb h : AH} {V : RV} {p : Nat} {rs : RS} {G : Nat → Prop} {vW : Value}

theorem inside56 {c : UInt8} {K : Value → AH → Prop} (r : RR hb V h p rs G vW) (sm : RSm rs 2) (hne : rs.tok ≠ []) (kk : ∀ h' G' vW', RR hb V h' p (rinside rs c) G' vW' → Chg G h G' h' → K (.tuple #[]) h') : callW Try.prog 56 [.pointer (some ⟨p, 0, none⟩), .int .u8 c.toNat] h K := by
  have htok := sm.tok
  have hpos := List.length_pos_iff.2 hne
  obtain ⟨c0, hc0⟩ := getElem?_of_lt hpos
  have hh : rs.tok.head? = some c0 := by rw [List.head?_eq_getElem?]; exact hc0
  have hhl : headLet rs.tok = letter c0 := by
    cases ht : rs.tok with
    | nil => exact (hne ht).elim
    | cons d t => rw [ht] at hc0; rw [← Option.some.inj hc0]; rfl
  have e47 : ((c.toNat : Int) = 47) ↔ c = 47 := ceq rfl
  have e62 : ((c.toNat : Int) = 62) ↔ c = 62 := ceq rfl
  have e60 : ((c0.toNat : Int) = 60) ↔ c0 = 60 := ceq rfl
  refine c56 ?_
  unfold s56
  refine w_nilc (w_offP (w_rdP r.row (v := .string (bs rs.tok)) rfl (name66 (by omega) (letter58 ?_))))
  unfold rinside at kk
  have rest : ¬ (letter c = true ∧ nameLen rs.tok < 8) →
    optW (pBin Try.prog .eql 5 (.int .u8 c.toNat) (.int .u8 47)) fun v36 =>
    gopW (gB v36 true) (fun k_2 =>
      k_2 (.pointer (some ⟨p, 0, none⟩)) h) h fun v38 h_7 =>
    gopW (gB v36 true) (fun k_3 =>
      optW (pNilCheck v38) fun v39_1 =>
      k_3 v39_1 h_7) h_7 fun v39 h_8 =>
    gopW (gB v36 true) (fun k_4 =>
      optW (pOff 11 v39) fun v40_1 =>
      k_4 v40_1 h_8) h_8 fun v40 h_9 =>
    gopW (gB v36 true) (fun k_5 =>
      optW (rdRow false 1 v40 h_9) fun v41_1 =>
      k_5 v41_1 h_9) h_9 fun v41 h_10 =>
    gopW (gB v36 true) (fun k_6 =>
      optW (pBin Try.prog .eql 9 v41 (.string (bs [60]))) fun v42_1 =>
      k_6 v42_1 h_10) h_10 fun v42 h_11 =>
    optW (pPick v36 v42 (.bool false)) fun v43 =>
    condW v43 (
      optW (pNilCheck (.pointer (some ⟨p, 0, none⟩))) fun v45 =>
      optW (pOff 11 v45) fun v46 =>
      optW (pStore 1 v46 (.string (bs [60, 47])) h_11) fun h_12 =>
      K (.tuple #[]) h_12
    ) (
      optW (pBin Try.prog .eql 5 (.int .u8 c.toNat) (.int .u8 62)) fun v49 =>
      gopW (gB v49 true) (fun k_7 =>
        k_7 (.pointer (some ⟨p, 0, none⟩)) h_11) h_11 fun v51 h_13 =>
      gopW (gB v49 true) (fun k_8 =>
        optW (pNilCheck v51) fun v52_1 =>
        k_8 v52_1 h_13) h_13 fun v52 h_14 =>
      gopW (gB v49 true) (fun k_9 =>
        optW (pOff 11 v52) fun v53_1 =>
        k_9 v53_1 h_14) h_14 fun v53 h_15 =>
      gopW (gB v49 true) (fun k_10 =>
        optW (rdRow false 1 v53 h_15) fun v54_1 =>
        k_10 v54_1 h_15) h_15 fun v54 h_16 =>
      gopW (gB v49 true) (fun k_11 =>
        optW (pIdxStr v54 (.int .i64 0)) fun v55_1 =>
        k_11 v55_1 h_16) h_16 fun v55 h_17 =>
      gopW (gB v49 true) (fun k_12 =>
        optW (pBin Try.prog .eql 5 v55 (.int .u8 60)) fun v56_1 =>
        k_12 v56_1 h_17) h_17 fun v56 h_18 =>
      optW (pPick v49 v56 (.bool false)) fun v57 =>
      gopW (gB v57 true) (fun k_13 =>
        k_13 (.int .i64 (nameLen rs.tok : Nat)) h_18) h_18 fun v59 h_19 =>
      gopW (gB v57 true) (fun k_14 =>
        optW (pBin Try.prog .gtr 3 v59 (.int .i64 0)) fun v60_1 =>
        k_14 v60_1 h_19) h_19 fun v60 h_20 =>
      optW (pPick v57 v60 (.bool false)) fun v61 =>
      condW v61 (
        optW (pNilCheck (.pointer (some ⟨p, 0, none⟩))) fun v64 =>
        optW (pOff 11 v64) fun v65 =>
        optW (rdRow false 1 v65 h_20) fun v66 =>
        optW (pBin Try.prog .add 9 v66 (.string (bs [62]))) fun v67 =>
        optW (pNilCheck (.pointer (some ⟨p, 0, none⟩))) fun v68 =>
        optW (pOff 11 v68) fun v69 =>
        optW (pStore 1 v69 v67 h_20) fun h_21 =>
        callW Try.prog 59 [.pointer (some ⟨p, 0, none⟩)] h_21 fun v71 h_22 =>
        K (.tuple #[]) h_22
      ) (
        optW (pNilCheck (.pointer (some ⟨p, 0, none⟩))) fun v74 =>
        optW (pOff 11 v74) fun v75 =>
        optW (rdRow false 1 v75 h_20) fun v76 =>
        optW (pIdxStr v76 (.int .i64 0)) fun v77 =>
        callW Try.prog 58 [v77] h_20 fun v78 h_23 =>
        gopW (gB v78 true) (fun k_15 =>
          k_15 (.int .u8 c.toNat) h_23) h_23 fun v80 h_24 =>
        gopW (gB v78 true) (fun k_16 =>
          callW Try.prog 58 [v80] h_24 fun v81_1 h_26 =>
          k_16 v81_1 h_26) h_24 fun v81 h_25 =>
        gopW (gB v78 true) (fun k_17 =>
          optW (pUn .not v81) fun v82_1 =>
          k_17 v82_1 h_25) h_25 fun v82 h_27 =>
        optW (pPick v78 v82 (.bool false)) fun v83 =>
        condW v83 (
          callW Try.prog 59 [.pointer (some ⟨p, 0, none⟩)] h_27 fun v85 h_28 =>
          optW (pNilCheck (.pointer (some ⟨p, 0, none⟩))) fun v87 =>
          optW (pOff 14 v87) fun v88 =>
          optW (rdRow false 1 v88 h_28) fun v89 =>
          optW (pBin Try.prog .eql 3 v89 (.int .i64 0)) fun v90 =>
          condW v90 (
            callW Try.prog 57 [.pointer (some ⟨p, 0, none⟩), .int .u8 c.toNat] h_28 fun v93 h_29 =>
            K (.tuple #[]) h_29
          ) (
            K (.tuple #[]) h_28)
        ) (
          optW (pNilCheck (.pointer (some ⟨p, 0, none⟩))) fun v12 =>
          optW (pOff 10 v12) fun v13 =>
          optW (rdRow false 1 v13 h_27) fun v14 =>
          callW Try.prog 60 [.pointer (some ⟨p, 0, none⟩), (.int .i64 12), v14] h_27 fun v15 h_30 =>
          K (.tuple #[]) h_30))) := by
    intro h1
    rw [if_neg h1] at kk
    have rest2 : ¬ (c = 47 ∧ rs.tok = [60]) → ∀ (Q : Prop), (Q → Q) → True := fun _ _ _ => trivial
    have third : ¬ (c = 47 ∧ rs.tok = [60]) → ¬ ((c = 62 ∧ rs.tok.head? = some 60) ∧ 0 < nameLen rs.tok) →
        optW (pNilCheck (.pointer (some ⟨p, 0, none⟩))) fun v74 =>
        optW (pOff 11 v74) fun v75 =>
        optW (rdRow false 1 v75 h) fun v76 =>
        optW (pIdxStr v76 (.int .i64 0)) fun v77 =>
        callW Try.prog 58 [v77] h fun v78 h_23 =>
        gopW (gB v78 true) (fun k_15 =>
          k_15 (.int .u8 c.toNat) h_23) h_23 fun v80 h_24 =>
        gopW (gB v78 true) (fun k_16 =>
          callW Try.prog 58 [v80] h_24 fun v81_1 h_26 =>
          k_16 v81_1 h_26) h_24 fun v81 h_25 =>
        gopW (gB v78 true) (fun k_17 =>
          optW (pUn .not v81) fun v82_1 =>
          k_17 v82_1 h_25) h_25 fun v82 h_27 =>
        optW (pPick v78 v82 (.bool false)) fun v83 =>
        condW v83 (
          callW Try.prog 59 [.pointer (some ⟨p, 0, none⟩)] h_27 fun v85 h_28 =>
          optW (pNilCheck (.pointer (some ⟨p, 0, none⟩))) fun v87 =>
          optW (pOff 14 v87) fun v88 =>
          optW (rdRow false 1 v88 h_28) fun v89 =>
          optW (pBin Try.prog .eql 3 v89 (.int .i64 0)) fun v90 =>
          condW v90 (
            callW Try.prog 57 [.pointer (some ⟨p, 0, none⟩), .int .u8 c.toNat] h_28 fun v93 h_29 =>
            K (.tuple #[]) h_29
          ) (
            K (.tuple #[]) h_28)
        ) (
          optW (pNilCheck (.pointer (some ⟨p, 0, none⟩))) fun v12 =>
          optW (pOff 10 v12) fun v13 =>
          optW (rdRow false 1 v13 h_27) fun v14 =>
          callW Try.prog 60 [.pointer (some ⟨p, 0, none⟩), (.int .i64 12), v14] h_27 fun v15 h_30 =>
          K (.tuple #[]) h_30) := by
      intro h2 h3
      rw [if_neg h2, if_neg h3, hhl] at kk
      have bad : ¬ (letter c0 = true ∧ letter c = false) → optW (pNilCheck (.pointer (some ⟨p, 0, none⟩))) fun v12 =>
          optW (pOff 10 v12) fun v13 =>
          optW (rdRow false 1 v13 h) fun v14 =>
          callW Try.prog 60 [.pointer (some ⟨p, 0, none⟩), (.int .i64 12), v14] h fun v15 h_30 =>
          K (.tuple #[]) h_30 := by
        intro hb
        rw [if_neg hb] at kk
        refine w_nilc (w_offP (w_rdP r.row (v := .int .i64 rs.from_) rfl ?_))
        exact wrong60 r fun h' r' c' => kk _ _ _ r' c'
      refine w_nilc (w_offP (w_rdP r.row (v := .string (bs rs.tok)) rfl (w_idxStr (by omega) hc0 (letter58 ?_))))
      cases hl0 : letter c0 with
      | false =>
        refine gc_tf (gc_tf (gc_tf (pk_f (c_f ?_))))
        exact bad (by rw [hl0]; rintro ⟨h, _⟩; cases h)
      | true =>
        refine gc_tt (gc_tt (letter58 (gc_tt (w_notb (pk_t ?_)))))
        cases hl : letter c with
        | true =>
          refine c_f ?_
          exact bad (by rw [hl]; rintro ⟨_, h⟩; cases h)
        | false =>
          rw [if_pos ⟨hl0, hl⟩] at kk
          refine c_t ?_
          refine whole59 r (sm.mono (by omega)) fun h' G' vW' r' c' => ?_
          refine w_nilc (w_offP (w_rdP r'.row (v := .int .i64 (rwhole rs).err) rfl (w_eql ?_)))
          refine c_dec (fun q => ?_) (fun q => ?_)
          · rw [if_pos q] at kk
            exact outside57 r' fun h2 r2 c2 => kk _ _ _ r2 (c'.trans c2)
          · rw [if_neg q] at kk
            exact kk _ _ _ r' c'
    have second : ¬ (c = 47 ∧ rs.tok = [60]) →
      optW (pBin Try.prog .eql 5 (.int .u8 c.toNat) (.int .u8 62)) fun v49 =>
      gopW (gB v49 true) (fun k_7 =>
        k_7 (.pointer (some ⟨p, 0, none⟩)) h) h fun v51 h_13 =>
      gopW (gB v49 true) (fun k_8 =>
        optW (pNilCheck v51) fun v52_1 =>
        k_8 v52_1 h_13) h_13 fun v52 h_14 =>
      gopW (gB v49 true) (fun k_9 =>
        optW (pOff 11 v52) fun v53_1 =>
        k_9 v53_1 h_14) h_14 fun v53 h_15 =>
      gopW (gB v49 true) (fun k_10 =>
        optW (rdRow false 1 v53 h_15) fun v54_1 =>
        k_10 v54_1 h_15) h_15 fun v54 h_16 =>
      gopW (gB v49 true) (fun k_11 =>
        optW (pIdxStr v54 (.int .i64 0)) fun v55_1 =>
        k_11 v55_1 h_16) h_16 fun v55 h_17 =>
      gopW (gB v49 true) (fun k_12 =>
        optW (pBin Try.prog .eql 5 v55 (.int .u8 60)) fun v56_1 =>
        k_12 v56_1 h_17) h_17 fun v56 h_18 =>
      optW (pPick v49 v56 (.bool false)) fun v57 =>
      gopW (gB v57 true) (fun k_13 =>
        k_13 (.int .i64 (nameLen rs.tok : Nat)) h_18) h_18 fun v59 h_19 =>
      gopW (gB v57 true) (fun k_14 =>
        optW (pBin Try.prog .gtr 3 v59 (.int .i64 0)) fun v60_1 =>
        k_14 v60_1 h_19) h_19 fun v60 h_20 =>
      optW (pPick v57 v60 (.bool false)) fun v61 =>
      condW v61 (
        optW (pNilCheck (.pointer (some ⟨p, 0, none⟩))) fun v64 =>
        optW (pOff 11 v64) fun v65 =>
        optW (rdRow false 1 v65 h_20) fun v66 =>
        optW (pBin Try.prog .add 9 v66 (.string (bs [62]))) fun v67 =>
        optW (pNilCheck (.pointer (some ⟨p, 0, none⟩))) fun v68 =>
        optW (pOff 11 v68) fun v69 =>
        optW (pStore 1 v69 v67 h_20) fun h_21 =>
        callW Try.prog 59 [.pointer (some ⟨p, 0, none⟩)] h_21 fun v71 h_22 =>
        K (.tuple #[]) h_22
      ) (
        optW (pNilCheck (.pointer (some ⟨p, 0, none⟩))) fun v74 =>
        optW (pOff 11 v74) fun v75 =>
        optW (rdRow false 1 v75 h_20) fun v76 =>
        optW (pIdxStr v76 (.int .i64 0)) fun v77 =>
        callW Try.prog 58 [v77] h_20 fun v78 h_23 =>
        gopW (gB v78 true) (fun k_15 =>
          k_15 (.int .u8 c.toNat) h_23) h_23 fun v80 h_24 =>
        gopW (gB v78 true) (fun k_16 =>
          callW Try.prog 58 [v80] h_24 fun v81_1 h_26 =>
          k_16 v81_1 h_26) h_24 fun v81 h_25 =>
        gopW (gB v78 true) (fun k_17 =>
          optW (pUn .not v81) fun v82_1 =>
          k_17 v82_1 h_25) h_25 fun v82 h_27 =>
        optW (pPick v78 v82 (.bool false)) fun v83 =>
        condW v83 (
          callW Try.prog 59 [.pointer (some ⟨p, 0, none⟩)] h_27 fun v85 h_28 =>
          optW (pNilCheck (.pointer (some ⟨p, 0, none⟩))) fun v87 =>
          optW (pOff 14 v87) fun v88 =>
          optW (rdRow false 1 v88 h_28) fun v89 =>
          optW (pBin Try.prog .eql 3 v89 (.int .i64 0)) fun v90 =>
          condW v90 (
            callW Try.prog 57 [.pointer (some ⟨p, 0, none⟩), .int .u8 c.toNat] h_28 fun v93 h_29 =>
            K (.tuple #[]) h_29
          ) (
            K (.tuple #[]) h_28)
        ) (
          optW (pNilCheck (.pointer (some ⟨p, 0, none⟩))) fun v12 =>
          optW (pOff 10 v12) fun v13 =>
          optW (rdRow false 1 v13 h_27) fun v14 =>
          callW Try.prog 60 [.pointer (some ⟨p, 0, none⟩), (.int .i64 12), v14] h_27 fun v15 h_30 =>
          K (.tuple #[]) h_30)) := by
      intro h2
      refine w_eql ?_
      by_cases q1 : (c.toNat : Int) = 62
      · refine g_tt q1 (g_tt q1 (w_nilc (g_tt q1 (w_offP (g_tt q1 (w_rdP r.row (v := .string (bs rs.tok)) rfl (g_tt q1 ?_)))))))
        refine w_idxStr (by omega) hc0 (g_tt q1 (w_eql (pk_tt q1 ?_)))
        by_cases q2 : (c0.toNat : Int) = 60
        · refine g_tt q2 (g_tt q2 (w_gtr (pk_tt q2 ?_)))
          refine c_dec (fun q3 => ?_) (fun q3 => ?_)
          · rw [if_neg h2, if_pos ⟨⟨e62.1 q1, by rw [hh, e60.1 q2]⟩, by omega⟩] at kk
            refine w_nilc (w_offP (w_rdP r.row (v := .string (bs rs.tok)) rfl (w_cat (by simp; omega) ?_)))
            refine w_nilc (w_offP (w_stP r.row (show 11 < 17 by omega) rfl rfl ?_))
            obtain ⟨r1, c1⟩ := r.set { rs with tok := rs.tok ++ [62] } rfl rfl
            exact whole59 r1 (RSm.tokk sm) fun h' G' vW' r' c' => kk _ _ _ r' (c1.trans c')
          · exact third h2 fun h => q3 (by have := h.2; omega)
        · refine g_tf q2 (g_tf q2 (pk_ff q2 (c_f ?_)))
          exact third h2 fun h => q2 (e60.2 (by have := h.1.2; rw [hh] at this; exact Option.some.inj this))
      · refine g_tf q1 (g_tf q1 (g_tf q1 (g_tf q1 (g_tf q1 (g_tf q1 (pk_ff q1 (gc_tf (gc_tf (pk_f (c_f ?_))))))))))
        exact third h2 fun h => q1 (e62.2 h.1.1)
    refine w_eql ?_
    by_cases q1 : (c.toNat : Int) = 47
    · refine g_tt q1 (g_tt q1 (w_nilc (g_tt q1 (w_offP (g_tt q1 (w_rdP r.row (v := .string (bs rs.tok)) rfl (g_tt q1 (w_seql (pk_tt q1 ?_)))))))))
      refine c_dec (fun q2 => ?_) (fun q2 => ?_)
      · rw [if_pos ⟨e47.1 q1, q2⟩] at kk
        refine w_nilc (w_offP (w_stP r.row (show 11 < 17 by omega) rfl rfl ?_))
        obtain ⟨r1, c1⟩ := r.set { rs with tok := [60, 47] } rfl rfl
        exact kk _ _ _ r1 c1
      · exact second fun h => q2 h.2
    · refine g_tf q1 (g_tf q1 (g_tf q1 (g_tf q1 (g_tf q1 (pk_ff q1 (c_f ?_))))))
      exact second fun h => q1 (e47.2 h.1)
  cases hl : letter c with
  | false =>
    refine gc_tf (gc_tf (pk_f (c_f ?_)))
    exact rest (by rw [hl]; rintro ⟨h, _⟩; cases h)
  | true =>
    refine gc_tt (gc_tt (w_lss (pk_t ?_)))
    refine c_dec (fun q => ?_) (fun q => ?_)
    · rw [if_pos ⟨hl, by omega⟩] at kk
      refine w_nilc (w_offP (w_rdP ((r.ext (Ex.res h)).row) (v := .string (bs rs.tok)) rfl ?_))
      refine w_some (bldSl_one rfl (by decide) rfl rfl) ?_
      refine n_res (n_new ?_)
      refine strOf rfl (w_cat (by simp; omega) ?_)
      have x1 : Ex h (h ++ [AObj.row (cellsL (.int .u8 c.toNat)) true]) := .app _ _
      have r1 := r.ext x1
      refine w_nilc (w_offP (w_stP r1.row (show 11 < 17 by omega) rfl rfl ?_))
      obtain ⟨r2, c2⟩ := r1.set { rs with tok := rs.tok ++ [c] } rfl rfl
      exact kk _ _ _ r2 ((Chg.ex x1).trans c2)
    · exact rest fun h => q (by have := h.2; omega)
end
end Go.Proofs.Ytebbjimmgblcpaa.W
end

section
/- The document's feed: made, written to, closed: walks. Conditions: none. -/
namespace Go.Proofs.Ytebbjimmgblcpaa.W
open Go Go.AM FeedM
set_option linter.unusedVariables false
set_option maxRecDepth 100000

theorem rstep_fin {rs : RS} {c : UInt8} : (rstep rs c).fin = rs.fin := by
  have ho : ∀ (x : RS), (routside x c).fin = x.fin := by
    intro x
    unfold routside
    split
    · rfl
    split
    · rfl
    · rfl
  have hw : ∀ (x : RS), (rwhole x).fin = x.fin := by
    intro x
    unfold rwhole
    split
    · rfl
    split
    · rfl
    · rfl
  show (rstep1 rs c).fin = rs.fin
  unfold rstep1
  split
  · exact ho rs
  · unfold rinside
    split
    · rfl
    split
    · rfl
    split
    · rw [hw]
    split
    · split
      · rw [ho, hw]
      · rw [hw]
    · rfl
theorem rwrite_fin : ∀ (t : List UInt8) (rs : RS), (rwrite rs t).fin = rs.fin
  | [], rs => rfl
  | c :: t, rs => by
    unfold rwrite
    split
    · rw [rwrite_fin t, rstep_fin]
    · rfl
theorem RSm.write {b : Nat} : ∀ (t : List UInt8) {rs : RS}, RSm rs (3 * t.length + b) → RSm (rwrite rs t) b
  | [], rs, s => s.mono (by simp)
  | c :: t, rs, s => by
    unfold rwrite
    split
    · exact RSm.write t ((s.mono (c := (3 * t.length + b) + 3) (by simp; omega)).step)
    · exact s.mono (by omega)

section
variable {hb h : AH} {V : RV} {p : Nat} {rs : RS} {G : Nat → Prop} {vW : Value}

theorem write37 {v : Value} {t : List UInt8} {b : Nat} {K : Value → AH → Prop} (r : RR hb V h p rs G vW) (sm : RSm rs (3 * t.length + b + 2)) (hcl : rs.fin = false) (hv : SlT 1 eB h v t) (hn : ∀ j, onId v j → ¬ G j)
    (kk : ∀ h' G' vW', RR hb V h' p (rwrite rs t) G' vW' → Chg G h G' h' → K (.tuple #[.int .i64 (rwrite rs t).fail, .int .i64 (rwrite rs t).err]) h') :
    callW Try.prog 37 [.pointer (some ⟨p, 0, none⟩), v] h K := by
  have htk := sm.tok
  have r40 : room40 < 9223372036854775807 := by decide
  refine c37 ?_
  unfold s37
  refine w_nilc (w_offP (w_rdP r.row (v := .bool rs.fin) rfl ?_))
  rw [hcl]
  refine c_f ?_
  refine loopE_intro (fun m e h' => ∃ (i : Nat) (rs' : RS) (G' : Nat → Prop) (vW' : Value), i ≤ t.length ∧ m = t.length - i ∧ e 0 = .pointer (some ⟨p, 0, none⟩) ∧ e 1 = v ∧ e 6 = .int .i64 i ∧ RR hb V h' p rs' G' vW' ∧ Chg G h G' h' ∧ RSm rs' (3 * (t.length - i) + b + 2) ∧ rwrite rs t = rwrite rs' (t.drop i)) t.length
    ⟨0, rs, G, vW, Nat.zero_le _, rfl, rfl, rfl, rfl, r, Chg.refl _ _, sm, rfl⟩ ?_
  rintro I m e h' ⟨i, rs', G', vW', hi, hm, e0, e1, e6, r', c', s', hw⟩ hI
  rw [e0, e1, e6]
  have hv' : SlT 1 eB h' v t := Sl.same' hv fun j hj hjl => c'.get j hjl (hn j hj)
  have done : (i = t.length ∨ rs'.err ≠ 0) → optW (pNilCheck (.pointer (some ⟨p, 0, none⟩))) fun v49 =>
      optW (pOff 15 v49) fun v50 =>
      optW (rdRow false 1 v50 h') fun v51 =>
      optW (pNilCheck (.pointer (some ⟨p, 0, none⟩))) fun v53 =>
      optW (pOff 14 v53) fun v54 =>
      optW (rdRow false 1 v54 h') fun v55 =>
      K (.tuple #[v51, v55]) h' := by
    intro why
    have hw2 : rwrite rs t = rs' := by
      rw [hw]
      rcases why with rfl | why
      · rw [List.drop_length]; rfl
      · cases hd : t.drop i with
        | nil => rfl
        | cons c t' => unfold rwrite; rw [if_neg why]
    rw [hw2] at kk
    refine w_nilc (w_offP (w_rdP r'.row (v := .int .i64 rs'.fail) rfl ?_))
    refine w_nilc (w_offP (w_rdP r'.row (v := .int .i64 rs'.err) rfl ?_))
    exact kk _ _ _ r' c'
  refine w_len hv' (w_lss ?_)
  by_cases q : (i : Int) < (t.length : Nat)
  · refine g_tt q (g_tt q (w_nilc (g_tt q (w_offP (g_tt q (w_rdP r'.row (v := .int .i64 rs'.err) rfl (g_tt q (w_eql (pk_tt q ?_)))))))))
    refine c_dec (fun q1 => ?_) (fun q1 => done (.inr q1))
    obtain ⟨c, hc⟩ := getElem?_of_lt (l := t) (i := i) (by omega)
    have hd : t.drop i = c :: t.drop (i + 1) := by
      rw [List.drop_eq_getElem_cons (by omega)]
      congr 1
      exact (List.getElem?_eq_some_iff.1 hc).2
    have hw : rwrite rs t = rwrite (rstep rs' c) (t.drop (i + 1)) := by
      rw [hw, hd]
      conv => lhs; unfold rwrite
      rw [if_pos q1]
    have sn := s'.n
    have st' : RSm (rstep rs' c) (3 * (t.length - (i + 1)) + b + 2) := (s'.mono (c := (3 * (t.length - (i + 1)) + b + 2) + 3) (by omega)).step
    have tail : ∀ (rs1 : RS) (h1 : AH) (G1 : Nat → Prop) (vW1 : Value), RR hb V h1 p rs1 G1 vW1 → rs1 = rstep1 rs' c → ∀ (Q : Value → Value → Value → Value → Value → Value → AH → Prop), (∀ a b c' d e f h2, RR hb V h2 p (rstep rs' c) G1 vW1 → Chg G1 h1 G1 h2 → Q a b c' d e f h2) →
        optW (pNilCheck (.pointer (some ⟨p, 0, none⟩))) fun v42 =>
        optW (pOff 9 v42) fun v43 =>
        optW (rdRow false 1 v43 h1) fun v44 =>
        optW (pBin Try.prog .add 3 v44 (.int .i64 1)) fun v45 =>
        optW (pNilCheck (.pointer (some ⟨p, 0, none⟩))) fun v46 =>
        optW (pOff 9 v46) fun v47 =>
        optW (pStore 1 v47 v45 h1) fun h_8 => Q v42 v43 v44 v45 v46 v47 h_8 := by
      intro rs1 h1 G1 vW1 r1 he Q hQ
      subst he
      have n1 : 0 ≤ (rstep1 rs' c).n ∧ (rstep1 rs' c).n + 1 < 9223372036854775807 := by
        have : RSm (rstep1 rs' c) 0 := by
          unfold rstep1
          split
          · exact (s'.mono (c := 0 + 1) (by omega)).outside
          · rename_i h; exact (s'.mono (c := 0 + 2) (by omega)).inside h
        have := this.n
        have : (rstep rs' c).n = (rstep1 rs' c).n + 1 := rfl
        have h1 := st'.n
        rw [this] at h1
        omega
      refine w_nilc (w_offP (w_rdP r1.row (v := .int .i64 (rstep1 rs' c).n) rfl (w_add (by omega) (by omega) ?_)))
      refine w_nilc (w_offP (w_stP r1.row (show 9 < 17 by omega) rfl rfl ?_))
      obtain ⟨r2, c2⟩ := r1.set (rstep rs' c) rfl rfl
      exact hQ _ _ _ _ _ _ _ r2 c2
    refine w_nilc (w_offP (w_rdP r'.row (v := .string (bs rs'.tok)) rfl (w_sneq ?_)))
    refine c_dec (fun q2 => ?_) (fun q2 => ?_)
    · refine w_idxN eB_len hv' hc fun pp hp => w_rd1 hp rfl ?_
      refine inside56 r' (s'.mono (by omega)) q2 fun h1 G1 vW1 r1 c1 => ?_
      refine tail (rinside rs' c) h1 G1 vW1 r1 (by unfold rstep1; rw [if_neg q2]) _ fun _ _ _ _ _ _ h2 r2 c2 => ?_
      refine w_add (by omega) (by omega) ?_
      exact hI (m - 1) _ _ (by omega) ⟨i + 1, rstep rs' c, G1, vW1, by omega, by omega, e0, e1, rfl, r2, c'.trans (c1.trans c2), st', hw⟩
    · have q2 : rs'.tok = [] := Classical.byContradiction q2
      refine w_idxN eB_len hv' hc fun pp hp => w_rd1 hp rfl ?_
      refine outside57 r' fun h1 r1 c1 => ?_
      refine tail (routside rs' c) h1 _ vW' r1 (by unfold rstep1; rw [if_pos q2]) _ fun _ _ _ _ _ _ h2 r2 c2 => ?_
      refine w_add (by omega) (by omega) ?_
      exact hI (m - 1) _ _ (by omega) ⟨i + 1, rstep rs' c, G', vW', by omega, by omega, e0, e1, rfl, r2, c'.trans (c1.trans c2), st', hw⟩
  · refine g_tf q (g_tf q (g_tf q (g_tf q (g_tf q (pk_ff q (c_f ?_))))))
    exact done (.inl (by omega))

theorem deep38 {K : Value → AH → Prop} (r : RR hb V h p rs G vW) (k : K (.int .i64 rs.opn) h) : callW Try.prog 38 [.pointer (some ⟨p, 0, none⟩)] h K := by
  refine c38 ?_
  unfold s38
  exact w_nilc (w_offP (w_rdP r.row (v := .int .i64 rs.opn) rfl k))

theorem close39 {K : Value → AH → Prop} {T : Prop} (r : RR hb V h p rs G vW) (sm : RSm rs 1) (hcl : rs.fin = false)
    (tk : (rshut rs).err = 0 → ∀ (h2 : AH) (vw : Value) (Q : Value → AH → Prop), Ex hb h2 → Ints h2 vw (rshut rs).w → (∀ h' b, Ex h2 h' → (b = true ↔ T) → Q (.bool b) h') → callW Try.prog 27 [V.l, .agg (mcells rs.m.n rs.m.g V.i V.f V.o V.c V.n).toArray, vw] h2 Q)
    (k1 : ∀ h' G' vW', RR hb V h' p (rshut rs) G' vW' → Chg G h G' h' → (rshut rs).err ≠ 0 → K (.tuple #[.bool false, .int .i64 (rshut rs).fail, .int .i64 (rshut rs).err]) h')
    (k2 : ∀ h' G' vW' b, RR hb V h' p (rshut rs) G' vW' → Chg G h G' h' → (rshut rs).err = 0 → (b = true ↔ T) → K (.tuple #[.bool b, .int .i64 0, .int .i64 0]) h') :
    callW Try.prog 39 [.pointer (some ⟨p, 0, none⟩)] h K := by
  refine c39 ?_
  unfold s39
  refine w_nilc (w_offP (w_rdP r.row (v := .bool rs.fin) rfl ?_))
  rw [hcl]
  refine c_f ?_
  refine w_nilc (w_offP (w_stP r.row (show 16 < 17 by omega) rfl rfl ?_))
  obtain ⟨r1, c1⟩ := r.set { rs with fin := true } rfl rfl
  change joinE _ _
  have ee : h.set p (.row ((rcell V rs vW).set (0 + 16) (.bool true)) true) = h.set p (.row (rcell V { rs with fin := true } vW) true) := rfl
  rw [ee]
  generalize h.set p (.row (rcell V { rs with fin := true } vW) true) = h1 at *
  have hm : (rshut rs).m = rs.m := by
    unfold rshut rshut1
    split
    · split
      · unfold rwhole
        split
        · rfl
        split <;> rfl
      · rfl
    · rfl
  refine joinE_intro (fun e h' => ∃ G' vW', e 0 = .pointer (some ⟨p, 0, none⟩) ∧ RR hb V h' p (rshut rs) G' vW' ∧ Chg G h G' h') ?_ ?_
  · rintro e h' ⟨G', vW', e0, r', c'⟩
    rw [e0]
    refine w_nilc (w_offP (w_rdP r'.row (v := .int .i64 (rshut rs).err) rfl (w_neq ?_)))
    refine c_dec (fun q => ?_) (fun q => ?_)
    · refine w_nilc (w_offP (w_rdP r'.row (v := .int .i64 (rshut rs).fail) rfl ?_))
      refine w_nilc (w_offP (w_rdP r'.row (v := .int .i64 (rshut rs).err) rfl ?_))
      exact k1 _ _ _ r' c' q
    · have q : (rshut rs).err = 0 := Classical.byContradiction q
      refine w_nilc (w_offP (w_rdP r'.row (v := V.l) rfl ?_))
      refine w_nilc (w_offP (w_rdPA (n := 7) r'.row (by show 0 + 1 + 7 ≤ 17; omega) ?_))
      refine w_nilc (w_offP (w_rdP r'.row (v := vW') rfl ?_))
      have eg : (Value.agg (((rcell V (rshut rs) vW').drop (0 + 1)).take 7).toArray) = .agg (mcells rs.m.n rs.m.g V.i V.f V.o V.c V.n).toArray := by
        show Value.agg (mcells (rshut rs).m.n (rshut rs).m.g V.i V.f V.o V.c V.n).toArray = _
        rw [hm]
      rw [eg]
      refine tk q h' vW' _ r'.ex r'.w.sl fun h2 b x2 hb' => ?_
      exact k2 _ _ _ b (r'.ext x2) (c'.trans (Chg.ex x2)) q hb'
  · intro J hJ
    have keep : ∀ (e : Env), e 0 = .pointer (some ⟨p, 0, none⟩) → ¬ (rs.err = 0 ∧ rs.tok ≠ []) → J e h1 := by
      intro e e0 hno
      refine hJ e h1 ⟨G, vW, e0, ?_, c1⟩
      have : rshut rs = { rs with fin := true } := by
        unfold rshut rshut1
        rw [if_neg hno]
      rw [this]
      exact r1
    refine w_nilc (w_offP (w_rdP r1.row (v := .int .i64 rs.err) rfl (w_eql ?_)))
    by_cases q : rs.err = 0
    · refine g_tt q (g_tt q (w_nilc (g_tt q (w_offP (g_tt q (w_rdP r1.row (v := .string (bs rs.tok)) rfl (g_tt q (w_sneq (pk_tt q ?_)))))))))
      refine c_dec (fun q1 => ?_) (fun q1 => ?_)
      · have hpos := List.length_pos_iff.2 q1
        obtain ⟨c0, hc0⟩ := getElem?_of_lt hpos
        have hhl : headLet rs.tok = letter c0 := by
          cases ht : rs.tok with
          | nil => exact (q1 ht).elim
          | cons d t => rw [ht] at hc0; rw [← Option.some.inj hc0]; rfl
        refine w_nilc (w_offP (w_rdP r1.row (v := .string (bs rs.tok)) rfl (w_idxStr (by omega) hc0 (letter58 ?_))))
        have hs : rshut rs = if letter c0 = true then rwhole { rs with fin := true } else rwrong { rs with fin := true } 12 rs.from_ := by
          unfold rshut rshut1
          rw [if_pos ⟨q, q1⟩]
          show (if headLet rs.tok = true then _ else _) = _
          rw [hhl]
        refine c_b (fun hl => ?_) (fun hl => ?_)
        · rw [if_pos hl] at hs
          have sm1 : RSm { rs with fin := true } 1 := ⟨sm.tok, sm.w, sm.l, sm.op, sm.n⟩
          refine whole59 r1 sm1 fun h2 G2 vW2 r2 c2 => hJ _ _ ⟨G2, vW2, rfl, ?_, c1.trans c2⟩
          rw [hs]
          exact r2
        · rw [if_neg (by rw [hl]; decide)] at hs
          refine w_nilc (w_offP (w_rdP r1.row (v := .int .i64 rs.from_) rfl ?_))
          refine wrong60 r1 fun h2 r2 c2 => hJ _ _ ⟨G, vW, rfl, ?_, c1.trans c2⟩
          rw [hs]
          exact r2
      · exact keep _ rfl fun h => q1 h.2
    · refine g_tf q (g_tf q (g_tf q (g_tf q (g_tf q (pk_ff q (c_f ?_))))))
      exact keep _ rfl fun h => q h.1
end

theorem new36 {h : AH} {v0 vm : Value} {l : List Sy} {m : Mach} {mx : Int} {K : Value → AH → Prop} (hl : Syms h v0 l) (mv : MV h vm m)
    (k : ∀ h' V p, Ex h h' → V.l = v0 → vm = .agg (mcells m.n m.g V.i V.f V.o V.c V.n).toArray → RR h V h' p (rnew l m mx) (fun j => j = p) (.slice none 0 0) → K (.pointer (some ⟨p, 0, none⟩)) h') :
    callW Try.prog 36 [v0, vm, .int .i64 mx] h K := by
  obtain ⟨vi, vf, vo, vc, vn, rfl, p1, p2, p3, p4, p5⟩ := mv
  obtain ⟨a0, n0, c0, rfl⟩ := Sl.isSl hl
  obtain ⟨a1, n1, c1, rfl⟩ := Sl.isSl p1
  obtain ⟨a2, n2, c2, rfl⟩ := Sl.isSl p2
  obtain ⟨a3, n3, c3, rfl⟩ := Sl.isSl p3
  obtain ⟨a4, n4, c4, rfl⟩ := Sl.isSl p4
  obtain ⟨a5, n5, c5, rfl⟩ := Sl.isSl p5
  refine c36 ?_
  unfold s36
  refine n_boxv rfl fun h1 x1 l1 g1 => ?_
  refine w_rdPA (n := 7) g1 (Nat.le_refl 7) ?_
  refine w_some rfl ?_
  refine n_boxv rfl fun h2 x2 l2 g2 => ?_
  refine k h2 ⟨.slice a0 n0 c0, .slice a1 n1 c1, .slice a2 n2 c2, .slice a3 n3 c3, .slice a4 n4 c4, .slice a5 n5 c5⟩ h1.length (x1.trans x2) rfl rfl ⟨x1.trans x2, hl, g2, OwnG.nil _ _ _, fun h => h, rfl, fun j hj => by have : j = h1.length := hj; omega, fun j hj => by have : j = h1.length := hj; omega⟩
end Go.Proofs.Ytebbjimmgblcpaa.W
end

section
/- The document's Tokens; a byte turned: walks. Conditions: none. -/
namespace Go.Proofs.Ytebbjimmgblcpaa.W
open Go Go.AM FeedM
set_option linter.unusedVariables false
set_option maxRecDepth 100000

theorem takes27z {h : AH} {v0 vm vw : Value} {m : Mach} {K : Value → AH → Prop} (mv : MV h vm m) (hm : m.n < 1) (k : ∀ h', Ex h h' → K (.bool false) h') : callW Try.prog 27 [v0, vm, vw] h K := by
  refine c27 ?_
  unfold s27
  refine boxM mv fun h1 vi vf vo vc vn x1 l1 b1 => ?_
  refine w_offP (w_rdP b1.row (v := .int .i64 m.n) rfl (w_lss ?_))
  refine g_ft hm (g_ft hm (pk_tt hm ?_))
  refine gc_ft (gc_ft (gc_ft (pk_t (c_t ?_))))
  exact k h1 x1

def farN : Int := 1099511627776
theorem sd_tok : SameD 9223372036854775807 farN := by
  intro u hu
  unfold farN
  have : room40 ≤ 1099511627776 := by decide
  omega
def rtok (l : List Sy) (s : List UInt8) : RS := rshut (rwrite (rnew l m0 farN) s)
theorem rsm_new {l : List Sy} {m : Mach} {mx : Int} (hl : l.length < 1000000) : RSm (rnew l m mx) 900000 := by
  have : (10000000 : Nat) < room40 := big40
  exact ⟨by show 0 + 900000 < 1000000; omega, by show 0 + 900000 < room40; omega, hl, by show (0 : Int) ≤ 0 ∧ (0 : Int) + 900000 < room40; omega, by show (0 : Int) ≤ 0 ∧ (0 : Int) + 900000 < room40; omega⟩

theorem sim_tok (l : List Sy) (bl : l.length < 1000000) (s : List UInt8) (hs : s.length ≤ 10000) : Sim l m0 9223372036854775807 farN (FeedM.write (FeedM.new l m0 9223372036854775807) s) (rwrite (rnew l m0 farN) s) ∧ Sim l m0 9223372036854775807 farN (tokSt l s) (rtok l s) := by
  have : (10000000 : Nat) < room40 := big40
  have f0 : Fit (FeedM.new l m0 9223372036854775807) (5 * s.length + 10) := Fit.new (by decide) (by decide) (by omega) (by omega)
  have S1 := sim_write sd_tok s f0 (sim_new l m0 9223372036854775807 farN)
  have f1 := Fit.write f0
  exact ⟨S1, sim_shut sd_tok S1 (by have := f1.ub; omega)⟩

theorem tokens29 {h : AH} {v0 : Value} {l : List Sy} {s : List UInt8} {K : Value → AH → Prop} (hl : Syms h v0 l) (bl : l.length < 1000000) (hs : s.length ≤ 10000)
    (k1 : ∀ h', Ex h h' → (rtok l s).err ≠ 0 → K (.tuple #[.slice none 0 0, .int .i64 (rtok l s).fail, .int .i64 (rtok l s).err]) h')
    (k2 : ∀ h' v, Ex h h' → (rtok l s).err = 0 → Ints h' v (rtok l s).w → K (.tuple #[v, .int .i64 0, .int .i64 0]) h') :
    callW Try.prog 29 [v0, .string (bs s)] h K := by
  have r40 : (10000000 : Nat) < room40 := big40
  refine c29 ?_
  unfold s29
  refine w_some rfl ?_
  have mvz : ∀ (hh : AH), MV hh (.agg (mcells m0.n m0.g (.slice none 0 0) (.slice none 0 0) (.slice none 0 0) (.slice none 0 0) (.slice none 0 0)).toArray) m0 := fun hh => ⟨_, _, _, _, _, rfl, SlT.nil, SlT.nil, SlT.nil, SlT.nil, SlT.nil⟩
  refine new36 (m := m0) (mx := farN) hl (mvz h) fun h1 V p x1 hV hvm r1 => ?_
  have hp1 := lt_of_get r1.row
  refine w_strB (by omega) fun v2 h2 x2 l2 sv id2 => ?_
  have sm0 : RSm (rnew l m0 farN) 900000 := rsm_new bl
  obtain ⟨S1, S2⟩ := sim_tok l bl s hs
  refine write37 (b := 100) (r1.ext x2) (sm0.mono (by omega)) rfl sv (fun j hj hG => by have := id2 j hj; have : j = p := hG; omega) fun h3 G3 w3 r3 c3 => ?_
  have sm3 : RSm (rwrite (rnew l m0 farN) s) 1 := RSm.write s (sm0.mono (by omega))
  have low : ∀ j, (fun j => j = p) j → h.length ≤ j := fun j hj => r1.lo j hj
  refine close39 (T := False) r3 sm3 (by rw [rwrite_fin]; rfl) ?_ ?_ ?_
  · intro _ hh vw Q xx hi kq
    rw [S1.m2, ← hvm, hV]
    exact takes27z (mvz hh) (by decide) fun h' x' => kq h' false x' ⟨(fun h => by cases h), False.elim⟩
  · intro h4 G4 w4 r4 c4 hne
    refine w_some rfl (w_some rfl (w_some rfl (w_neq (c_tt hne ?_))))
    exact k1 h4 r4.ex hne
  · intro h4 G4 w4 b r4 c4 he hb
    refine w_some rfl (w_some rfl (w_some rfl (w_neq (c_ff (fun h => h rfl) ?_))))
    refine w_nilc (w_offP (w_rdP r4.row (v := w4) rfl ?_))
    exact k2 h4 w4 r4.ex he r4.w.sl

theorem w_strB2 {s : List UInt8} {h : AH} {K : Value → AH → Prop} (hn : s.length < room40) (k : K (.slice (some ⟨h.length, 0, none⟩) s.length (openCap + 1)) (h ++ [.row (flat eB s) true])) : strB (.string (bs s)) none h K := by
  refine ⟨hn, ?_⟩
  have hb : bytesL (bs s) = flat eB s := by
    unfold bytesL flat
    rw [bs_data]
    clear k hn
    induction s with
    | nil => rfl
    | cons c s ih => rw [List.map_cons, ih]; rfl
  show K _ (h ++ [.row (bytesL (bs s)) true])
  rw [hb]
  exact k

theorem flatB_set (s : List UInt8) (k : Nat) (c : UInt8) : (flat eB s).set k (.int .u8 c.toNat) = flat eB (s.set k c) := by
  induction s generalizing k with
  | nil => cases k <;> rfl
  | cons b s ih =>
    cases k with
    | zero => rfl
    | succ k => exact congrArg (Value.int .u8 b.toNat :: ·) (ih k)

theorem wrap8 (n : Int) : ∃ c : UInt8, IntKind.u8.wrap n = c.toNat := by
  have h : 0 ≤ IntKind.u8.wrap n ∧ IntKind.u8.wrap n ≤ 255 := by
    simp [IntKind.wrap, IntKind.bits, IntKind.signed]
    omega
  exact u8of h

theorem turned19 {s : List UInt8} {a : Int} {b : Int} {h : AH} {K : Value → AH → Prop} (hs : s.length ≤ 10000) (k : ∀ h' s', Ex h h' → s'.length = s.length → K (.string (bs s')) h') : callW Try.prog 19 [.string (bs s), .int .i64 a, .int .u8 b] h K := by
  have r40 : (10000000 : Nat) < room40 := big40
  refine c19 ?_
  unfold s19
  refine w_seql (c_dec (fun q => k h s (Ex.refl h) rfl) (fun q => ?_))
  have hpos := List.length_pos_iff.2 q
  refine w_strB2 (by omega) (w_lenSl (within18 _ _ _ _ (by omega) (by omega) ?_))
  have t0 : 0 ≤ a % ((s.length : Nat) : Int) := Int.emod_nonneg _ (by omega)
  have t1 : a % ((s.length : Nat) : Int) < (s.length : Nat) := Int.emod_lt_of_pos _ (by omega)
  generalize a % ((s.length : Nat) : Int) = i at *
  obtain ⟨c, hc⟩ := getElem?_of_lt (l := s) (i := i.toNat) (by omega)
  have g1 : (h ++ [AObj.row (flat eB s) true])[h.length]? = some (.row (flat eB s) true) := get_new _ _
  have x1 : Ex h (h ++ [AObj.row (flat eB s) true]) := .app _ _
  generalize h ++ [AObj.row (flat eB s) true] = h1 at *
  have sl : ∀ (hh : AH) (s' : List UInt8), s'.length = s.length → hh[h.length]? = some (.row (flat eB s') true) → SlT 1 eB hh (.slice (some ⟨h.length, 0, none⟩) s.length (openCap + 1)) s' := fun hh s' hl hg =>
    ⟨flat_length eB_len s', .inr ⟨h.length, 0, openCap + 1, by rw [hl], .inr rfl, .inr ⟨_, true, hg, by rw [flat_length eB_len]; omega, by rw [List.drop_zero, ← flat_length eB_len s', List.take_length]⟩⟩⟩
  have idx : ∀ (Q : Value → Prop), Q (.pointer (some ⟨h.length, i.toNat, none⟩)) → optW (pIdxS 1 (.slice (some ⟨h.length, 0, none⟩) s.length (openCap + 1)) (.int .i64 i)) Q := by
    intro Q hQ
    refine w_some (v := .pointer (some ⟨h.length, 0 + i.toNat * 1, none⟩)) ?_ ?_
    · unfold pIdxS
      dsimp only
      rw [if_pos ⟨t0, t1⟩]
    · have : 0 + i.toNat * 1 = i.toNat := by omega
      rw [this]
      exact hQ
  have hci : (flat eB s)[i.toNat]? = some (.int .u8 c.toNat) := by
    have := flat_at eB_len s i.toNat c hc
    rw [Nat.mul_one] at this
    have h2 : ((flat eB s).drop i.toNat).take 1 = [.int .u8 c.toNat] := this
    have h3 : (((flat eB s).drop i.toNat).take 1)[0]? = some (.int .u8 c.toNat) := by rw [h2]; rfl
    rw [List.getElem?_take_of_lt (by omega), List.getElem?_drop] at h3
    simpa using h3
  refine idx _ (w_rdP g1 hci ?_)
  obtain ⟨c', hc'⟩ := wrap8 ((c.toNat : Int) + b)
  refine w_some (v := .int .u8 c'.toNat) ?_ ?_
  · rw [← hc']; rfl
  refine idx _ (w_stP g1 (by rw [flat_length eB_len]; omega) rfl rfl ?_)
  have hlt := lt_of_get g1
  have g2 : (h1.set h.length (.row ((flat eB s).set i.toNat (.int .u8 c'.toNat)) true))[h.length]? = some (.row (flat eB (s.set i.toNat c')) true) := by rw [get_set _ hlt, flatB_set]
  refine w_bstr (l := s.set i.toNat c') ?_ (by simp; omega) ?_
  · have := sl _ (s.set i.toNat c') (by simp) g2
    unfold SlT at this
    simpa using this
  · exact k _ _ (x1.set (Nat.le_refl _) _) (by simp)

def lits : List (List UInt8) := [[60, 97], [60], [60, 47], [60, 32, 97, 62], [60, 97, 32, 62], [60, 62], [97, 62], [97, 98, 99, 100, 101, 102, 103, 104], [97, 98, 99, 100, 101, 102, 103, 104, 105], [60, 97, 98, 99, 100, 101, 102, 103, 104, 62], [60, 97, 98, 99, 100, 101, 102, 103, 104, 105, 62], [60, 47, 97, 98, 99, 100, 101, 102, 103, 104, 105, 62], [98], [98, 98], [98, 13], [60, 97, 47, 47, 62]]
def rows20 (s s' raw : List UInt8) : List (List UInt8) := s :: s' :: raw :: (s ++ raw) :: lits
theorem bld20 (s s' raw : List UInt8) : bldSl 1 [(.string (bs []))] 20 [(0, .string (bs s)), (1, .string (bs s')), (2, .string (bs raw)), (3, .string (bs (s ++ raw))), (4, (.string (bs [60, 97]))), (5, (.string (bs [60]))), (6, (.string (bs [60, 47]))), (7, (.string (bs [60, 32, 97, 62]))), (8, (.string (bs [60, 97, 32, 62]))), (9, (.string (bs [60, 62]))), (10, (.string (bs [97, 62]))), (11, (.string (bs [97, 98, 99, 100, 101, 102, 103, 104]))), (12, (.string (bs [97, 98, 99, 100, 101, 102, 103, 104, 105]))), (13, (.string (bs [60, 97, 98, 99, 100, 101, 102, 103, 104, 62]))), (14, (.string (bs [60, 97, 98, 99, 100, 101, 102, 103, 104, 105, 62]))), (15, (.string (bs [60, 47, 97, 98, 99, 100, 101, 102, 103, 104, 105, 62]))), (16, (.string (bs [98]))), (17, (.string (bs [98, 98]))), (18, (.string (bs [98, 13]))), (19, (.string (bs [60, 97, 47, 47, 62])))] = some (flat eS (rows20 s s' raw)) := by kernel_rfl
theorem rows20_len (s s' raw : List UInt8) : (rows20 s s' raw).length = 20 := by kernel_rfl

end Go.Proofs.Ytebbjimmgblcpaa.W
end

section
/- FeedTokens: the walk. Conditions: none. -/
namespace Go.Proofs.Ytebbjimmgblcpaa.W
open Go Go.AM FeedM
set_option linter.unusedVariables false
set_option maxRecDepth 100000

theorem optW_some {α : Type} {v : α} {K : α → Prop} : optW (some v) K = K v := rfl
theorem newW_eq {o : AObj} {h : AH} {K : Nat → AH → Prop} : newW none o h K = K h.length (h ++ [o]) := rfl
theorem cat_eq {l m : List UInt8} (h : l.length + m.length < 9223372036854775808) : pBin Try.prog .add 9 (.string (bs l)) (.string (bs m)) = some (.string (bs (l ++ m))) := hopt (w_cat h rfl)

end Go.Proofs.Ytebbjimmgblcpaa.W
end
