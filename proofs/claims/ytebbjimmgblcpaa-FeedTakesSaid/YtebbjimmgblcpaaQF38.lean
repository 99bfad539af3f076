/- The document's back: the walk. Conditions: none. -/
import Derived.Test.YtebbjimmgblcpaaQF37
namespace Go.Proofs.Ytebbjimmgblcpaa.W
open Go Go.AM FeedM
set_option linter.unusedVariables false
set_option maxRecDepth 100000

theorem res53 (e : Env) (h : AH) : resList Try.prog e h Try.f53.results.toList = (rdRow true 2 (e 8) h).map fun v => [v] := by
  have h1 : Try.f53.results.toList = [.cell 8 106] := by kernel_rfl
  have h2 : ∀ x, pLoad Try.prog 106 x h = rdRow true 2 x h := fun x => by kernel_rfl
  rw [h1]
  show (match pLoad Try.prog 106 (e 8) h with
    | some v => match resList Try.prog e h [] with
      | some vs => some (v :: vs)
      | none => none
    | none => none) = _
  rw [h2]
  cases rdRow true 2 (e 8) h <;> rfl

/-- what one rule that closes brings back, of those so far. -/
def BkC (n : Int) (Rb R : Row) (sym : Int) (o c : Int × Int × Int × Int) (q : Int × Int) : Prop := (c.2.1 = sym ∧ c.2.2.1 = o.2.2.2 ∧ R (o.2.2.1, c.1)) ∧ ∃ p, (0 ≤ p ∧ p < n) ∧ Rb (p, o.1) ∧ q = (p, c.2.2.2)
def BkO (m : Mach) (Rb R : Row) (bys sym : Int) (o : Int × Int × Int × Int) (q : Int × Int) : Prop := o.2.1 = bys ∧ ∃ c ∈ m.closes, BkC m.n Rb R sym o c q

theorem back53 {h : AH} {vm : Value} {m : Mach} {l : List Sy} {ib i0 : Nat} {bb bys sym : Int} {Rb R : Row} {K : Value → AH → Prop} (mv : MV h vm m) (ok : MkOK l m 25) (rb : RowAt h ib m.n Rb) (rn : RowAt h i0 m.n R)
    (k : ∀ h' ir, Ex h h' → h.length ≤ ir → RowAt h' ir m.n (closeRow m Rb R bys sym) → K (.agg (lvC ir m.n bb).toArray) h') :
    callW Try.prog 53 [vm, .agg (lvC ib m.n bb).toArray, .agg (lvC i0 m.n bys).toArray, .int .i64 sym] h K := by
  have r40 : (10000000 : Nat) < room40 := big40
  have hN : N3 m.n := ok.n
  have hC := ok.cnt
  have nb := nn_b hN
  refine c53 ?_
  unfold s53
  refine boxM mv fun h1 vi vf vo vc vn x1 l1 b1 => ?_
  refine n_boxv rfl fun h2 x2 l2 g2 => ?_
  refine n_boxv rfl fun h3 x3 l3 g3 => ?_
  refine n_rowv (c := [(.slice none 0 0), (.int .i64 0)]) fun h4 x4 l4 g4 => ?_
  have b4 := ((b1.ex x2).ex x3).ex x4
  have g2 : h4[h1.length]? = some (.row (lvC ib m.n bb) true) := x4.some (x3.some g2)
  have g3 : h4[h2.length]? = some (.row (lvC i0 m.n bys) true) := x4.some g3
  have x04 := ((x1.trans x2).trans x3).trans x4
  have rb := rb.ex x04
  have rn := rn.ex x04
  refine w_offP (w_rdP b4.row (v := .int .i64 m.n) rfl (w_mul (by omega) (by omega) ?_))
  refine mkLv hN g2 fun h7 x7 l7 r7 g7 c i a1 a2 a3 => ?_
  have hl4 : h3.length < h4.length := by omega
  refine loopE_intro (fun mm e h' => ∃ i : Nat, i ≤ m.opens.length ∧ mm = m.opens.length - i ∧ e 3 = .int .i64 sym ∧ e 4 = .pointer (some ⟨h.length, 0, none⟩) ∧ e 5 = .pointer (some ⟨h1.length, 0, none⟩) ∧ e 6 = .pointer (some ⟨h2.length, 0, none⟩) ∧ e 8 = .pointer (some ⟨h3.length, 0, none⟩) ∧ e 9 = .int .i64 m.n ∧
    e 10 = .pointer (some ⟨h4.length + 1, 0, none⟩) ∧ e 11 = .int .i64 i ∧ Exx h4.length h7 h' ∧ RowAt h' h4.length m.n (fun q => ∃ o ∈ m.opens.take i, BkO m Rb R bys sym o q)) m.opens.length
    ⟨0, Nat.zero_le _, rfl, rfl, rfl, rfl, rfl, rfl, rfl, rfl, rfl, Exx.refl _ _, r7.imp fun p q _ _ => ⟨False.elim, fun ⟨o, ho, _⟩ => by cases ho⟩⟩ ?_
  rintro I mm e h' ⟨i, hi, hmm, e3', e4', e5, e6, e8, e9, e10, e11, hx, ra⟩ hI
  rw [e4', e6, e8, e10, e11]
  have X : ∀ {h'' : AH}, Exx h4.length h7 h'' → Ex h4 h'' := fun hx => Exx.base x7 hx (Nat.le_refl _)
  have b5 := b4.ex (X hx)
  refine w_offP (w_rdP b5.row (v := vo) rfl (w_len b5.o (w_lss (c_dec (fun p1 => ?_) (fun p1 => ?_)))))
  · obtain ⟨o, ho⟩ := getElem?_of_lt (l := m.opens) (i := i) (by omega)
    obtain ⟨k1, k2, k3, k4, k5⟩ := ok.opens o (List.mem_of_getElem? ho)
    refine w_offP (w_rdP b5.row (v := vo) rfl ?_)
    refine w_idxN (enc := e4) (fun _ => rfl) b5.o ho fun p hp => w_rdA hp rfl ?_
    refine copy4 fun h6' h6 x6 g6 => ?_
    have hx6 := hx.ex x6
    have ra6 := ra.ex x6
    have op : h'.length ≠ h4.length := by have := hx.len; omega
    have g3' := (X hx6).some g3
    refine w_offP (w_rdP g6 (v := .int .i64 o.2.1) rfl (w_offP (w_rdP g3' (v := .int .i64 bys) rfl (w_neq ?_))))
    refine c_dec (fun p2 => ?_) (fun p2 => ?_)
    · refine w_add (by omega) (by omega) ?_
      refine hI (mm - 1) _ _ (by omega) ⟨i + 1, by omega, by omega, e3', e4', e5, e6, e8, e9, e10, rfl, hx6, ra6.imp fun p q _ _ => ?_⟩
      rw [ex_take ho]
      exact ⟨.inl, fun h => h.elim id fun h => (p2 h.1).elim⟩
    have p2 : o.2.1 = bys := Classical.byContradiction p2
    generalize hpo : h'.length = po at *
    refine loopE_intro (fun mm2 e h9 => ∃ j : Nat, j ≤ m.closes.length ∧ mm2 = m.closes.length - j ∧ e 3 = .int .i64 sym ∧ e 4 = .pointer (some ⟨h.length, 0, none⟩) ∧ e 5 = .pointer (some ⟨h1.length, 0, none⟩) ∧ e 6 = .pointer (some ⟨h2.length, 0, none⟩) ∧ e 8 = .pointer (some ⟨h3.length, 0, none⟩) ∧ e 9 = .int .i64 m.n ∧
      e 10 = .pointer (some ⟨h4.length + 1, 0, none⟩) ∧ e 11 = .int .i64 i ∧ e 12 = .pointer (some ⟨po, 0, none⟩) ∧ e 13 = .int .i64 j ∧ Exx h4.length h7 h9 ∧ h9[po]? = some (.row (e4 o) true) ∧
      RowAt h9 h4.length m.n (fun q => (∃ o ∈ m.opens.take i, BkO m Rb R bys sym o q) ∨ ∃ c ∈ m.closes.take j, BkC m.n Rb R sym o c q)) m.closes.length
      ⟨0, Nat.zero_le _, rfl, e3', e4', e5, e6, e8, e9, e10, e11, rfl, rfl, hx6, g6, ra6.imp fun p q _ _ => ⟨.inl, fun h => h.elim id fun ⟨o, ho, _⟩ => by cases ho⟩⟩ ?_
    clear e3' e4' e5 e6 e8 e9 e10 e11 ra6 hx6 g6 x6 g3'
    rintro I2 mm2 E h9 ⟨j, hj, hmm2, e3', e4', e5, e6, e8, e9, e10, e11, e12, e13, hx9, g9, rc⟩ hI2
    rw [e3', e4', e6, e9, e11, e12, e13]
    have b9 := b4.ex (X hx9)
    refine w_offP (w_rdP b9.row (v := vc) rfl (w_len b9.c (w_lss (c_dec (fun p3 => ?_) (fun p3 => ?_)))))
    · obtain ⟨c, hc⟩ := getElem?_of_lt (l := m.closes) (i := j) (by omega)
      obtain ⟨q1, q2, q3, q4, q5⟩ := ok.closes c (List.mem_of_getElem? hc)
      refine w_offP (w_rdP b9.row (v := vc) rfl ?_)
      refine w_idxN (enc := e4) (fun _ => rfl) b9.c hc fun p hp => w_rdA hp rfl ?_
      refine copy4 fun hA' hA xA gA => ?_
      have hxA := hx9.ex xA
      have rcA := rc.ex xA
      have gO := xA.some g9
      have pc : h9.length ≠ h4.length := by have := hx9.len; omega
      generalize hpc : h9.length = pcl at *
      have next : ∀ (e' : Env) (hZ : AH), e' 3 = .int .i64 sym → e' 4 = .pointer (some ⟨h.length, 0, none⟩) → e' 5 = .pointer (some ⟨h1.length, 0, none⟩) → e' 6 = .pointer (some ⟨h2.length, 0, none⟩) → e' 8 = .pointer (some ⟨h3.length, 0, none⟩) → e' 9 = .int .i64 m.n → e' 10 = .pointer (some ⟨h4.length + 1, 0, none⟩) → e' 11 = .int .i64 i → e' 12 = .pointer (some ⟨po, 0, none⟩) → e' 13 = .int .i64 ((j : Int) + 1) → Exx h4.length h7 hZ → hZ[po]? = some (.row (e4 o) true) →
          RowAt hZ h4.length m.n (fun q => ((∃ o ∈ m.opens.take i, BkO m Rb R bys sym o q) ∨ ∃ c ∈ m.closes.take j, BkC m.n Rb R sym o c q) ∨ BkC m.n Rb R sym o c q) → I2 e' hZ :=
        fun e' hZ f3 f4 f5 f6 f8 f9 f10 f11 f12 f13 y1 y2 y3 => hI2 (mm2 - 1) _ _ (by omega) ⟨j + 1, by omega, by omega, f3, f4, f5, f6, f8, f9, f10, f11, f12, f13, y1, y2, y3.imp fun p q _ _ => by
          rw [ex_take hc]
          exact or_assoc⟩
      have skip : ¬ (c.2.1 = sym ∧ c.2.2.1 = o.2.2.2 ∧ R (o.2.2.1, c.1)) → RowAt hA h4.length m.n (fun q => ((∃ o ∈ m.opens.take i, BkO m Rb R bys sym o q) ∨ ∃ c ∈ m.closes.take j, BkC m.n Rb R sym o c q) ∨ BkC m.n Rb R sym o c q) :=
        fun hno => rcA.imp fun p q _ _ => ⟨.inl, fun h => h.elim id fun h => (hno h.1).elim⟩
      refine w_offP (w_rdP gA (v := .int .i64 c.2.1) rfl (w_neq ?_))
      by_cases s1 : c.2.1 = sym
      · have s1' : ¬ ¬ c.2.1 = sym := fun h => h s1
        refine g_ff s1' (w_offP (g_ff s1' (w_rdP gA (v := .int .i64 c.2.2.1) rfl ?_)))
        refine g_ff s1' (w_offP (g_ff s1' (w_rdP gO (v := .int .i64 o.2.2.2) rfl (g_ff s1' (w_neq (pk_ff s1' ?_))))))
        by_cases s2 : c.2.2.1 = o.2.2.2
        · have s2' : ¬ ¬ c.2.2.1 = o.2.2.2 := fun h => h s2
          have g3A := (X hxA).some g3
          refine g_ff s2' (w_offP (g_ff s2' (w_rdP g3A (v := slB i0 m.n) rfl ?_)))
          refine g_ff s2' (w_offP (g_ff s2' (w_rdP gO (v := .int .i64 o.2.2.1) rfl (g_ff s2' ?_))))
          have pb := pn_b hN k3
          have pi := pq_in hN k3 q1
          refine g_ff s2' (w_mul (by omega) (by omega) ?_)
          refine g_ff s2' (w_offP (g_ff s2' (w_rdP gA (v := .int .i64 c.1) rfl (g_ff s2' (w_add (by omega) (by omega) ?_)))))
          obtain ⟨bl, bo, sb, hb, hbR⟩ := (rn.ex (X hxA)).get hN k3 q1
          refine g_ff s2' (w_idxT (enc := eBo) eBo_len sb pi.1 hb fun pp hpp => g_ff s2' (w_rd1 hpp rfl (g_ff s2' (w_notb (pk_ff s2' ?_)))))
          cases hbo : bo with
          | false =>
            refine c_t ?_
            refine w_add (by omega) (by omega) ?_
            exact next _ _ e3' e4' e5 e6 e8 e9 e10 e11 e12 rfl hxA gO (skip fun h => by rw [← hbR, hbo] at h; cases h.2.2)
          | true =>
            refine c_f ?_
            have s3 : R (o.2.2.1, c.1) := hbR.1 hbo
            refine loopE_intro (fun mm3 e hP => ∃ p : Int, 0 ≤ p ∧ p ≤ m.n ∧ mm3 = (m.n - p).toNat ∧ e 3 = .int .i64 sym ∧ e 4 = .pointer (some ⟨h.length, 0, none⟩) ∧ e 5 = .pointer (some ⟨h1.length, 0, none⟩) ∧ e 6 = .pointer (some ⟨h2.length, 0, none⟩) ∧ e 8 = .pointer (some ⟨h3.length, 0, none⟩) ∧ e 9 = .int .i64 m.n ∧
              e 10 = .pointer (some ⟨h4.length + 1, 0, none⟩) ∧ e 11 = .int .i64 i ∧ e 12 = .pointer (some ⟨po, 0, none⟩) ∧ e 13 = .int .i64 j ∧ e 14 = .pointer (some ⟨pcl, 0, none⟩) ∧ e 15 = .int .i64 p ∧ Exx h4.length h7 hP ∧ hP[po]? = some (.row (e4 o) true) ∧ hP[pcl]? = some (.row (e4 c) true) ∧
              RowAt hP h4.length m.n (fun q => ((∃ o ∈ m.opens.take i, BkO m Rb R bys sym o q) ∨ ∃ c ∈ m.closes.take j, BkC m.n Rb R sym o c q) ∨ ∃ p', (0 ≤ p' ∧ p' < p) ∧ Rb (p', o.1) ∧ q = (p', c.2.2.2))) (m.n - 0).toNat
              ⟨0, Int.le_refl _, (by have := hN.1; omega), rfl, e3', e4', e5, e6, e8, e9, e10, e11, e12, e13, rfl, rfl, hxA, gO, gA, rcA.imp fun p q _ _ => ⟨.inl, fun h => h.elim id fun ⟨p', hp', _⟩ => by omega⟩⟩ ?_
            clear e3' e4' e5 e6 e8 e9 e10 e11 e12 e13
            rintro I3 mm3 E3 hP ⟨p, hp0, hpn, hmm3, e3', e4', e5, e6, e8, e9, e10, e11, e12, e13, e14, e15, hxP, gOP, gCP, rP⟩ hI3
            rw [e5, e9, e10, e12, e13, e14, e15]
            refine w_lss (c_dec (fun p4 => ?_) (fun p4 => ?_))
            · have g2P := (X hxP).some g2
              have hpp : 0 ≤ p ∧ p < m.n := ⟨hp0, p4⟩
              have pb2 := pn_b hN hpp
              have pi2 := pq_in hN hpp k1
              have pi3 := pq_in hN hpp q3
              refine w_offP (w_rdP g2P (v := slB ib m.n) rfl (w_mul (by omega) (by omega) ?_))
              refine w_offP (w_rdP gOP (v := .int .i64 o.1) rfl (w_add (by omega) (by omega) ?_))
              obtain ⟨bl2, b2, sb2, hb2, hbR2⟩ := (rb.ex (X hxP)).get hN hpp k1
              refine w_idxT (enc := eBo) eBo_len sb2 pi2.1 hb2 fun pp hpp' => w_rd1 hpp' rfl ?_
              have nextp : ∀ (e' : Env) (hZ : AH), e' 3 = .int .i64 sym → e' 4 = .pointer (some ⟨h.length, 0, none⟩) → e' 5 = .pointer (some ⟨h1.length, 0, none⟩) → e' 6 = .pointer (some ⟨h2.length, 0, none⟩) → e' 8 = .pointer (some ⟨h3.length, 0, none⟩) → e' 9 = .int .i64 m.n → e' 10 = .pointer (some ⟨h4.length + 1, 0, none⟩) → e' 11 = .int .i64 i → e' 12 = .pointer (some ⟨po, 0, none⟩) → e' 13 = .int .i64 j → e' 14 = .pointer (some ⟨pcl, 0, none⟩) → e' 15 = .int .i64 (p + 1) → Exx h4.length h7 hZ → hZ[po]? = some (.row (e4 o) true) → hZ[pcl]? = some (.row (e4 c) true) →
                  RowAt hZ h4.length m.n (fun q => (((∃ o ∈ m.opens.take i, BkO m Rb R bys sym o q) ∨ ∃ c ∈ m.closes.take j, BkC m.n Rb R sym o c q) ∨ ∃ p', (0 ≤ p' ∧ p' < p) ∧ Rb (p', o.1) ∧ q = (p', c.2.2.2)) ∨ (Rb (p, o.1) ∧ q = (p, c.2.2.2))) → I3 e' hZ :=
                fun e' hZ f3 f4 f5 f6 f8 f9 f10 f11 f12 f13 f14 f15 y1 y2 y2' y3 => hI3 (m.n - (p + 1)).toNat _ _ (by omega) ⟨p + 1, by omega, by omega, rfl, f3, f4, f5, f6, f8, f9, f10, f11, f12, f13, f14, f15, y1, y2, y2', y3.imp fun p q _ _ => by
                  rw [ex_lt hp0]
                  exact or_assoc⟩
              refine c_b (fun hb => ?_) (fun hb => ?_)
              · have g7P := hxP.some g7 (by omega)
                refine w_offP (w_rdP g7P (v := slB h4.length m.n) rfl (w_mul (by omega) (by omega) ?_))
                refine w_offP (w_rdP gCP (v := .int .i64 c.2.2.2) rfl (w_add (by omega) (by omega) ?_))
                refine w_idxP pi3.1 pi3.2 ?_
                refine rP.put hN hpp q3 fun hZ y1 y2 y3 => ?_
                refine w_add (by omega) (by omega) ?_
                have hne1 : po ≠ h4.length := op
                have hne2 : pcl ≠ h4.length := pc
                exact nextp _ _ e3' e4' e5 e6 e8 e9 e10 e11 e12 e13 e14 rfl (hxP.trans y1) (y1.some gOP hne1) (y1.some gCP hne2) (y3.imp fun p q _ _ => or_congr Iff.rfl ⟨fun h => ⟨hbR2.1 hb, h⟩, fun h => h.2⟩)
              · refine w_add (by omega) (by omega) ?_
                exact nextp _ _ e3' e4' e5 e6 e8 e9 e10 e11 e12 e13 e14 rfl hxP gOP gCP (rP.imp fun p q _ _ => ⟨.inl, fun h => h.elim id fun h => by rw [hbR2.2 h.1] at hb; cases hb⟩)
            · refine w_add (by omega) (by omega) ?_
              have hpe : p = m.n := by omega
              subst hpe
              exact next _ _ e3' e4' e5 e6 e8 e9 e10 e11 e12 rfl hxP gOP (rP.imp fun p q _ _ => or_congr Iff.rfl ⟨fun h => ⟨⟨s1, s2, s3⟩, h⟩, fun h => h.2⟩)
        · iterate 12 refine g_ft s2 ?_
          refine pk_tt s2 (c_t ?_)
          refine w_add (by omega) (by omega) ?_
          exact next _ _ e3' e4' e5 e6 e8 e9 e10 e11 e12 rfl hxA gO (skip fun h => s2 h.2.1)
      · iterate 5 refine g_ft s1 ?_
        refine pk_tt s1 ?_
        iterate 12 refine gc_ft ?_
        refine pk_t (c_t ?_)
        refine w_add (by omega) (by omega) ?_
        exact next _ _ e3' e4' e5 e6 e8 e9 e10 e11 e12 rfl hxA gO (skip fun h => s1 h.1)
    · refine w_add (by omega) (by omega) ?_
      have hje : j = m.closes.length := by omega
      rw [hje, List.take_length] at rc
      refine hI (mm - 1) _ _ (by omega) ⟨i + 1, by omega, by omega, e3', e4', e5, e6, e8, e9, e10, rfl, hx9, rc.imp fun p q _ _ => ?_⟩
      rw [ex_take ho]
      exact or_congr Iff.rfl ⟨fun h => ⟨p2, h⟩, fun h => h.2⟩
  · have hie : i = m.opens.length := by omega
    rw [hie, List.take_length] at ra
    have g7' := hx.some g7 (by omega)
    refine w_rdPA (n := 2) g7' (Nat.le_refl 2) ?_
    have g4' := (X hx).some g4
    have hb := lt_of_get g4'
    refine w_stPA g4' rfl (Nat.le_refl 2) rfl ?_
    rw [res53]
    refine w_some (v := [.agg (lvC h4.length m.n bb).toArray]) ?_ ?_
    · have g := hopt (o := rdRow true 2 (.pointer (some ⟨h3.length, 0, none⟩)) _) (w_rdPA (get_set h' hb (.row (spliceL [(.slice none 0 0), (.int .i64 0)] 0 (cellsL (.agg (((lvC h4.length m.n bb).drop 0).take 2).toArray))) true)) (Nat.le_refl 2) rfl)
      show (rdRow true 2 (e 8) _).map _ = _
      rw [e8, g]
      rfl
    · refine k _ h4.length ((x04.trans (X hx)).set (by have := x1.len; omega) _) (by have := x04.len; omega) ((ra.keep (get_ne (by omega) _)).imp fun p q hp hq => ?_)
      constructor
      · rintro ⟨o, ho, h1, c, hc, ⟨h2, h3, h4⟩, p', hp', h5, h6⟩
        have e1 : p = p' := congrArg Prod.fst h6
        have e2 : q = c.2.2.2 := congrArg Prod.snd h6
        subst e1
        exact ⟨o.1, h5, o, ho, rfl, h1, c, hc, h2, h3, h4, e2.symm⟩
      · rintro ⟨b, h5, o, ho, rfl, h1, c, hc, h2, h3, h4, h6⟩
        exact ⟨o, ho, h1, c, hc, ⟨h2, h3, h4⟩, p, hp, h5, Prod.ext rfl h6.symm⟩
end Go.Proofs.Ytebbjimmgblcpaa.W
