/- Parts of a proof, joined by a program. Conditions: none. -/
import Derived.Test.YtebbjimmgblcpaaRB3

section
/- One play of two feeds: the walk. Conditions: none. -/
namespace Go.Proofs.Ytebbjimmgblcpaa.W
open Go Go.AM FeedM
set_option linter.unusedVariables false
set_option maxRecDepth 100000

theorem RR.base {hb hb0 h : AH} {V : RV} {p : Nat} {rs : RS} {G : Nat → Prop} {vW : Value} (r : RR hb V h p rs G vW) (x : Ex hb0 hb) (sy : Syms hb0 V.l rs.l) : RR hb0 V h p rs G vW :=
  ⟨x.trans r.ex, sy, r.row, r.w, r.nw, r.gp, fun j hj => Nat.le_trans x.len (r.lo j hj), r.lt⟩

theorem rwhole_w (rs : RS) : (rwhole rs).w.length ≤ rs.w.length + 1 := by
  unfold rwhole
  split
  · exact Nat.le_succ _
  split
  · exact Nat.le_succ _
  · show (rs.w ++ [_]).length ≤ _
    simp
theorem routside_w (rs : RS) (c : UInt8) : (routside rs c).w = rs.w := by
  unfold routside
  split
  · rfl
  split <;> rfl
theorem rstep_w (rs : RS) (c : UInt8) : (rstep rs c).w.length ≤ rs.w.length + 1 := by
  show (rstep1 rs c).w.length ≤ _
  unfold rstep1
  split
  · rw [routside_w]; omega
  · unfold rinside
    split
    · exact Nat.le_succ _
    split
    · exact Nat.le_succ _
    split
    · exact rwhole_w _
    split
    · split
      · rw [routside_w]; exact rwhole_w _
      · exact rwhole_w _
    · exact Nat.le_succ _
theorem rwrite_w : ∀ (t : List UInt8) (rs : RS), (rwrite rs t).w.length ≤ rs.w.length + t.length
  | [], rs => Nat.le_refl _
  | c :: t, rs => by
    unfold rwrite
    split
    · have h1 := rwrite_w t (rstep rs c)
      have h2 := rstep_w rs c
      simp only [List.length_cons]
      omega
    · omega
theorem rshut_w (rs : RS) : (rshut rs).w.length ≤ rs.w.length + 1 := by
  unfold rshut rshut1
  split
  · split
    · exact rwhole_w _
    · exact Nat.le_succ _
  · exact Nat.le_succ _
theorem rwrite_app : ∀ (a : List UInt8) (rs : RS) (b : List UInt8), rwrite rs (a ++ b) = rwrite (rwrite rs a) b
  | [], rs, b => rfl
  | c :: a, rs, b => by
    by_cases h : rs.err = 0
    · show (if rs.err = 0 then rwrite (rstep rs c) (a ++ b) else rs) = rwrite (if rs.err = 0 then rwrite (rstep rs c) a else rs) b
      rw [if_pos h, if_pos h, rwrite_app a]
    · show (if rs.err = 0 then rwrite (rstep rs c) (a ++ b) else rs) = rwrite (if rs.err = 0 then rwrite (rstep rs c) a else rs) b
      rw [if_neg h, if_neg h]
      cases b with
      | nil => rfl
      | cons d b =>
        show rs = (if rs.err = 0 then _ else rs)
        rw [if_neg h]

theorem MB.rd2 {h h' : AH} {p : Nat} {m : Mach} {vi vf vo vc vn : Value} {K : Value → Prop} (b : MB h p m vi vf vo vc vn) (x : Ex h h') (k : ∀ v, MV h v m → K v) : optW (rdRow true 7 (.pointer (some ⟨p, 0, none⟩)) h') K :=
  w_rdPA (x.some b.row) (Nat.le_refl 7) (k _ ⟨vi, vf, vo, vc, vn, rfl, b.i, b.f, b.o, b.c, b.n⟩)
theorem writeR {hb h : AH} {V : RV} {p : Nat} {rs : RS} {G : Nat → Prop} {vW : Value} {s : List UInt8} {b : Nat} {K : Value → Value → AH → Prop} (r : RR hb V h p rs G vW) (sm : RSm rs (3 * s.length + b + 2)) (hcl : rs.fin = false) (hs : s.length < room40)
    (k : ∀ v h' G' vW', RR hb V h' p (rwrite rs s) G' vW' → Chg G h G' h' → K v (.tuple #[.int .i64 (rwrite rs s).fail, .int .i64 (rwrite rs s).err]) h') :
    strB (.string (bs s)) none h fun v h9 => callW Try.prog 37 [.pointer (some ⟨p, 0, none⟩), v] h9 (K v) := by
  refine w_strB hs fun w h10 x10 l10 sw id10 => ?_
  exact write37 (b := b) (r.ext x10) sm hcl sw (fun j hj hG => by have := id10 j hj; have := r.lt j hG; omega) fun h11 G11 vW11 r11 c11 => k w h11 G11 vW11 r11 ((Chg.ex x10).trans c11)

theorem play21 {h : AH} {v0 vm v4 : Value} {l : List Sy} {m : Mach} {d : Int} {s : List UInt8} {cs : List Int} {K : Value → AH → Prop} (hl : Syms h v0 l) (lc : l ∈ symChoices) (mv : MV h vm m) (ok : MkOK l m 25) (hs : s.length ≤ 1000) (hcs : Ints h v4 cs)
    (k : ∀ h', Ex h h' → K (.bool true) h') : callW Try.prog 21 [v0, vm, .int .i64 d, .string (bs s), v4] h K := by
  have mx : (10000000 : Nat) < room40 := big40
  obtain ⟨l0, l7⟩ := small_choices l lc
  have sd : SameD d d := fun _ _ => Iff.rfl
  refine c21 ?_
  unfold s21
  refine boxM mv fun h1 vi vf vo vc vn x1 l1 b1 => ?_
  have hl1 := hl.ex x1
  refine b1.rd fun v31 mv31 => newM hl1 mv31 lc ok fun h2 f F x2 rf lowf => ?_
  refine ⟨idrow b1.row (x2.some b1.row), ?_⟩
  refine b1.rd2 x2 fun v35 mv35 => new36 (hl1.ex x2) (mv35.ex x2) fun h3 V p x3 hV hvm r0 => ?_
  refine w_some rfl (c_f ?_)
  have hp2 : h2.length ≤ p := r0.lo p rfl
  have r0 := r0.base x2 (by rw [hV]; exact hl1)
  have lf := rf.lt
  have f0 := fit_mk lc ok d
  have sm0 : RSm (rnew l m d) 900000 := rsm_new (by omega)
  have S0 := sim_new l m d d
  have icl : ∀ t, (FeedM.write (FeedM.new l m d) t).closed = false := fun t => by rw [write_closed]; rfl
  have fin0 : ∀ t, (rwrite (rnew l m d) t).fin = false := fun t => by rw [rwrite_fin]; rfl
  have fit : ∀ t : List UInt8, t.length ≤ 1000 → Fit (FeedM.write (FeedM.new l m d) t) 100000 := fun t ht => Fit.write (f0.mono (by omega))
  have rsm : ∀ t : List UInt8, t.length ≤ 1000 → RSm (rwrite (rnew l m d) t) 100000 := fun t ht => RSm.write t (sm0.mono (by omega))
  have sim : ∀ t : List UInt8, t.length ≤ 1000 → Sim l m d d (FeedM.write (FeedM.new l m d) t) (rwrite (rnew l m d) t) := fun t ht => sim_write sd t (f0.mono (c := 5 * t.length + 100) (by omega)) S0
  have x12 := x2
  have gp0 : ∀ j, F j → ¬ (fun j => j = p) j := fun j hj hp => by
    have := lf j hj
    have hp : j = p := hp
    omega
  refine loopE_intro (fun mm e h' => ∃ (i from_ : Nat) (F' G' : Nat → Prop) (vW : Value), i ≤ cs.length ∧ i ≤ 8 ∧ from_ ≤ s.length ∧ mm = cs.length - i ∧ e 3 = .string (bs s) ∧ e 4 = v4 ∧ e 11 = .pointer (some ⟨f, 0, none⟩) ∧ e 12 = .pointer (some ⟨p, 0, none⟩) ∧ e 13 = .int .i64 from_ ∧ e 14 = .int .i64 i ∧
    Ex h1 h' ∧ (∀ j, F' j → h1.length ≤ j) ∧ FR h' f (FeedM.write (FeedM.new l m d) (s.take from_)) F' ∧ RR h1 V h' p (rwrite (rnew l m d) (s.take from_)) G' vW ∧ (∀ j, F' j → ¬ G' j)) cs.length
    ⟨0, 0, F, fun j => j = p, .slice none 0 0, Nat.zero_le _, Nat.zero_le _, Nat.zero_le _, rfl, rfl, rfl, rfl, rfl, rfl, rfl, x2.trans x3, lowf, rf.ex x3, r0, gp0⟩ ?_
  rintro I mm e h' ⟨i, from_, F', G', vW, hi, hi8, hfr, hmm, e3', e4', e11, e12, e13, e14, hx, low, r1, r2, dj⟩ hI
  rw [e3', e4', e11, e12, e13, e14]
  have tk : (s.take from_).length ≤ 1000 := by rw [List.length_take]; omega
  have hcs' := hcs.ex (x1.trans hx)
  have dropEq : pSliceStr (.string (bs s)) (some (.int .i64 from_)) none = some (.string (bs (s.drop from_))) := by
    refine hopt (w_dropStr (by omega) (by omega) ?_)
    rfl
  have finish : optW (pSliceStr (.string (bs s)) (some (.int .i64 from_)) none) fun v102 =>
        strB v102 none h' fun v103 h_22 =>
        callW Try.prog 23 [(.pointer (some ⟨f, 0, none⟩)), v103] h_22 fun v104 h_23 =>
        optW (pExtract v104 0) fun v105 =>
        optW (pExtract v104 1) fun v106 =>
        optW (pSliceStr (.string (bs s)) (some (.int .i64 from_)) none) fun v111 =>
        strB v111 none h_23 fun v112 h_24 =>
        callW Try.prog 37 [(.pointer (some ⟨p, 0, none⟩)), v112] h_24 fun v113 h_25 =>
        optW (pExtract v113 0) fun v114 =>
        optW (pExtract v113 1) fun v115 =>
        callW Try.prog 24 [(.pointer (some ⟨f, 0, none⟩))] h_25 fun v118 h_26 =>
        optW (pExtract v118 0) fun v119 =>
        optW (pExtract v118 1) fun v120 =>
        optW (pExtract v118 2) fun v121 =>
        callW Try.prog 39 [(.pointer (some ⟨p, 0, none⟩))] h_26 fun v124 h_27 =>
        optW (pExtract v124 0) fun v125 =>
        optW (pExtract v124 1) fun v126 =>
        optW (pExtract v124 2) fun v127 =>
        optW (pBin Try.prog .eql 3 v105 v114) fun v130 =>
        gopW (gB v130 true) (fun k_10 =>
          k_10 v106 h_27) h_27 fun v132 h_28 =>
        gopW (gB v130 true) (fun k_11 =>
          k_11 v115 h_28) h_28 fun v133 h_29 =>
        gopW (gB v130 true) (fun k_12 =>
          optW (pBin Try.prog .eql 3 v132 v133) fun v134_1 =>
          k_12 v134_1 h_29) h_29 fun v134 h_30 =>
        optW (pPick v130 v134 (.bool false)) fun v135 =>
        gopW (gB v135 true) (fun k_13 =>
          k_13 (.pointer (some ⟨f, 0, none⟩)) h_30) h_30 fun v137 h_31 =>
        gopW (gB v135 true) (fun k_14 =>
          callW Try.prog 31 [v137] h_31 fun v138_1 h_33 =>
          k_14 v138_1 h_33) h_31 fun v138 h_32 =>
        gopW (gB v135 true) (fun k_15 =>
          k_15 (.pointer (some ⟨p, 0, none⟩)) h_32) h_32 fun v139 h_34 =>
        gopW (gB v135 true) (fun k_16 =>
          callW Try.prog 38 [v139] h_34 fun v140_1 h_36 =>
          k_16 v140_1 h_36) h_34 fun v140 h_35 =>
        gopW (gB v135 true) (fun k_17 =>
          optW (pBin Try.prog .eql 3 v138 v140) fun v141_1 =>
          k_17 v141_1 h_35) h_35 fun v141 h_37 =>
        optW (pPick v135 v141 (.bool false)) fun v142 =>
        gopW (gB v142 true) (fun k_18 =>
          k_18 v119 h_37) h_37 fun v144 h_38 =>
        gopW (gB v142 true) (fun k_19 =>
          k_19 v125 h_38) h_38 fun v145 h_39 =>
        gopW (gB v142 true) (fun k_20 =>
          optW (pBin Try.prog .eql 4 v144 v145) fun v146_1 =>
          k_20 v146_1 h_39) h_39 fun v146 h_40 =>
        optW (pPick v142 v146 (.bool false)) fun v147 =>
        gopW (gB v147 true) (fun k_21 =>
          k_21 v120 h_40) h_40 fun v149 h_41 =>
        gopW (gB v147 true) (fun k_22 =>
          k_22 v126 h_41) h_41 fun v150 h_42 =>
        gopW (gB v147 true) (fun k_23 =>
          optW (pBin Try.prog .eql 3 v149 v150) fun v151_1 =>
          k_23 v151_1 h_42) h_42 fun v151 h_43 =>
        optW (pPick v147 v151 (.bool false)) fun v152 =>
        gopW (gB v152 true) (fun k_24 =>
          k_24 v121 h_43) h_43 fun v154 h_44 =>
        gopW (gB v152 true) (fun k_25 =>
          k_25 v127 h_44) h_44 fun v155 h_45 =>
        gopW (gB v152 true) (fun k_26 =>
          optW (pBin Try.prog .eql 3 v154 v155) fun v156_1 =>
          k_26 v156_1 h_45) h_45 fun v156 h_46 =>
        optW (pPick v152 v156 (.bool false)) fun v157 =>
        K v157 h_46 := by
    rw [dropEq]
    refine w_some rfl ?_
    have el : s.take from_ ++ s.drop from_ = s := List.take_append_drop _ _
    have ldr : (s.drop from_).length ≤ 1000 := by rw [List.length_drop]; omega
    refine writeS (b := 1000) r1 ((fit _ tk).mono (by omega)) (icl _) fun v h9 F9 r9 c9 => ?_
    rw [← write_app, el] at r9 ⊢
    obtain ⟨r9', d9⟩ := r2.other c9 dj low
    have x9 : Ex h1 h9 := c9.toEx hx low
    have low9 := c9.low hx low
    refine w_some rfl (w_some rfl (w_some rfl ?_))
    refine writeR (b := 1000) r9' ((rsm _ tk).mono (by omega)) (fin0 _) (by omega) fun w h11 G11 vW11 r11 c11 => ?_
    rw [← rwrite_app, el] at r11 ⊢
    obtain ⟨f11, d11⟩ := r9.other c11 fun j h1 h2 => d9 j h2 h1
    have S := sim s hs
    have fz := fit s hs
    refine w_some rfl (w_some rfl ?_)
    refine close24 f11 (fz.mono (c := 1000 + 2) (by omega)) (icl _) fun h12 F12 c f12 c12 hc => ?_
    obtain ⟨r12, d12⟩ := r11.other c12 (fun j h1 h2 => d11 j h2 h1) low9
    have S2 := sim_shut sd S (by have := fz.ub; omega)
    refine w_some rfl (w_some rfl (w_some rfl ?_))
    have z1 : (FeedM.write (FeedM.new l m d) s).place = (rwrite (rnew l m d) s).fail := S.pl
    have z2 : (FeedM.write (FeedM.new l m d) s).e = (rwrite (rnew l m d) s).err := S.e
    have z3 : ((((FeedM.shut (FeedM.write (FeedM.new l m d) s)).under.length : Nat)) : Int) = (rshut (rwrite (rnew l m d) s)).opn := S2.op.symm
    have cmp : ∀ (hF : AH) (G' : Nat → Prop) (vW' : Value) (fa er : Int), RR h1 V hF p (rshut (rwrite (rnew l m d) s)) G' vW' → FR hF f (FeedM.shut (FeedM.write (FeedM.new l m d) s)) F12 → (FeedM.shut (FeedM.write (FeedM.new l m d) s)).place = fa → (FeedM.shut (FeedM.write (FeedM.new l m d) s)).e = er →
        optW (pBin Try.prog .eql 3 (.int .i64 (FeedM.write (FeedM.new l m d) s).place) (.int .i64 (rwrite (rnew l m d) s).fail)) fun v130 =>
        gopW (gB v130 true) (fun k_10 =>
          k_10 (.int .i64 (FeedM.write (FeedM.new l m d) s).e) hF) hF fun v132 h_28 =>
        gopW (gB v130 true) (fun k_11 =>
          k_11 (.int .i64 (rwrite (rnew l m d) s).err) h_28) h_28 fun v133 h_29 =>
        gopW (gB v130 true) (fun k_12 =>
          optW (pBin Try.prog .eql 3 v132 v133) fun v134_1 =>
          k_12 v134_1 h_29) h_29 fun v134 h_30 =>
        optW (pPick v130 v134 (.bool false)) fun v135 =>
        gopW (gB v135 true) (fun k_13 =>
          k_13 (.pointer (some ⟨f, 0, none⟩)) h_30) h_30 fun v137 h_31 =>
        gopW (gB v135 true) (fun k_14 =>
          callW Try.prog 31 [v137] h_31 fun v138_1 h_33 =>
          k_14 v138_1 h_33) h_31 fun v138 h_32 =>
        gopW (gB v135 true) (fun k_15 =>
          k_15 (.pointer (some ⟨p, 0, none⟩)) h_32) h_32 fun v139 h_34 =>
        gopW (gB v135 true) (fun k_16 =>
          callW Try.prog 38 [v139] h_34 fun v140_1 h_36 =>
          k_16 v140_1 h_36) h_34 fun v140 h_35 =>
        gopW (gB v135 true) (fun k_17 =>
          optW (pBin Try.prog .eql 3 v138 v140) fun v141_1 =>
          k_17 v141_1 h_35) h_35 fun v141 h_37 =>
        optW (pPick v135 v141 (.bool false)) fun v142 =>
        gopW (gB v142 true) (fun k_18 =>
          k_18 (.bool c) h_37) h_37 fun v144 h_38 =>
        gopW (gB v142 true) (fun k_19 =>
          k_19 (.bool c) h_38) h_38 fun v145 h_39 =>
        gopW (gB v142 true) (fun k_20 =>
          optW (pBin Try.prog .eql 4 v144 v145) fun v146_1 =>
          k_20 v146_1 h_39) h_39 fun v146 h_40 =>
        optW (pPick v142 v146 (.bool false)) fun v147 =>
        gopW (gB v147 true) (fun k_21 =>
          k_21 (.int .i64 (FeedM.shut (FeedM.write (FeedM.new l m d) s)).place) h_40) h_40 fun v149 h_41 =>
        gopW (gB v147 true) (fun k_22 =>
          k_22 (.int .i64 fa) h_41) h_41 fun v150 h_42 =>
        gopW (gB v147 true) (fun k_23 =>
          optW (pBin Try.prog .eql 3 v149 v150) fun v151_1 =>
          k_23 v151_1 h_42) h_42 fun v151 h_43 =>
        optW (pPick v147 v151 (.bool false)) fun v152 =>
        gopW (gB v152 true) (fun k_24 =>
          k_24 (.int .i64 (FeedM.shut (FeedM.write (FeedM.new l m d) s)).e) h_43) h_43 fun v154 h_44 =>
        gopW (gB v152 true) (fun k_25 =>
          k_25 (.int .i64 er) h_44) h_44 fun v155 h_45 =>
        gopW (gB v152 true) (fun k_26 =>
          optW (pBin Try.prog .eql 3 v154 v155) fun v156_1 =>
          k_26 v156_1 h_45) h_45 fun v156 h_46 =>
        optW (pPick v152 v156 (.bool false)) fun v157 =>
        K v157 h_46 := by
      intro hF G' vW' fa er rF fF z4 z5
      refine w_eql (g_tt z1 (g_tt z1 (g_tt z1 (w_eql (pk_tt z1 ?_)))))
      refine g_tt z2 (g_tt z2 (deep31 fF (g_tt z2 (g_tt z2 (deep38 rF (g_tt z2 (w_eql (pk_tt z2 ?_))))))))
      refine g_tt z3 (g_tt z3 (g_tt z3 (w_beqs (pk_tt z3 ?_))))
      refine gc_tt (gc_tt (gc_tt (w_eql (pk_t ?_))))
      refine g_tt z4 (g_tt z4 (g_tt z4 (w_eql (pk_tt z4 ?_))))
      rw [decide_eq_true z5]
      exact k hF (x1.trans rF.ex)
    refine close39 (T := ∃ a b, (mrun m l (rshut (rwrite (rnew l m d) s)).w).1.row (a, b) ∧ b ∈ m.final) r12 ((rsm s hs).mono (by omega)) (fin0 _) ?_ ?_ ?_
    · intro he hh vw Q xx hi' kq
      have hw1 := rwrite_w s (rnew l m d)
      have hw2 := rshut_w (rwrite (rnew l m d) s)
      have hw3 : (rnew l m d).w.length = 0 := rfl
      rw [S.m2, ← hvm, hV]
      exact takes27 (hl1.ex xx) (by omega) (mv35.ex xx) ok hi' (by rw [← S2.w]; exact S2.win) (by omega) kq
    · intro h13 G13 vW13 r13 c13 hne
      obtain ⟨f13, _⟩ := f12.other c13 fun j h1 h2 => d12 j h2 h1
      have hcf : c = false := by
        cases c with
        | false => rfl
        | true => exact (hne (S2.e.symm.trans (hc.1 rfl).1)).elim
      refine w_some rfl (w_some rfl (w_some rfl ?_))
      have := cmp h13 G13 vW13 _ _ r13 f13 S2.pl S2.e
      rw [hcf] at this ⊢
      exact this
    · intro h13 G13 vW13 b r13 c13 he hb
      obtain ⟨f13, _⟩ := f12.other c13 fun j h1 h2 => d12 j h2 h1
      have e0 : (FeedM.shut (FeedM.write (FeedM.new l m d) s)).e = 0 := S2.e.trans he
      have hcb : b = c := by
        refine Bool.eq_iff_iff.2 (hb.trans (Iff.trans ?_ hc.symm))
        unfold isFinal
        have lv : (FeedM.shut (FeedM.write (FeedM.new l m d) s)).now = (mrun m l (rshut (rwrite (rnew l m d) s)).w).1 := by
          rw [← S2.w, ← S2.lv]
        rw [lv, S2.m1]
        exact ⟨fun h => ⟨e0, h⟩, fun h => h.2⟩
      subst hcb
      refine w_some rfl (w_some rfl (w_some rfl ?_))
      exact cmp h13 G13 vW13 _ _ r13 f13 (S2.e0 e0) e0
  refine w_len hcs' (w_lss ?_)
  by_cases p1 : (i : Int) < (cs.length : Nat)
  · refine g_tt p1 (g_tt p1 (w_lss (pk_tt p1 ?_)))
    refine c_dec (fun p2 => ?_) (fun p2 => finish)
    obtain ⟨z, hz⟩ := getElem?_of_lt (l := cs) (i := i) (by omega)
    refine w_idxN eI_len hcs' hz fun pp hpp => w_rd1 hpp rfl ?_
    refine w_lenStr (w_sub (by omega) (by omega) (w_add (by omega) (by omega) ?_))
    refine within18 _ _ _ _ (by omega) (by omega) ?_
    have t0 : 0 ≤ z % (((s.length : Nat) : Int) - from_ + 1) := Int.emod_nonneg _ (by omega)
    have t1 : z % (((s.length : Nat) : Int) - from_ + 1) < ((s.length : Nat) : Int) - from_ + 1 := Int.emod_lt_of_pos _ (by omega)
    generalize z % (((s.length : Nat) : Int) - from_ + 1) = t at *
    refine w_add (by omega) (by omega) ?_
    have ea : ((from_ : Nat) : Int).toNat = from_ := by omega
    obtain ⟨to_, hto⟩ : ∃ to_ : Nat, (from_ : Int) + t = to_ := ⟨((from_ : Int) + t).toNat, by omega⟩
    rw [hto]
    have subEq : pSliceStr (.string (bs s)) (some (.int .i64 from_)) (some (.int .i64 to_)) = some (.string (bs ((s.drop from_).take (to_ - from_)))) := by
      refine hopt (w_subStr (by omega) (by omega) (by omega) ?_)
      have eb : ((to_ : Nat) : Int).toNat = to_ := by omega
      rw [ea, eb]
    rw [subEq]
    refine w_some rfl ?_
    have hlp : ((s.drop from_).take (to_ - from_)).length ≤ 1000 := by rw [List.length_take, List.length_drop]; omega
    have tk2 : (s.take to_).length ≤ 1000 := by rw [List.length_take]; omega
    refine writeS (b := 1000) r1 ((fit _ tk).mono (by omega)) (icl _) fun v h9 F9 r9 c9 => ?_
    rw [← write_app, take_piece s (by omega)] at r9 ⊢
    obtain ⟨r9', d9⟩ := r2.other c9 dj low
    have x9 : Ex h1 h9 := c9.toEx hx low
    have low9 := c9.low hx low
    refine w_some rfl (w_some rfl (w_some rfl ?_))
    refine writeR (b := 1000) r9' ((rsm _ tk).mono (by omega)) (fin0 _) (by omega) fun w h11 G11 vW11 r11 c11 => ?_
    rw [← rwrite_app, take_piece s (by omega)] at r11 ⊢
    obtain ⟨f11, d11⟩ := r9.other c11 fun j h1 h2 => d9 j h2 h1
    have S := sim _ tk2
    have n1 : ¬ ¬ (FeedM.write (FeedM.new l m d) (s.take to_)).place = (rwrite (rnew l m d) (s.take to_)).fail := fun h => h S.pl
    have n2 : ¬ ¬ (FeedM.write (FeedM.new l m d) (s.take to_)).e = (rwrite (rnew l m d) (s.take to_)).err := fun h => h S.e
    have n3 : ¬ ¬ ((((FeedM.write (FeedM.new l m d) (s.take to_)).under.length : Nat)) : Int) = (rwrite (rnew l m d) (s.take to_)).opn := fun h => h S.op.symm
    refine w_some rfl (w_some rfl (w_neq ?_))
    refine g_ff n1 (g_ff n1 (g_ff n1 (w_neq (pk_ff n1 ?_))))
    refine g_ff n2 (g_ff n2 (deep31 f11 (g_ff n2 (g_ff n2 (deep38 r11 (g_ff n2 (w_neq (pk_ff n2 (c_ff n3 ?_)))))))))
    refine w_add (by omega) (by omega) ?_
    exact hI (mm - 1) _ _ (by omega) ⟨i + 1, to_, F9, G11, vW11, by omega, by omega, by omega, by omega, e3', e4', e11, e12, rfl, rfl, r11.ex, low9, f11, r11, fun j h1 h2 => d11 j h2 h1⟩
  · refine g_tf p1 (g_tf p1 (pk_ff p1 (c_f ?_)))
    exact finish
end Go.Proofs.Ytebbjimmgblcpaa.W
end

section
/- FeedPlays: the walk. Conditions: none. -/
namespace Go.Proofs.Ytebbjimmgblcpaa.W
open Go Go.AM FeedM
set_option linter.unusedVariables false
set_option maxRecDepth 100000

theorem bld6 : bldSl 1 [(.int .i64 0)] 6 [(0, (.int .i64 0)), (1, (.int .i64 1)), (2, (.int .i64 2)), (3, (.int .i64 3)), (4, (.int .i64 100)), (5, (.int .i64 (-1)))] = some (flat eI [0, 1, 2, 3, 100, -1]) := by kernel_rfl
theorem bld11 (b0 b1 b2 b3 b4 b5 b6 b7 b8 b9 b10 : List UInt8) : bldSl 1 [(.string (bs []))] 11 [(0, .string (bs b0)), (1, .string (bs b1)), (2, .string (bs b2)), (3, .string (bs b3)), (4, .string (bs b4)), (5, .string (bs b5)), (6, .string (bs b6)), (7, .string (bs b7)), (8, .string (bs b8)), (9, .string (bs b9)), (10, .string (bs b10))] = some (flat eS [b0, b1, b2, b3, b4, b5, b6, b7, b8, b9, b10]) := by kernel_rfl
theorem newWs_eq {r : Nat} {o : AObj} {h : AH} {K : Nat → AH → Prop} : newW (some r) o h K = K r (h.set r o) := rfl
theorem take_eq {l : List UInt8} {j : Int} (h0 : 0 ≤ j) (h1 : j ≤ (l.length : Nat)) : pSliceStr (.string (bs l)) none (some (.int .i64 j)) = some (.string (bs (l.take j.toNat))) := hopt (w_takeStr h0 h1 rfl)
theorem drop_eq {l : List UInt8} {j : Int} (h0 : 0 ≤ j) (h1 : j ≤ (l.length : Nat)) : pSliceStr (.string (bs l)) (some (.int .i64 j)) none = some (.string (bs (l.drop j.toNat))) := hopt (w_dropStr h0 h1 rfl)
theorem cat_eq' {l m : List UInt8} (h1 : l.length ≤ 10000000) (h2 : m.length ≤ 10000000) : pBin Try.prog .add 9 (.string (bs l)) (.string (bs m)) = some (.string (bs (l ++ m))) := cat_eq (by omega)

theorem strs_at {h : AH} {l : List (List UInt8)} {n i : Nat} (hg : h[i]? = some (.row (flat eS l) true)) (hn : n = l.length) (hl : l.length < 100) : SlT 1 eS h (.slice (some ⟨i, 0, none⟩) n n) l := by
  subst hn
  refine ⟨flat_length eS_len l, .inr ⟨i, 0, _, rfl, .inl ⟨?_, Nat.le_refl _⟩, .inr ⟨_, true, hg, ?_, ?_⟩⟩⟩
  · have : (100 : Nat) < openCap := by decide
    omega
  · rw [flat_length eS_len]; omega
  · rw [List.drop_zero, ← flat_length eS_len l, List.take_length]

theorem plays3 (h : AH) (a : Int) (_ : I64 a) (size : Int) (hs : I64 size) (v1 : Value) (ns : List Int) (i1 : Ints h v1 ns) (_ : ∀ n ∈ ns, I64 n) (v2 : Value) (ws : List Int) (i2 : Ints h v2 ws) (_ : ∀ n ∈ ws, I64 n) (dp : Int) (_ : I64 dp) (at_ : Int) (_ : I64 at_) (bn : Int) (_ : U8 bn)
    (more : List UInt8) (_ : more.length ≤ maxLen) (raw : List UInt8) (_ : raw.length ≤ maxLen) (v3 : Value) (cs : List Int) (i3 : Ints h v3 cs) (_ : ∀ n ∈ cs, I64 n) (hm : h.length = 3) :
    callW Try.prog 3 [.int .i64 a, .int .i64 size, v1, v2, .int .i64 dp, .int .i64 at_, .int .u8 bn, .string (bs more), .string (bs raw), v3] h fun v _ => v = .bool true := by
  refine c3 ?_
  unfold s3
  refine known13 (.inr (.inr hm)) fun h1 x1 => ?_
  refine w_notb (c_f ?_)
  have mx : (10000000 : Nat) < room40 := big40
  refine w_lenStr (w_gtr ?_)
  by_cases q1 : (30 : Int) < (more.length : Nat)
  · iterate 3 refine g_ft q1 ?_
    exact pk_tt q1 (c_t rfl)
  refine g_ff q1 (g_ff q1 (w_lenStr (g_ff q1 (w_gtr (pk_ff q1 (c_dec (fun _ => rfl) (fun q2 => ?_)))))))
  refine syms14 (i1.ex x1) fun vl h2 l x2 hl lc => ?_
  obtain ⟨l0, l7⟩ := small_choices l lc
  have ok0 := okSy_choices l lc
  refine one15 hl (by omega) hs (i1.ex (x1.trans x2)) fun h3 vm m x3 mv ok ne => ?_
  refine boxA mv fun h4' h4 x4 bx l4 => ?_
  have hl4 := hl.ex (x3.trans x4)
  have x14 := ((x1.trans x2).trans x3).trans x4
  refine word17 hl4 (i2.ex x14) l0 (by omega) (by decide) fun vw h5 x5 ow => ?_
  have wl := wordOf_len l.length ws 8
  have win := wordOf_in l0 ws 8
  generalize wordOf l.length ws 8 = w at *
  refine text16 (hl4.ex x5) (names1 l lc) ow.sl win (by omega) fun h6 s x6 tx sl => ?_
  refine w_lenStr (w_add (by omega) (by omega) ?_)
  refine within18 _ _ _ _ (by omega) (by omega) ?_
  have t0 : 0 ≤ at_ % (((s.length : Nat) : Int) + 1) := Int.emod_nonneg _ (by omega)
  have t1 : at_ % (((s.length : Nat) : Int) + 1) < ((s.length : Nat) : Int) + 1 := Int.emod_lt_of_pos _ (by omega)
  generalize at_ % (((s.length : Nat) : Int) + 1) = kk at *
  rw [bld6, optW_some, newW_eq]
  have sD : Ints (h6 ++ [.row (flat eI [0, 1, 2, 3, 100, -1]) true]) (.slice (some ⟨h6.length, 0, none⟩) 6 6) [0, 1, 2, 3, 100, -1] := ⟨rfl, .inr ⟨h6.length, 0, 6, rfl, .inl ⟨by decide, by decide⟩, .inr ⟨_, true, get_new _ _, by decide, rfl⟩⟩⟩
  have x7 : Ex h6 (h6 ++ [.row (flat eI [0, 1, 2, 3, 100, -1]) true]) := .app _ _
  generalize h6 ++ [AObj.row (flat eI [0, 1, 2, 3, 100, -1]) true] = h7 at *
  refine within18 _ _ _ _ (by decide) (by decide) ?_
  have d0 : 0 ≤ dp % 6 ∧ dp % 6 < 6 := ⟨Int.emod_nonneg _ (by decide), Int.emod_lt_of_pos _ (by decide)⟩
  obtain ⟨d, hd⟩ := getElem?_of_lt (l := ([0, 1, 2, 3, 100, -1] : List Int)) (i := (dp % 6).toNat) (by show _ < 6; omega)
  refine w_idxT (enc := eI) eI_len sD d0.1 hd fun pp hpp => w_rd1 hpp rfl ?_
  refine turned19 (by omega) fun h8 s' x8 sl' => ?_
  have k0 : kk ≤ (s.length : Nat) := by omega
  have e1 : (s.take kk.toNat).length ≤ 100 := by rw [List.length_take]; omega
  have e2 : (s.drop kk.toNat).length ≤ 100 := by rw [List.length_drop]; omega
  have e3' : (s.take kk.toNat ++ more).length ≤ 200 := by rw [List.length_append]; omega
  rw [take_eq t0 k0, optW_some, optW_some, cat_eq' (by omega) (by omega), optW_some, drop_eq t0 k0, optW_some, cat_eq' (by omega) (by omega), optW_some, cat_eq' (by omega) (by omega), optW_some,
    cat_eq' (by omega) (by simp), optW_some, cat_eq' (by omega) (by simp), optW_some, cat_eq' (by omega) (by simp), optW_some, cat_eq' (by omega) (by simp), optW_some, cat_eq' (by omega) (by simp), optW_some, cat_eq' (by omega) (by simp), optW_some, bld11, optW_some, newWs_eq]
  have x78 : ∀ o, Ex h7 (h8.set h7.length o) := fun o => ((Ex.res h7).trans x8).set (Nat.le_refl _) o
  have lt8 : h7.length < h8.length := by have := x8.len; rw [reserve_one] at this; simp at this; omega
  obtain ⟨ts, h9, hH, hts⟩ : ∃ (ts : List (List UInt8)) (h9 : AH), (h8.set h7.length (.row (flat eS ts) true) = h9) ∧ ts = [s, s', s.take kk.toNat, s.take kk.toNat ++ more ++ s.drop kk.toNat, s ++ raw, s ++ [60, 97], s ++ [32, 97, 98, 99, 100, 101, 102, 103, 104, 105], s ++ [32, 60, 97, 98, 99, 100, 101, 102, 103, 104, 105, 62], s ++ [32, 122, 122, 32], s ++ [60, 47], s ++ [98, 49]] := ⟨_, _, rfl, rfl⟩
  rw [← hts, hH]
  have x9 : Ex h7 h9 := by rw [← hH]; exact x78 _
  have tl : ts.length = 11 := by rw [hts]; rfl
  have hS : SlT 1 eS h9 (.slice (some ⟨h7.length, 0, none⟩) 11 11) ts := strs_at (by rw [← hH]; exact get_set _ lt8 _) tl.symm (by omega)
  have tb : ∀ t ∈ ts, t.length ≤ 1000 := by
    intro t ht
    rw [hts] at ht
    simp only [List.mem_cons, List.not_mem_nil, or_false] at ht
    rcases ht with rfl | rfl | rfl | rfl | rfl | rfl | rfl | rfl | rfl | rfl | rfl
    all_goals first | omega | (simp only [List.length_append, List.length_cons, List.length_nil]; omega)
  clear hH hts
  have x69 := x7.trans x9
  have x49 := (x5.trans x6).trans x69
  have hl9 := hl4.ex x49
  have bx9 := bx.ex x49
  have i39 := i3.ex (x14.trans x49)
  have lb : h3.length < h9.length := by have := x49.len; omega
  refine loopE_intro (fun mm e h' => ∃ i : Nat, i ≤ 11 ∧ mm = 11 - i ∧ e 9 = v3 ∧ e 21 = vl ∧ e 22 = .pointer (some ⟨h3.length, 0, none⟩) ∧ e 25 = .int .i64 d ∧ e 26 = .slice (some ⟨h7.length, 0, none⟩) 11 11 ∧ e 27 = .int .i64 i ∧ Ex h9 h') 11
    ⟨0, Nat.zero_le _, rfl, rfl, rfl, rfl, rfl, rfl, rfl, Ex.refl _⟩ ?_
  rintro I mm e h' ⟨i, hi, hmm, f9, f21, f22, f25, f26, f27, hx⟩ hI
  rw [f9, f21, f22, f25, f26, f27]
  refine w_lenSl (w_lss (c_dec (fun q3 => ?_) (fun _ => rfl)))
  obtain ⟨t, ht⟩ := getElem?_of_lt (l := ts) (i := i) (by omega)
  have htl := tb t (List.mem_of_getElem? ht)
  have next : ∀ (e' : Env) (h2 : AH), Ex h' h2 → e' 9 = v3 → e' 21 = vl → e' 22 = .pointer (some ⟨h3.length, 0, none⟩) → e' 25 = .int .i64 d → e' 26 = .slice (some ⟨h7.length, 0, none⟩) 11 11 → e' 27 = .int .i64 ((i : Int) + 1) → I e' h2 :=
    fun e' h2 y g1 g2 g3 g4 g5 g6 => hI (mm - 1) _ _ (by omega) ⟨i + 1, by omega, by omega, g1, g2, g3, g4, g5, g6, hx.trans y⟩
  refine w_idxN (enc := eS) eS_len (hS.ex hx) ht fun pp hpp => w_rd1 hpp rfl ?_
  refine opens20 (by omega) fun no => w_lss ?_
  have bx' := bx9.ex hx
  by_cases q4 : no < 7
  · refine gd_tt q4 (gd_tt q4 ?_)
    refine hist_all ?_ (fun tt htt x hx' => by rw [List.mem_singleton.1 htt])
    obtain ⟨cells, gB', hlB, mvB⟩ := bx'
    refine w_rdPA gB' hlB ?_
    refine gd_tt q4 (gd_tt q4 (gd_tt q4 (gd_tt q4 ?_)))
    refine w_idxN (enc := eS) eS_len (hS.ex hx) ht fun pp2 hpp2 => ?_
    refine gd_tt q4 (hist_all ?_ (fun tt htt x hx' => by rw [List.mem_singleton.1 htt]))
    refine w_rd1 hpp2 rfl (gd_tt q4 (gd_tt q4 ?_))
    refine play21 (hl9.ex hx) lc mvB ok htl (i39.ex hx) fun h10 x10 => ?_
    refine read_all ?_ ?_
    · refine gd_tt q4 (w_notb (pk_tt q4 (c_f ?_)))
      refine w_add (by omega) (by omega) ?_
      exact next _ _ x10 f9 f21 f22 f25 f26 rfl
    · intro tt htt
      simp only [List.mem_cons, List.not_mem_nil, or_false] at htt
      rcases htt with rfl | rfl | rfl
      · exact fun x hx' => PtrTo.ids hpp2 (Ex.refl _) x10 x hx'
      · exact idrow gB' (x10.some gB')
      · exact fun x hx' => PtrTo.ids hpp (Ex.refl _) x10 x hx'
  · iterate 10 refine gd_tf q4 ?_
    refine pk_ff q4 (c_f ?_)
    refine w_add (by omega) (by omega) ?_
    exact next _ _ (Ex.refl _) f9 f21 f22 f25 f26 rfl
end Go.Proofs.Ytebbjimmgblcpaa.W
end
