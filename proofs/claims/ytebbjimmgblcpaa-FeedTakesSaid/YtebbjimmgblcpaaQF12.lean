/- A byte of a token that is begun; a byte; bytes: the walks. Conditions: none. -/
import Derived.Test.YtebbjimmgblcpaaQF11
namespace Go.Proofs.Ytebbjimmgblcpaa.W
open Go Go.AM FeedM
set_option linter.unusedVariables false
set_option maxRecDepth 100000

theorem fromKind_le (s : List UInt8) (hs : s ≠ []) : (fromKind s).1 ≤ s.length := by
  unfold fromKind
  split
  · split
    · rename_i h
      obtain ⟨h, _⟩ := List.getElem?_eq_some_iff.1 h
      show 2 ≤ s.length
      omega
    · cases s with
      | nil => exact (hs rfl).elim
      | cons _ _ => simp
  · exact Nat.zero_le _

theorem more_end {h : AH} {f : Nat} {st : FS} {F : Nat → Prop} {c : UInt8} {b : Nat} {K : Value → AH → Prop} (r : FR h f st F) (ft : Fit st (b + 2)) (hs : st.s ≠ [])
    (hno : ¬ ((letter c ∧ st.s.length - (fromKind st.s).1 < 8) ∨ (c = 47 ∧ (fromKind st.s).2 = 1 ∧ st.s.length - (fromKind st.s).1 = 0)))
    (kk : ∀ h' F', FR h' f (FeedM.more st c) F' → Chg F h F' h' → K (.tuple #[]) h') :
    optW (pBin Try.prog .eql 5 (.int .u8 c.toNat) (.int .u8 62)) fun v78 =>
    gopW (gB v78 true) (fun k_2 => k_2 (.int .i64 (fromKind st.s).2) h) h fun v80 h_8 =>
    gopW (gB v78 true) (fun k_3 => optW (pBin Try.prog .neq 3 v80 (.int .i64 3)) fun v81_1 => k_3 v81_1 h_8) h_8 fun v81 h_9 =>
    optW (pPick v78 v81 (.bool false)) fun v82 =>
    gopW (gB v82 true) (fun k_4 => k_4 (.int .i64 ((st.s.length - (fromKind st.s).1 : Nat) : Int)) h_9) h_9 fun v84 h_10 =>
    gopW (gB v82 true) (fun k_5 => optW (pBin Try.prog .gtr 3 v84 (.int .i64 0)) fun v85_1 => k_5 v85_1 h_10) h_10 fun v85 h_11 =>
    optW (pPick v82 v85 (.bool false)) fun v86 =>
    condW v86 (
      optW (pNilCheck (.pointer (some ⟨f, 0, none⟩))) fun v89 => optW (pOff 10 v89) fun v90 => optW (pOff 0 v90) fun v91 => optW (rdRow false 1 v91 h_11) fun v92 =>
      optW (pSliceSl 1 v92 (some (.int .i64 ((fromKind st.s).1 : Nat))) none none) fun v94 =>
      optW (pBytesStr v94 h_11) fun v95 =>
      callW Try.prog 64 [(.pointer (some ⟨f, 0, none⟩)), v95, (.int .i64 (fromKind st.s).2)] h_11 fun v97 h_12 => K (.tuple #[]) h_12
    ) (
      optW (pNilCheck (.pointer (some ⟨f, 0, none⟩))) fun v42 => optW (pOff 10 v42) fun v43 => optW (pOff 1 v43) fun v44 => optW (rdRow false 1 v44 h_11) fun v45 =>
      callW Try.prog 48 [(.pointer (some ⟨f, 0, none⟩)), (.int .i64 12), v45] h_11 fun v46 h_13 => K (.tuple #[]) h_13) := by
  have e62 : ((c.toNat : Int) = 62) ↔ c = 62 := ceq rfl
  have hle := fromKind_le st.s hs
  unfold FeedM.more at kk
  dsimp only at kk
  rw [if_neg hno] at kk
  have bad : ¬ (c = 62 ∧ (fromKind st.s).2 ≠ 3 ∧ 0 < st.s.length - (fromKind st.s).1) →
      optW (pNilCheck (.pointer (some ⟨f, 0, none⟩))) fun v42 => optW (pOff 10 v42) fun v43 => optW (pOff 1 v43) fun v44 => optW (rdRow false 1 v44 h) fun v45 =>
      callW Try.prog 48 [(.pointer (some ⟨f, 0, none⟩)), (.int .i64 12), v45] h fun v46 h_13 => K (.tuple #[]) h_13 := by
    intro hb
    rw [if_neg hb] at kk
    have r0 := r
    obtain ⟨V, hr, b⟩ := r
    refine w_nilc (w_offP (w_offP (w_rdP hr (v := .int .i64 st.at_) rfl ?_)))
    exact wrong48 r0 fun h3 r3 c3 => kk _ _ r3 c3
  refine w_eql ?_
  by_cases q1 : (c.toNat : Int) = 62
  · refine g_tt q1 (g_tt q1 (w_neq (pk_tt q1 ?_)))
    by_cases q2 : (fromKind st.s).2 = 3
    · have q2' : ¬ ¬ (fromKind st.s).2 = 3 := fun h => h q2
      refine g_tf q2' (g_tf q2' (pk_ff q2' (c_f (bad fun h => h.2.1 q2))))
    · refine g_tt q2 (g_tt q2 (w_gtr (pk_tt q2 ?_)))
      refine c_dec (fun q3 => ?_) (fun q3 => bad fun h => q3 (by have := h.2.2; omega))
      rw [if_pos ⟨e62.1 q1, q2, by omega⟩] at kk
      have r0 := r
      obtain ⟨V, hr, b⟩ := r
      refine w_nilc (w_offP (w_offP (w_rdP hr (v := V.vs) rfl ?_)))
      refine w_sliceT (enc := eB) (l := st.s) (i := (fromKind st.s).1) (j := st.s.length) eB_len b.s.sl hle (Nat.le_refl _) (.inr ⟨_, rfl⟩) (.inl ⟨rfl, rfl⟩) fun v' hv' _ => ?_
      have he : (st.s.drop (fromKind st.s).1).take (st.s.length - (fromKind st.s).1) = st.s.drop (fromKind st.s).1 := List.take_of_length_le (by simp)
      rw [he] at hv'
      refine w_bstr hv' (by rw [List.length_drop]; omega) ?_
      exact sym64 r0 ft fun h1 F1 r1 c1 => kk _ _ r1 c1
  · refine g_tf q1 (g_tf q1 (pk_ff q1 (gc_tf (gc_tf (pk_f (c_f (bad fun h => q1 (e62.2 h.1))))))))

theorem more63 {h : AH} {f : Nat} {st : FS} {F : Nat → Prop} {c : UInt8} {b : Nat} {K : Value → AH → Prop} (r : FR h f st F) (ft : Fit st (b + 2)) (hs : st.s ≠ [])
    (kk : ∀ h' F', FR h' f (FeedM.more st c) F' → Chg F h F' h' → K (.tuple #[]) h') : callW Try.prog 63 [.pointer (some ⟨f, 0, none⟩), .int .u8 c.toNat] h K := by
  have r0 := r
  obtain ⟨V, hr, b⟩ := r
  refine c63 ?_
  unfold s63
  refine joinE_intro (fun e h' => e 0 = .pointer (some ⟨f, 0, none⟩) ∧ e 1 = .int .u8 c.toNat ∧ e 4 = .int .i64 ((fromKind st.s).1 : Nat) ∧ e 5 = .int .i64 (fromKind st.s).2 ∧ h' = h) ?_ ?_
  · rintro e h' ⟨e0, e1, e4, e5, rfl⟩
    rw [e0, e1, e4, e5]
    have hle := fromKind_le st.s hs
    have hsl := ft.sb
    unfold room40 at hsl
    have e47 : ((c.toNat : Int) = 47) ↔ c = 47 := ceq rfl
    refine w_nilc (w_offP (w_offP (w_rdP hr (v := V.vs) rfl ?_)))
    refine w_len b.s.sl ?_
    refine w_sub (by omega) (by omega) ?_
    have en : ((st.s.length : Nat) : Int) - (((fromKind st.s).1 : Nat) : Int) = ((st.s.length - (fromKind st.s).1 : Nat) : Int) := by omega
    rw [en]
    have good : ((letter c ∧ st.s.length - (fromKind st.s).1 < 8) ∨ (c = 47 ∧ (fromKind st.s).2 = 1 ∧ st.s.length - (fromKind st.s).1 = 0)) →
        ∀ h2 F', FR h2 f { st with s := st.s ++ [c] } F' → Chg F h' F' h2 → K (.tuple #[]) h2 := by
      intro hg h2 F' r2 c2
      unfold FeedM.more at kk
      dsimp only at kk
      rw [if_pos hg] at kk
      exact kk _ _ r2 c2
    refine letter61 ?_
    cases hl : letter c with
    | true =>
      refine gc_tt (gc_tt (w_lss (pk_t ?_)))
      refine c_dec (fun q => ?_) (fun q => ?_)
      · refine c_tt q ?_
        exact toktail r0 (ft.mono (c := 1) (by omega)).sb (good (.inl ⟨hl, by omega⟩))
      · have hn47 : ¬ (c.toNat : Int) = 47 := fun h => by rw [e47.1 h] at hl; exact absurd hl (by decide)
        refine w_eql (g_tf hn47 (g_tf hn47 (pk_ff hn47 (gc_tf (gc_tf (pk_f (c_f ?_)))))))
        exact more_end r0 ft hs (fun h => h.elim (fun h => q (by have := h.2; omega)) fun h => hn47 (e47.2 h.1)) kk
    | false =>
      refine gc_tf (gc_tf (pk_f (c_f ?_)))
      refine w_eql ?_
      by_cases q1 : (c.toNat : Int) = 47
      · refine g_tt q1 (g_tt q1 (w_eql (pk_tt q1 ?_)))
        by_cases q2 : (fromKind st.s).2 = 1
        · refine g_tt q2 (g_tt q2 (w_eql (pk_tt q2 ?_)))
          refine c_dec (fun q3 => ?_) (fun q3 => ?_)
          · exact toktail r0 (ft.mono (c := 1) (by omega)).sb (good (.inr ⟨e47.1 q1, q2, by omega⟩))
          · exact more_end r0 ft hs (fun h => h.elim (fun h => by rw [hl] at h; cases h.1) fun h => q3 (by have := h.2.2; omega)) kk
        · refine g_tf q2 (g_tf q2 (pk_ff q2 (c_f ?_)))
          exact more_end r0 ft hs (fun h => h.elim (fun h => by rw [hl] at h; cases h.1) fun h => q2 h.2.1) kk
      · refine g_tf q1 (g_tf q1 (pk_ff q1 (gc_tf (gc_tf (pk_f (c_f ?_))))))
        exact more_end r0 ft hs (fun h => h.elim (fun h => by rw [hl] at h; cases h.1) fun h => q1 (e47.2 h.1)) kk
  · intro J hJ
    have hpos : 0 < st.s.length := List.length_pos_iff.2 hs
    obtain ⟨x, hx⟩ := getElem?_of_lt hpos
    have hh : st.s.head? = some x := by rw [List.head?_eq_getElem?]; exact hx
    have e60 : ((x.toNat : Int) = 60) ↔ x = 60 := ceq rfl
    refine w_nilc (w_offP (w_offP (w_rdP hr (v := V.vs) rfl ?_)))
    refine w_idxN (enc := eB) (i := 0) eB_len b.s.sl hx fun p hp => ?_
    refine w_rd1 hp rfl (w_eql ?_)
    refine c_dec (fun q1 => ?_) (fun q1 => ?_)
    · refine w_nilc (w_offP (w_offP (w_rdP hr (v := V.vs) rfl ?_)))
      refine w_len b.s.sl (w_gtr ?_)
      by_cases q2 : (1 : Int) < (st.s.length : Nat)
      · obtain ⟨y, hy⟩ := getElem?_of_lt (l := st.s) (i := 1) (by omega)
        have e47 : ((y.toNat : Int) = 47) ↔ y = 47 := ceq rfl
        refine g_tt q2 (g_tt q2 (w_nilc (g_tt q2 (w_offP (g_tt q2 (w_offP (g_tt q2 (w_rdP hr (v := V.vs) rfl (g_tt q2 ?_)))))))))
        refine w_idxN (enc := eB) (i := 1) eB_len b.s.sl hy fun p hp => ?_
        refine g_tt q2 (w_rd1 hp rfl (g_tt q2 (w_eql ?_)))
        refine pk_tt q2 ?_
        refine c_dec (fun q3 => ?_) (fun q3 => ?_)
        · have : fromKind st.s = (2, 2) := by unfold fromKind; rw [if_pos (by rw [hh, e60.1 q1]), if_pos (by rw [hy, e47.1 q3])]
          exact hJ _ _ ⟨rfl, rfl, by rw [this]; rfl, by rw [this]; rfl, rfl⟩
        · have : fromKind st.s = (1, 1) := by unfold fromKind; rw [if_pos (by rw [hh, e60.1 q1]), if_neg (by rw [hy]; intro h; exact q3 (e47.2 (Option.some.inj h)))]
          exact hJ _ _ ⟨rfl, rfl, by rw [this]; rfl, by rw [this]; rfl, rfl⟩
      · refine g_tf q2 (g_tf q2 (g_tf q2 (g_tf q2 (g_tf q2 (g_tf q2 (g_tf q2 (g_tf q2 (pk_ff q2 (c_f ?_)))))))))
        have hn : st.s[1]? = none := List.getElem?_eq_none (by omega)
        have : fromKind st.s = (1, 1) := by unfold fromKind; rw [if_pos (by rw [hh, e60.1 q1]), if_neg (by rw [hn]; intro h; cases h)]
        exact hJ _ _ ⟨rfl, rfl, by rw [this]; rfl, by rw [this]; rfl, rfl⟩
    · have : fromKind st.s = (0, 3) := by unfold fromKind; rw [if_neg (by rw [hh]; intro h; exact q1 (e60.2 (Option.some.inj h)))]
      exact hJ _ _ ⟨rfl, rfl, by rw [this]; rfl, by rw [this]; rfl, rfl⟩

theorem Fit.first {st : FS} {c : UInt8} {b : Nat} (t : Fit st (b + 1)) : Fit (FeedM.first st c) b := by
  unfold FeedM.first
  split
  · exact t.mono (by omega)
  split
  · exact t.adds
  · exact (t.mono (by omega)).wrong
theorem Fit.more {st : FS} {c : UInt8} {b : Nat} (t : Fit st (b + 2)) : Fit (FeedM.more st c) b := by
  unfold FeedM.more
  dsimp only
  split
  · exact (t.mono (c := b + 1) (by omega)).adds (a := st.at_)
  split
  · exact t.sym
  · exact (t.mono (by omega)).wrong
theorem Fit.ended {st : FS} {b : Nat} (t : Fit st (b + 2)) : Fit (FeedM.ended st) b := by
  unfold FeedM.ended
  split
  · exact t.mono (by omega)
  split
  · exact t.sym
  · exact t.mono (by omega)
theorem Fit.step1 {st : FS} {c : UInt8} {b : Nat} (t : Fit st (b + 2)) : Fit (FeedM.step1 st c) b := by
  unfold FeedM.step1
  split
  · exact t.mono (by omega)
  split
  · exact (t.mono (c := b + 1) (by omega)).first
  · exact t.more
theorem Fit.step {st : FS} {c : UInt8} {b : Nat} (t : Fit st (b + 5)) : Fit (FeedM.step st c) b := by
  unfold FeedM.step
  have : Fit (FeedM.step1 (if letter c = true then st else FeedM.ended st) c) (b + 1) := by
    refine Fit.step1 ?_
    split
    · exact t.mono (by omega)
    · exact t.ended
  exact ⟨this.u, this.fin, this.l, this.now, this.und, (this.mono (Nat.le_succ b)).ub, (this.mono (Nat.le_succ b)).sb, (this.mono (Nat.le_succ b)).wb, by have := this.rd; dsimp only; omega⟩

theorem readtail {h : AH} {f : Nat} {st : FS} {F : Nat → Prop} {K : Value → AH → Prop} (r : FR h f st F) (hw : 0 ≤ st.read ∧ st.read + 1 < room40)
    (kk : ∀ h' F', FR h' f { st with read := st.read + 1 } F' → Chg F h F' h' → K (.tuple #[]) h') :
    optW (pNilCheck (.pointer (some ⟨f, 0, none⟩))) fun v30 => optW (pOff 14 v30) fun v31 => optW (rdRow false 1 v31 h) fun v32 => optW (pBin Try.prog .add 3 v32 (.int .i64 1)) fun v33 =>
      optW (pNilCheck (.pointer (some ⟨f, 0, none⟩))) fun v34 => optW (pOff 14 v34) fun v35 => optW (pStore 1 v35 v33 h) fun h3 => K (.tuple #[]) h3 := by
  obtain ⟨V, hr, b⟩ := r
  have hlt := lt_of_get hr
  unfold room40 at hw
  refine w_nilc (w_offP (w_rdP hr (v := .int .i64 st.read) rfl ?_))
  refine w_add (by omega) (by omega) ?_
  refine w_nilc (w_offP ?_)
  refine w_stP hr (by simp [rowOf]) rfl rfl ?_
  exact kk _ F ⟨V, by rw [get_set _ hlt]; rfl, (b.setf _).to rfl rfl rfl rfl rfl rfl⟩ (Chg.setf b.ff _)

theorem step46 {h : AH} {f : Nat} {st : FS} {F : Nat → Prop} {c : UInt8} {b : Nat} {K : Value → AH → Prop} (r : FR h f st F) (ft : Fit st (b + 5))
    (kk : ∀ h' F', FR h' f (FeedM.step st c) F' → Chg F h F' h' → K (.tuple #[]) h') : callW Try.prog 46 [.pointer (some ⟨f, 0, none⟩), .int .u8 c.toNat] h K := by
  refine c46 ?_
  unfold s46
  refine letter61 (w_notb ?_)
  have main : ∀ h1 F1 st1, FR h1 f st1 F1 → Fit st1 (b + 3) → Chg F h F1 h1 → (st1 = if letter c = true then st else FeedM.ended st) →
      optW (pNilCheck (.pointer (some ⟨f, 0, none⟩))) fun v14 => optW (pOff 16 v14) fun v15 => optW (rdRow false 1 v15 h1) fun v16 => optW (pBin Try.prog .neq 42 v16 (.int .i64 0)) fun v17 =>
      condW v17 (
        optW (pNilCheck (.pointer (some ⟨f, 0, none⟩))) fun v30 => optW (pOff 14 v30) fun v31 => optW (rdRow false 1 v31 h1) fun v32 => optW (pBin Try.prog .add 3 v32 (.int .i64 1)) fun v33 =>
        optW (pNilCheck (.pointer (some ⟨f, 0, none⟩))) fun v34 => optW (pOff 14 v34) fun v35 => optW (pStore 1 v35 v33 h1) fun h3 => K (.tuple #[]) h3
      ) (
        optW (pNilCheck (.pointer (some ⟨f, 0, none⟩))) fun v20 => optW (pOff 10 v20) fun v21 => optW (pOff 0 v21) fun v22 => optW (rdRow false 1 v22 h1) fun v23 => optW (lenSl v23) fun v24 =>
        optW (pBin Try.prog .eql 3 v24 (.int .i64 0)) fun v25 =>
        condW v25 (
          callW Try.prog 62 [(.pointer (some ⟨f, 0, none⟩)), .int .u8 c.toNat] h1 fun v28 h_4 =>
          optW (pNilCheck (.pointer (some ⟨f, 0, none⟩))) fun v30 => optW (pOff 14 v30) fun v31 => optW (rdRow false 1 v31 h_4) fun v32 => optW (pBin Try.prog .add 3 v32 (.int .i64 1)) fun v33 =>
          optW (pNilCheck (.pointer (some ⟨f, 0, none⟩))) fun v34 => optW (pOff 14 v34) fun v35 => optW (pStore 1 v35 v33 h_4) fun h3 => K (.tuple #[]) h3
        ) (
          callW Try.prog 63 [(.pointer (some ⟨f, 0, none⟩)), .int .u8 c.toNat] h1 fun v11 h_6 =>
          optW (pNilCheck (.pointer (some ⟨f, 0, none⟩))) fun v30 => optW (pOff 14 v30) fun v31 => optW (rdRow false 1 v31 h_6) fun v32 => optW (pBin Try.prog .add 3 v32 (.int .i64 1)) fun v33 =>
          optW (pNilCheck (.pointer (some ⟨f, 0, none⟩))) fun v34 => optW (pOff 14 v34) fun v35 => optW (pStore 1 v35 v33 h_6) fun h3 => K (.tuple #[]) h3)) := by
    intro h1 F1 st1 r1 t1 c1 hst
    unfold FeedM.step at kk
    rw [← hst] at kk
    dsimp only at kk
    have t2 : Fit (FeedM.step1 st1 c) (b + 1) := Fit.step1 t1
    have hrd : 0 ≤ (FeedM.step1 st1 c).read ∧ (FeedM.step1 st1 c).read + 1 < room40 := by have := t2.rd; omega
    unfold FeedM.step1 at kk hrd
    have r10 := r1
    obtain ⟨V, hr, bb⟩ := r1
    refine w_nilc (w_offP (w_rdP hr (v := .int .i64 st1.e) rfl (w_neq ?_)))
    refine c_dec (fun q1 => ?_) (fun q1 => ?_)
    · rw [if_pos q1] at kk hrd
      exact readtail r10 hrd fun h2 F2 r2 c2 => kk _ _ r2 (c1.trans c2)
    rw [if_neg q1] at kk hrd
    refine w_nilc (w_offP (w_offP (w_rdP hr (v := V.vs) rfl ?_)))
    refine w_len bb.s.sl (w_eql ?_)
    cases hs : st1.s with
    | nil =>
      rw [hs] at kk hrd
      refine c_tt (by simp) ?_
      refine first62 r10 (t1.mono (c := b + 1 + 1) (by omega)) fun h2 F2 r2 c2 => ?_
      exact readtail r2 hrd fun h3 F3 r3 c3 => kk _ _ r3 ((c1.trans c2).trans c3)
    | cons x s =>
      rw [hs] at kk hrd
      refine c_ff (by simp; omega) ?_
      refine more63 r10 (t1.mono (c := b + 1 + 2) (by omega)) (by rw [hs]; simp) fun h2 F2 r2 c2 => ?_
      exact readtail r2 hrd fun h3 F3 r3 c3 => kk _ _ r3 ((c1.trans c2).trans c3)
  cases hl : letter c with
  | true => exact c_f (main h F st r (ft.mono (by omega)) (Chg.refl _ _) (by rw [hl, if_pos rfl]))
  | false =>
    refine c_t ?_
    refine ended47 r ft fun h1 F1 r1 c1 => ?_
    exact main h1 F1 _ r1 ft.ended c1 (by rw [hl, if_neg (by decide)])

theorem Sl.same' {s : Nat} {h h' : AH} {v : Value} {n : Nat} {cs : List Value} (hv : Sl s h v n cs) (hh : ∀ j, onId v j → j < h.length → h'[j]? = h[j]?) : Sl s h' v n cs := by
  refine ⟨hv.1, ?_⟩
  rcases hv.2 with h1 | ⟨id, off, cap, rfl, h2, h3⟩
  · exact .inl h1
  · refine .inr ⟨id, off, cap, rfl, h2, ?_⟩
    rcases h3 with h3 | ⟨c, w, h3, h4⟩
    · exact .inl h3
    · exact .inr ⟨c, w, (hh id rfl (lt_of_get h3)).trans h3, h4⟩

theorem wrong_closed (st : FS) (e p : Int) : (FeedM.wrong st e p).closed = st.closed := by unfold FeedM.wrong; split <;> rfl
theorem closedBy_closed (st : FS) (k : Int) : (FeedM.closedBy st k).closed = st.closed := by unfold FeedM.closedBy; split <;> rfl
theorem sym_closed (st : FS) (n : List UInt8) (k : Int) : (FeedM.sym st n k).closed = st.closed := by
  unfold FeedM.sym
  split
  · rw [wrong_closed]
  split
  · rw [wrong_closed]
  dsimp only
  split
  · rfl
  split
  · rw [closedBy_closed]
  · rfl
theorem ended_closed (st : FS) : (FeedM.ended st).closed = st.closed := by
  unfold FeedM.ended
  split
  · rfl
  split
  · rw [sym_closed]
  · rfl
theorem step_closed (st : FS) (c : UInt8) : (FeedM.step st c).closed = st.closed := by
  have h1 : ∀ s : FS, (FeedM.step1 s c).closed = s.closed := by
    intro s
    unfold FeedM.step1
    split
    · rfl
    split
    · unfold FeedM.first
      split
      · rfl
      split
      · rfl
      · rw [wrong_closed]
    · unfold FeedM.more
      dsimp only
      split
      · rfl
      split
      · rw [sym_closed]
      · rw [wrong_closed]
  unfold FeedM.step
  dsimp only
  rw [h1]
  split
  · rfl
  · rw [ended_closed]

theorem write23 {h : AH} {f : Nat} {st : FS} {F : Nat → Prop} {v : Value} {bs : List UInt8} {b : Nat} {K : Value → AH → Prop} (r : FR h f st F) (ft : Fit st (5 * bs.length + b)) (hcl : st.closed = false)
    (hv : SlT 1 eB h v bs) (hn : ∀ j, onId v j → ¬ F j)
    (kk : ∀ h' F', FR h' f (FeedM.write st bs) F' → Chg F h F' h' → K (.tuple #[.int .i64 (FeedM.write st bs).place, .int .i64 (FeedM.write st bs).e]) h') :
    callW Try.prog 23 [.pointer (some ⟨f, 0, none⟩), v] h K := by
  have r0 := r
  obtain ⟨V, hr, bb⟩ := r
  have hsb := ft.sb
  unfold room40 at hsb
  refine c23 ?_
  unfold s23
  refine w_nilc (w_offP (w_rdP hr (v := .bool st.closed) rfl ?_))
  rw [hcl]
  refine c_f ?_
  refine w_len hv ?_
  refine loopE_intro (fun m e h' => ∃ (i : Nat) (st' : FS) (F' : Nat → Prop), i ≤ bs.length ∧ m = bs.length - i ∧ e 0 = .pointer (some ⟨f, 0, none⟩) ∧ e 12 = v ∧ e 13 = .int .i64 bs.length ∧ e 14 = .int .i64 i ∧
    FR h' f st' F' ∧ Chg F h F' h' ∧ Fit st' (5 * (bs.length - i) + b) ∧ FeedM.write st bs = FeedM.write st' (bs.drop i)) bs.length
    ⟨0, st, F, Nat.zero_le _, rfl, rfl, rfl, rfl, rfl, r0, Chg.refl _ _, ft, rfl⟩ ?_
  rintro I m e h' ⟨i, st', F', hi, hm, e0, e12, e13, e14, r', c', t', hw⟩ hI
  rw [e0, e12, e13, e14]
  have hv' : SlT 1 eB h' v bs := Sl.same' hv fun j hj hjl => c'.get j hjl (hn j hj)
  have r'0 := r'
  obtain ⟨V', hr', b'⟩ := r'
  refine w_lss ?_
  refine c_dec (fun q => ?_) (fun q => ?_)
  · obtain ⟨c, hc⟩ := getElem?_of_lt (l := bs) (i := i) (by omega)
    have hd : bs.drop i = c :: bs.drop (i + 1) := by
      rw [List.drop_eq_getElem_cons (by omega)]
      congr 1
      exact (List.getElem?_eq_some_iff.1 hc).2
    rw [hd] at hw
    refine w_idxN eB_len hv' hc fun p hp => ?_
    refine w_rd1 hp rfl ?_
    refine w_nilc (w_offP (w_rdP hr' (v := .int .i64 st'.e) rfl (w_neq ?_)))
    refine c_dec (fun q1 => ?_) (fun q1 => ?_)
    · have hw2 : FeedM.write st bs = st' := by rw [hw]; unfold FeedM.write; rw [if_pos q1]
      rw [hw2] at kk
      refine w_nilc (w_offP (w_rdP hr' (v := .int .i64 st'.place) rfl ?_))
      refine w_nilc (w_offP (w_rdP hr' (v := .int .i64 st'.e) rfl ?_))
      exact kk _ _ r'0 c'
    · refine step46 r'0 (t'.mono (c := (5 * (bs.length - (i + 1)) + b) + 5) (by omega)) fun h2 F2 r2 c2 => ?_
      refine w_add (by omega) (by omega) ?_
      refine hI (m - 1) _ _ (by omega) ⟨i + 1, FeedM.step st' c, F2, by omega, by omega, e0, e12, e13, rfl, r2, c'.trans c2, (t'.mono (c := (5 * (bs.length - (i + 1)) + b) + 5) (by omega)).step, ?_⟩
      rw [hw]
      conv => lhs; unfold FeedM.write
      rw [if_neg q1]
  · have hw2 : FeedM.write st bs = st' := by rw [hw, List.drop_of_length_le (by omega)]; rfl
    rw [hw2] at kk
    refine w_nilc (w_offP (w_rdP hr' (v := .int .i64 st'.place) rfl ?_))
    refine w_nilc (w_offP (w_rdP hr' (v := .int .i64 st'.e) rfl ?_))
    exact kk _ _ r'0 c'

theorem write23c {h : AH} {f : Nat} {st : FS} {F : Nat → Prop} {v : Value} {K : Value → AH → Prop} (r : FR h f st F) (hcl : st.closed = true)
    (kk : K (.tuple #[.int .i64 0, .int .i64 14]) h) : callW Try.prog 23 [.pointer (some ⟨f, 0, none⟩), v] h K := by
  obtain ⟨V, hr, bb⟩ := r
  refine c23 ?_
  unfold s23
  refine w_nilc (w_offP (w_rdP hr (v := .bool st.closed) rfl ?_))
  rw [hcl]
  exact c_t kk
end Go.Proofs.Ytebbjimmgblcpaa.W
