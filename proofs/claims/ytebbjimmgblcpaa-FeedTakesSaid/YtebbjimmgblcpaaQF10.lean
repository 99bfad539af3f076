/- A token that is whole: the walk. Conditions: none. -/
import Derived.Test.YtebbjimmgblcpaaQF9
import Derived.Test.YtebbjimmgblcpaaQA2
namespace Go.Proofs.Ytebbjimmgblcpaa.W
open Go Go.AM FeedM
set_option linter.unusedVariables false
set_option maxRecDepth 100000

/-- where a machine can be at all. -/
def Uof (m : Mach) : List Int := m.init ++ (m.opens.map (·.2.2.1) ++ (m.inners.map (·.2.2) ++ m.closes.map (·.2.2.2)))
def LvIn (U : List Int) (R : Row) : Prop := ∀ p, R p → p.2 ∈ U

/-- all is small: so much more may come. -/
structure Fit (st : FS) (b : Nat) : Prop where
  u : (Uof st.m).length + 2 < room40
  fin : st.m.final.length < room40
  l : st.l.length < room40
  now : LvIn (Uof st.m) st.now.row
  und : ∀ v ∈ st.under, LvIn (Uof st.m) v.row
  ub : st.under.length + b < room40
  sb : st.s.length + b < room40
  wb : st.word.length + b < room40
  rd : 0 ≤ st.read ∧ st.read + b < room40

theorem Fit.opens {st : FS} {b : Nat} (t : Fit st b) : st.m.opens.length < room40 := by have := t.u; simp only [Uof, List.length_append, List.length_map] at this; omega
theorem Fit.inners {st : FS} {b : Nat} (t : Fit st b) : st.m.inners.length < room40 := by have := t.u; simp only [Uof, List.length_append, List.length_map] at this; omega
theorem Fit.closes {st : FS} {b : Nat} (t : Fit st b) : st.m.closes.length < room40 := by have := t.u; simp only [Uof, List.length_append, List.length_map] at this; omega
theorem Fit.mono {st : FS} {b c : Nat} (t : Fit st b) (h : c ≤ b) : Fit st c := ⟨t.u, t.fin, t.l, t.now, t.und, by have := t.ub; omega, by have := t.sb; omega, by have := t.wb; omega, by have := t.rd; omega⟩

theorem in_open {m : Mach} {R : Row} {k : Int} : LvIn (Uof m) (openRow m R k) := by
  rintro q ⟨h1, p, hp, o, ho, h2, h3, h4⟩
  simp only [Uof, List.mem_append, List.mem_map]
  exact .inr (.inl ⟨o, ho, by rw [h4, h1]⟩)
theorem in_inner {m : Mach} {R : Row} {k : Int} : LvIn (Uof m) (innerRow m R k) := by
  rintro q ⟨b, hp, o, ho, h2, h3, h4⟩
  simp only [Uof, List.mem_append, List.mem_map]
  exact .inr (.inr (.inl ⟨o, ho, h4⟩))
theorem in_low {m : Mach} {R : Row} {k : Int} : LvIn (Uof m) (lowRow m R k) := by
  rintro q ⟨b, hp, o, ho, h2, h3, h4, h5⟩
  simp only [Uof, List.mem_append, List.mem_map]
  exact .inr (.inr (.inr ⟨o, ho, h5⟩))
theorem in_close {m : Mach} {R S : Row} {y k : Int} : LvIn (Uof m) (closeRow m R S y k) := by
  rintro q ⟨b, hp, o, ho, h2, h3, c, hc, h4, h5, h6, h7⟩
  simp only [Uof, List.mem_append, List.mem_map]
  exact .inr (.inr (.inr ⟨c, hc, h7⟩))
theorem in_begin {m : Mach} : LvIn (Uof m) (FeedM.begin m).row := by
  rintro q ⟨h1, h2⟩
  simp only [Uof, List.mem_append]
  exact .inl (h1 ▸ h2)

theorem Fit.opened {st : FS} {b : Nat} {k : Int} (t : Fit st (b + 1)) : Fit (FeedM.opened st k) b :=
  ⟨t.u, t.fin, t.l, in_open, fun v hv => by
    rcases List.mem_append.1 hv with h | h
    · exact t.und v h
    · rw [List.mem_singleton.1 h]; exact t.now, by have := t.ub; simp only [FeedM.opened, List.length_append, List.length_singleton]; omega, (t.mono (Nat.le_succ b)).sb, (t.mono (Nat.le_succ b)).wb, (t.mono (Nat.le_succ b)).rd⟩
theorem Fit.innered {st : FS} {b : Nat} {k : Int} (t : Fit st b) : Fit (FeedM.innered st k) b := ⟨t.u, t.fin, t.l, in_inner, t.und, t.ub, t.sb, t.wb, t.rd⟩
theorem Fit.closedBy {st : FS} {b : Nat} {k : Int} (t : Fit st b) : Fit (FeedM.closedBy st k) b := by
  unfold FeedM.closedBy
  split
  · exact ⟨t.u, t.fin, t.l, in_low, t.und, t.ub, t.sb, t.wb, t.rd⟩
  · rename_i u hu
    exact ⟨t.u, t.fin, t.l, in_close, fun v hv => t.und v (List.dropLast_subset _ hv), by have := t.ub; simp only [List.length_dropLast]; omega, t.sb, t.wb, t.rd⟩
theorem Fit.wrong {st : FS} {b : Nat} {e p : Int} (t : Fit st b) : Fit (FeedM.wrong st e p) b := by
  unfold FeedM.wrong
  split
  · exact ⟨t.u, t.fin, t.l, t.now, t.und, t.ub, t.sb, t.wb, t.rd⟩
  · exact t
theorem Fit.cut {st : FS} {b : Nat} (t : Fit st b) : Fit { st with s := [] } b := ⟨t.u, t.fin, t.l, t.now, t.und, t.ub, by have := t.ub; simp only [List.length_nil]; omega, t.wb, t.rd⟩
theorem Fit.addw {st : FS} {b : Nat} {k : Int} (t : Fit st (b + 1)) : Fit { st with word := st.word ++ [k] } b :=
  ⟨t.u, t.fin, t.l, t.now, t.und, (t.mono (Nat.le_succ b)).ub, (t.mono (Nat.le_succ b)).sb, by have := t.wb; simp only [List.length_append, List.length_singleton]; omega, (t.mono (Nat.le_succ b)).rd⟩
theorem Fit.adds {st : FS} {b : Nat} {c : UInt8} {a : Int} (t : Fit st (b + 1)) : Fit { st with s := st.s ++ [c], at_ := a } b :=
  ⟨t.u, t.fin, t.l, t.now, t.und, (t.mono (Nat.le_succ b)).ub, by have := t.sb; simp only [List.length_append, List.length_singleton]; omega, (t.mono (Nat.le_succ b)).wb, (t.mono (Nat.le_succ b)).rd⟩

theorem Fit.sym {st : FS} {b : Nat} {n : List UInt8} {k : Int} (t : Fit st (b + 2)) : Fit (FeedM.sym st n k) b := by
  have t0 : Fit { st with s := [] } (b + 2) := t.cut
  unfold FeedM.sym
  split
  · exact (t0.mono (by omega)).wrong
  split
  · exact (t0.mono (by omega)).wrong
  dsimp only
  refine Fit.addw ?_
  split
  · exact t0.opened
  split
  · exact (t0.mono (by omega)).closedBy
  · exact (t0.mono (by omega)).innered

theorem sym64 {h : AH} {f : Nat} {st : FS} {F : Nat → Prop} {name : List UInt8} {kind : Int} {b : Nat} {K : Value → AH → Prop} (r : FR h f st F) (ft : Fit st (b + 2))
    (kk : ∀ h' F', FR h' f (FeedM.sym st name kind) F' → Chg F h F' h' → K (.tuple #[]) h') : callW Try.prog 64 [.pointer (some ⟨f, 0, none⟩), .string (bs name), .int .i64 kind] h K := by
  have r0 := r
  obtain ⟨V, hr, b⟩ := r
  have hul := lvs_length b.lvs
  refine c64 ?_
  unfold s64
  refine w_nilc (w_offP (w_rdP hr (v := V.vl) rfl ?_))
  refine w_some rfl ?_
  refine index69 (x := (name, kind)) b.l ft.l fun h1 x1 => ?_
  have b1 := b.ex x1
  have hr1 := x1.some hr
  have hlt := lt_of_get hr1
  refine w_nilc (w_offP (w_offP (w_rdP hr1 (v := .int .i64 st.at_) rfl ?_)))
  refine w_nilc (w_offP (w_offP (w_rdP hr1 (v := V.vs) rfl ?_)))
  refine cut_g (m := 0) b1.s (Nat.zero_le _) fun v' ov hid => ?_
  refine w_nilc (w_offP (w_offP ?_))
  obtain ⟨va, vcap, rfl⟩ := ov.sl.shape
  refine w_stP hr1 (by simp [rowOf]) rfl rfl ?_
  have r2 : FR (h1.set f (.row ((rowOf V st).set (0 + 10 + 0) (.slice va 0 vcap)) true)) f { st with s := [] } F :=
    ⟨_, by rw [get_set _ hlt]; rfl, (newtok (s' := []) (a' := st.at_) (F' := F) b1 (Nat.le_refl _) (fun _ _ _ => rfl) (by simpa [flat] using ov) (fun j hj => .inl (hid j hj)) (fun _ h => h) b1.lt).setf _⟩
  have c2 : Chg F h F (h1.set f (.row ((rowOf V st).set (0 + 10 + 0) (.slice va 0 vcap)) true)) := (Chg.ex x1).trans (Chg.setf b.ff _)
  generalize h1.set f (.row ((rowOf V st).set (0 + 10 + 0) (.slice va 0 vcap)) true) = h2 at *
  have t2 := ft.cut
  unfold FeedM.sym at kk
  refine w_lss ?_
  refine c_dec (fun hc => ?_) (fun hc => ?_)
  · rw [if_pos hc] at kk
    exact wrong48 r2 fun h3 r3 c3 => kk _ _ r3 (c2.trans c3)
  rw [if_neg hc] at kk
  refine w_eql ?_
  by_cases hk : kind = 1
  · refine gd_tt hk ?_
    refine gd_tt hk (w_nilc ?_)
    refine gd_tt hk (w_offP ?_)
    refine gd_tt hk (w_offP ?_)
    obtain ⟨V2, hr2, b2⟩ := r2
    refine gd_tt hk (hist_nil (w_rdP hr2 (v := V2.vu) rfl ?_))
    refine gd_tt hk (w_len b2.under.sl ?_)
    refine gd_tt hk ?_
    refine gd_tt hk (w_nilc ?_)
    refine gd_tt hk (w_offP ?_)
    refine gd_tt hk (hist_nil (w_rdP hr2 (v := .int .i64 st.deep) rfl ?_))
    refine gd_tt hk (w_geq ?_)
    refine pk_tt hk ?_
    have hul2 : V2.ul.length = st.under.length := lvs_length b2.lvs
    have r2 : FR h2 f { st with s := [] } F := ⟨V2, hr2, b2⟩
    refine c_dec (fun hd => ?_) (fun hd => ?_)
    · rw [if_pos ⟨hk, by rw [← hul2]; exact hd⟩] at kk
      exact wrong48 r2 fun h3 r3 c3 => kk _ _ r3 (c2.trans c3)
    rw [if_neg (fun h => hd (by rw [hul2]; exact h.2))] at kk
    dsimp only at kk
    refine w_eql ?_
    refine c_tt hk ?_
    refine w_nilc (w_offP ?_)
    rw [if_pos hk] at kk
    refine open70 r2 t2.opens (t2.mono (c := 1) (by omega)).ub fun h3 F3 r3 c3 => ?_
    refine wordtail r3 ((t2.opened (k := idxOf (name, kind) st.l)).mono (c := 1) (by omega)).wb fun h4 F4 r4 c4 => ?_
    exact kk _ _ r4 ((c2.trans c3).trans c4)
  · refine gd_tf hk ?_
    refine gd_tf hk ?_
    refine gd_tf hk ?_
    refine gd_tf hk ?_
    refine gd_tf hk ?_
    refine gd_tf hk ?_
    refine gd_tf hk ?_
    refine gd_tf hk ?_
    refine gd_tf hk ?_
    refine gd_tf hk ?_
    refine gd_tf hk ?_
    refine pk_ff hk (c_f ?_)
    rw [if_neg (fun h => hk h.1)] at kk
    dsimp only at kk
    refine w_eql ?_
    refine c_ff hk ?_
    rw [if_neg hk] at kk
    refine w_eql ?_
    refine c_dec (fun h2k => ?_) (fun h2k => ?_)
    · rw [if_pos h2k] at kk
      refine w_nilc (w_offP ?_)
      refine close71 r2 t2.opens t2.closes (by have := t2.ub; omega) t2.now t2.u fun h3 F3 r3 c3 => ?_
      refine wordtail r3 ((t2.closedBy (k := idxOf (name, kind) st.l)).mono (c := 1) (by omega)).wb fun h4 F4 r4 c4 => ?_
      exact kk _ _ r4 ((c2.trans c3).trans c4)
    · rw [if_neg h2k] at kk
      refine w_nilc (w_offP ?_)
      refine inner72 r2 t2.inners fun h3 F3 r3 c3 => ?_
      refine wordtail r3 ((t2.innered (k := idxOf (name, kind) st.l)).mono (c := 1) (by omega)).wb fun h4 F4 r4 c4 => ?_
      exact kk _ _ r4 ((c2.trans c3).trans c4)

theorem ended47 {h : AH} {f : Nat} {st : FS} {F : Nat → Prop} {b : Nat} {K : Value → AH → Prop} (r : FR h f st F) (ft : Fit st (b + 2))
    (kk : ∀ h' F', FR h' f (FeedM.ended st) F' → Chg F h F' h' → K (.tuple #[]) h') : callW Try.prog 47 [.pointer (some ⟨f, 0, none⟩)] h K := by
  have r0 := r
  obtain ⟨V, hr, b⟩ := r
  refine c47 ?_
  unfold s47
  refine w_nilc (w_offP (w_offP (w_rdP hr (v := V.vs) rfl ?_)))
  refine w_len b.s.sl ?_
  refine w_gtr ?_
  unfold FeedM.ended at kk
  cases hs : st.s with
  | nil =>
    rw [hs] at kk
    have hn : ¬ (0 : Int) < (([] : List UInt8).length : Nat) := by simp
    refine g_tf hn (g_tf hn (g_tf hn (g_tf hn (g_tf hn (g_tf hn (g_tf hn (g_tf hn ?_)))))))
    refine pk_ff hn (c_f ?_)
    exact kk _ _ r0 (Chg.refl _ _)
  | cons c s =>
    rw [hs] at kk
    have hn : (0 : Int) < ((c :: s).length : Nat) := by simp only [List.length_cons]; omega
    refine g_tt hn (g_tt hn (w_nilc (g_tt hn (w_offP (g_tt hn (w_offP (g_tt hn (w_rdP hr (v := V.vs) rfl (g_tt hn ?_)))))))))
    refine w_idxN (enc := eB) (i := 0) eB_len b.s.sl (by rw [hs]; rfl) fun p hp => ?_
    refine g_tt hn (w_rd1 hp rfl ?_)
    refine g_tt hn ?_
    refine letter61 ?_
    refine pk_tt hn ?_
    refine c_b (fun hc => ?_) (fun hc => ?_)
    · refine w_nilc (w_offP (w_offP (w_rdP hr (v := V.vs) rfl ?_)))
      dsimp only at kk
      rw [if_pos hc, ← hs] at kk
      refine w_bstr b.s.sl (by rw [hs]; simp) ?_
      refine sym64 r0 ft fun h1 F1 r1 c1 => ?_
      exact kk _ _ r1 c1
    · dsimp only at kk
      rw [hc] at kk
      exact kk _ _ r0 (Chg.refl _ _)
end Go.Proofs.Ytebbjimmgblcpaa.W
