/- What the document's chapters 1, 3, 4 ask of a machine: walks of Deep, state, kind, Check, inside. Conditions: none. -/
import Derived.Test.YtebbjimmgblcpaaQF32
import Derived.Test.YtebbjimmgblcpaaQS3
namespace Go.Proofs.Ytebbjimmgblcpaa.W
open Go Go.AM FeedM
set_option linter.unusedVariables false
set_option maxRecDepth 100000

/-- a slice of the call's own, or an empty one. -/
def QS (s b : Nat) (h : AH) (v : Value) (n : Nat) (cs : List Value) : Prop := OwnSl s b h v n cs ∨ ∃ i, b ≤ i ∧ i < h.length ∧ v = .slice (some ⟨i, 0, none⟩) 0 0 ∧ n = 0 ∧ cs = []
theorem QS.sl {s b : Nat} {h : AH} {v : Value} {n : Nat} {cs : List Value} (q : QS s b h v n cs) : Sl s h v n cs := by
  rcases q with q | ⟨i, hb, hi, rfl, rfl, rfl⟩
  · exact q.sl
  · exact ⟨by simp, .inr ⟨i, 0, 0, rfl, .inl ⟨by decide, Nat.le_refl _⟩, .inl rfl⟩⟩
theorem QS.ex {s b : Nat} {h h' : AH} {v : Value} {n : Nat} {cs : List Value} (q : QS s b h v n cs) (x : Ex h h') : QS s b h' v n cs := by
  rcases q with q | ⟨i, hb, hi, e⟩
  · exact .inl (q.ex x)
  · exact .inr ⟨i, hb, x.lt hi, e⟩
theorem QS.low {s b : Nat} {h : AH} {v : Value} {n : Nat} {cs : List Value} (q : QS s b h v n cs) {j : Nat} (hj : onId v j) : b ≤ j := by
  rcases q with (⟨rfl, _⟩ | ⟨id, hb, rfl, _⟩) | ⟨i, hb, hi, rfl, _⟩
  · exact hj.elim
  · have : id = j := hj
    omega
  · have : i = j := hj
    omega

theorem app_q {s b : Nat} {h : AH} {v x : Value} {n m : Nat} {cs news : List Value} {K : Value → AH → Prop} (hs : 0 < s) (hq : QS s b h v n cs) (hx : srcL s x h = some (m, news)) (hm : news.length = m * s) (hn : n + m < room40) (hb : b ≤ h.length)
    (k : ∀ v' h', QS s b h' v' (n + m) (cs ++ news) → h.length ≤ h'.length → (∀ j, j < h.length → ¬ onId v j → h'[j]? = h[j]?) → K v' h') : appS s v x h K := by
  rcases hq with hq | ⟨i, hbi, hi, rfl, rfl, rfl⟩
  · exact app_own hs hq hx hm hn hb fun v' h' o1 o2 o3 o4 => k v' h' (.inl o1) o2 o3
  · refine .inl ?_
    by_cases m0 : m = 0
    · subst m0
      have hnews : news = [] := List.eq_nil_of_length_eq_zero (by omega)
      subst hnews
      have : pAppS s (.slice (some ⟨i, 0, none⟩) 0 0) x h = some (.slice (some ⟨i, 0, none⟩) 0 0, h) := by
        unfold pAppS
        simp only [hx]
        rw [if_pos hn, if_pos (by decide)]
        simp [pAppEx, stAt]
      rw [this]
      exact k _ _ (.inr ⟨i, hbi, hi, rfl, rfl, rfl⟩) (Nat.le_refl _) (fun _ _ _ => rfl)
    · have : pAppS s (.slice (some ⟨i, 0, none⟩) 0 0) x h = some (.slice (some ⟨h.length, 0, none⟩) (0 + m) (openCap + s), h ++ [.row ([] ++ news) true]) := by
        unfold pAppS
        simp only [hx]
        rw [if_pos hn, if_pos (by decide)]
        simp only [pAppEx]
        rw [if_neg (by omega)]
        simp [firstL]
      rw [this]
      exact k _ _ (.inl (.inr ⟨h.length, hb, rfl, get_new _ _, by simp [hm]⟩)) (by simp) (fun j hj _ => List.getElem?_append_left hj)

/-- a machine's row -/
structure MB (h : AH) (p : Nat) (m : Mach) (vi vf vo vc vn : Value) : Prop where
  row : h[p]? = some (.row (mcells m.n m.g vi vf vo vc vn) true)
  i : Ints h vi m.init
  f : Ints h vf m.final
  o : SlT 4 e4 h vo m.opens
  c : SlT 4 e4 h vc m.closes
  n : SlT 3 e3 h vn m.inners
theorem MB.ex {h h' : AH} {p : Nat} {m : Mach} {vi vf vo vc vn : Value} (b : MB h p m vi vf vo vc vn) (x : Ex h h') : MB h' p m vi vf vo vc vn :=
  ⟨x.some b.row, b.i.ex x, b.f.ex x, b.o.ex x, b.c.ex x, b.n.ex x⟩
theorem MB.rd {h : AH} {p : Nat} {m : Mach} {vi vf vo vc vn : Value} {K : Value → Prop} (b : MB h p m vi vf vo vc vn) (k : ∀ v, MV h v m → K v) : optW (rdRow true 7 (.pointer (some ⟨p, 0, none⟩)) h) K :=
  w_rdPA b.row (Nat.le_refl 7) (k _ ⟨vi, vf, vo, vc, vn, rfl, b.i, b.f, b.o, b.c, b.n⟩)
theorem boxM {h : AH} {vm : Value} {m : Mach} {K : Value → AH → Prop} (mv : MV h vm m) (k : ∀ h' vi vf vo vc vn, Ex h h' → h'.length = h.length + 1 → MB h' h.length m vi vf vo vc vn → K (.pointer (some ⟨h.length, 0, none⟩)) h') : aBox vm none h K := by
  obtain ⟨vi, vf, vo, vc, vn, rfl, p1, p2, p3, p4, p5⟩ := mv
  obtain ⟨a1, n1, c1, rfl⟩ := Sl.isSl p1
  obtain ⟨a2, n2, c2, rfl⟩ := Sl.isSl p2
  obtain ⟨a3, n3, c3, rfl⟩ := Sl.isSl p3
  obtain ⟨a4, n4, c4, rfl⟩ := Sl.isSl p4
  obtain ⟨a5, n5, c5, rfl⟩ := Sl.isSl p5
  refine n_boxv rfl fun h1 x1 l1 g1 => ?_
  exact k h1 _ _ _ _ _ x1 l1 ⟨g1, p1.ex x1, p2.ex x1, p3.ex x1, p4.ex x1, p5.ex x1⟩

theorem state50 {h : AH} {vm : Value} {m : Mach} {p : Int} {K : Value → AH → Prop} (mv : MV h vm m) (hp : 0 ≤ p ∧ p < m.n) (k : ∀ h', Ex h h' → K (.bool true) h') : callW Try.prog 50 [vm, .int .i64 p] h K := by
  refine c50 ?_
  unfold s50
  refine boxM mv fun h1 vi vf vo vc vn x1 l1 b1 => ?_
  refine w_geq (g_tt hp.1 (g_tt hp.1 (w_offP (g_tt hp.1 (w_rdP b1.row (v := .int .i64 m.n) rfl (g_tt hp.1 (w_lss (pk_tt hp.1 ?_))))))))
  rw [decide_eq_true hp.2]
  exact k h1 x1

theorem kind51 {h : AH} {v0 : Value} {l : List Sy} {s kd : Int} {K : Value → AH → Prop} (hl : Syms h v0 l) (hs : SymOK l s kd) (k : K (.bool true) h) : callW Try.prog 51 [v0, .int .i64 s, .int .i64 kd] h K := by
  obtain ⟨s0, s1, s2⟩ := hs
  obtain ⟨x, hx⟩ := getElem?_of_lt (l := l) (i := s.toNat) (by omega)
  refine c51 ?_
  unfold s51
  refine w_geq (g_tt s0 (g_tt s0 (g_tt s0 (w_len hl (g_tt s0 (w_lss (pk_tt s0 ?_)))))))
  refine g_tt s1 (g_tt s1 (g_tt s1 ?_))
  refine w_idxT (enc := eSy) eSy_len hl s0 hx fun p hp => ?_
  refine g_tt s1 (w_off hp (by simp [eSy_len]) fun p hp => ?_)
  refine g_tt s1 (w_rd1 hp rfl (g_tt s1 (g_tt s1 (w_eql (pk_tt s1 ?_)))))
  unfold kindAt at s2
  rw [hx] at s2
  rw [decide_eq_true s2]
  exact k

theorem idrow {a b : AH} {i off : Nat} {o : AObj} (h1 : a[i]? = some o) (h2 : b[i]? = some o) : ∀ z ∈ idOf (.pointer (some ⟨i, off, none⟩)), a[z]? = b[z]? := by
  intro z hz
  have : z = i := List.mem_singleton.1 hz
  rw [this, h1, h2]

/-- the first and the last states, in one slice. -/
theorem copyIF {h : AH} {p : Nat} {m : Mach} {vi vf vo vc vn : Value} {K : List Value → Nat → Value → Value → Value → Value → Value → Value → AH → Prop} (b : MB h p m vi vf vo vc vn) (hn : m.init.length + m.final.length < room40)
    (k : ∀ h' v, Ex h h' → QS 1 h.length h' v (m.init ++ m.final).length (flat eI (m.init ++ m.final)) → ∀ a1 a2 a3 a4 a5 a6 a7, K a1 a2 a3 a4 a5 a6 a7 v h') :
    optW (bldSl 1 [(.int .i64 0)] 0 []) fun c =>
    newW (some (h.length)) (.row c true) (reserve 1 h) fun i h_23 =>
    optW (pOff 2 (.pointer (some ⟨p, 0, none⟩))) fun v46 =>
    (∀ x ∈ (idOf v46), ((reserve 1 h) : AH)[x]? = (h_23 : AH)[x]?) ∧
    optW (rdRow false 1 v46 h_23) fun v47 =>
    appSl 1 (.slice (some ⟨i, 0, none⟩) 0 0) v47 h_23 fun v48 h_24 =>
    optW (pOff 3 (.pointer (some ⟨p, 0, none⟩))) fun v49 =>
    (∀ x ∈ (idOf v49), (h_23 : AH)[x]? = (h_24 : AH)[x]?) ∧
    (∀ x ∈ (idOf v49), ((reserve 1 h) : AH)[x]? = (h_23 : AH)[x]?) ∧
    optW (rdRow false 1 v49 h_24) fun v50 =>
    appSl 1 v48 v50 h_24 fun v51 h_25 => K c i v46 v47 v48 v49 v50 v51 h_25 := by
  have hp := lt_of_get b.row
  refine w_some (v := []) rfl ?_
  refine n_slot ?_
  have x0 := Ex.res h
  have b0 := b.ex x0
  have x1 : Ex h ((reserve 1 h).set h.length (.row [] true)) := x0.set (Nat.le_refl _) _
  have l1 : ((reserve 1 h).set h.length (.row [] true)).length = h.length + 1 := by rw [reserve_set]; simp
  have b1 := b.ex x1
  generalize (reserve 1 h).set h.length (.row [] true) = h1 at *
  refine w_offP ⟨idrow b0.row b1.row, ?_⟩
  refine w_rdP b1.row (v := vi) rfl ?_
  refine appSl_sl b1.i (app_q (b := h.length) (by decide) (.inr ⟨h.length, Nat.le_refl _, by omega, rfl, rfl, rfl⟩) (srcL_sl (by decide) b1.i) b1.i.1 (by omega) (by omega) fun v2 h2 q2 l2 k2 => ?_)
  have keep2 : ∀ j, j < h.length → h2[j]? = h[j]? := fun j hj => (k2 j (by omega) (fun hh => by have : h.length = j := hh; omega)).trans (x1.get j hj)
  have x2 : Ex h h2 := ⟨by omega, keep2⟩
  have b2 := b.ex x2
  refine w_offP ⟨idrow b1.row b2.row, idrow b0.row b1.row, ?_⟩
  refine w_rdP b2.row (v := vf) rfl ?_
  refine appSl_sl b2.f (app_q (by decide) q2 (srcL_sl (by decide) b2.f) b2.f.1 (by omega) (by omega) fun v3 h3 q3 l3 k3 => ?_)
  have x3 : Ex h h3 := ⟨by omega, fun j hj => (k3 j (by omega) (fun hh => by have := q2.low hh; omega)).trans (x2.get j hj)⟩
  refine k h3 v3 x3 ?_ _ _ _ _ _ _ _
  rw [flat_append, List.length_append]
  have e : ([] : List Value) ++ flat eI m.init ++ flat eI m.final = flat eI m.init ++ flat eI m.final := by rw [List.nil_append]
  have e2 : 0 + m.init.length + m.final.length = m.init.length + m.final.length := by omega
  rw [← e, ← e2]
  exact q3

def z4 : List Value := [(.int .i64 0), (.int .i64 0), (.int .i64 0), (.int .i64 0)]
theorem copy4 {h : AH} {o : Int × Int × Int × Int} {K : Value → AH → AH → Prop} (k : ∀ h1 h', Ex h h' → h'[h.length]? = some (.row (e4 o) true) → K (.pointer (some ⟨h.length, 0, none⟩)) h1 h') :
    newR none z4 h fun v8 h_29 => optW (pStore 4 v8 (.agg (e4 o).toArray) h_29) fun h_30 => K v8 h_29 h_30 := by
  refine n_rowv fun h1 x1 l1 g1 => ?_
  refine w_stPA g1 rfl (Nat.le_refl 4) rfl ?_
  exact k _ _ (x1.set (Nat.le_refl _) _) (get_set _ (lt_of_get g1) _)
def z3 : List Value := [(.int .i64 0), (.int .i64 0), (.int .i64 0)]
theorem copy3 {h : AH} {o : Int × Int × Int} {K : Value → AH → AH → Prop} (k : ∀ h1 h', Ex h h' → h'[h.length]? = some (.row (e3 o) true) → K (.pointer (some ⟨h.length, 0, none⟩)) h1 h') :
    newR none z3 h fun v8 h_29 => optW (pStore 3 v8 (.agg (e3 o).toArray) h_29) fun h_30 => K v8 h_29 h_30 := by
  refine n_rowv fun h1 x1 l1 g1 => ?_
  refine w_stPA g1 rfl (Nat.le_refl 3) rfl ?_
  exact k _ _ (x1.set (Nat.le_refl _) _) (get_set _ (lt_of_get g1) _)

theorem maxO_step (l : List Sy) (mx op : Nat) : True := trivial
/-- how deep a word is. -/
def mxs (l : List Sy) (w : List Int) : Nat × Nat := w.foldl (fun p k => (max p.1 (ostep l p.2 k), ostep l p.2 k)) (0, 0)
theorem mxs_snoc (l : List Sy) (w : List Int) (k : Int) : mxs l (w ++ [k]) = (max (mxs l w).1 (ostep l (mxs l w).2 k), ostep l (mxs l w).2 k) := by simp [mxs]
theorem mxs_opn (l : List Sy) : ∀ w, (mxs l w).2 = opn l w := snoc_ind rfl fun w k ih => by rw [mxs_snoc, opn_snoc, ih]
theorem mxs_low (l : List Sy) (d : Int) (hd : 0 ≤ d) : ∀ w, Low l d w ↔ ((mxs l w).1 : Int) ≤ d := by
  refine snoc_ind ?_ ?_
  · exact ⟨fun _ => hd, fun _ n => by rw [List.take_nil]; exact hd⟩
  · intro w k ih
    rw [mxs_snoc, mxs_opn]
    constructor
    · intro h
      have h1 := ih.1 h.init
      have h2 := h.last
      rw [opn_snoc] at h2
      show ((max (mxs l w).1 (ostep l (opn l w) k) : Nat) : Int) ≤ d
      omega
    · intro h n
      have h : ((max (mxs l w).1 (ostep l (opn l w) k) : Nat) : Int) ≤ d := h
      by_cases q : n ≤ w.length
      · rw [List.take_append_of_le_length q]
        exact ih.2 (by omega) n
      · rw [List.take_of_length_le (by simp; omega), opn_snoc]
        omega
theorem mxs_le (l : List Sy) : ∀ w, (mxs l w).1 ≤ w.length := by
  refine snoc_ind (Nat.le_refl _) ?_
  intro w k ih
  rw [mxs_snoc, mxs_opn, List.length_append, List.length_singleton]
  have := opn_le l w
  show max (mxs l w).1 (ostep l (opn l w) k) ≤ w.length + 1
  have : ostep l (opn l w) k ≤ opn l w + 1 := by
    unfold ostep
    split
    · omega
    split <;> omega
  omega

theorem w_max' {a b : Int} {c : Int} (hc : c = max a b) {K : Value → Prop} (k : K (.int .i64 c)) : optW (pMax2 true (.int .i64 a) (.int .i64 b)) K := by
  subst hc
  refine w_some (v := .int .i64 (max a b)) ?_ k
  unfold pMax2
  simp only [Int.max_def]
  split <;> split <;> simp_all <;> omega

theorem deep26 {h : AH} {v0 v1 : Value} {l : List Sy} {w : List Int} {K : Value → AH → Prop} (hl : Syms h v0 l) (hw : Ints h v1 w) (hin : ∀ k ∈ w, 0 ≤ k ∧ k < (l.length : Nat)) (hn : w.length ≤ 10000)
    (k : K (.int .i64 ((mxs l w).1 : Nat)) h) : callW Try.prog 26 [v0, v1] h K := by
  refine c26 ?_
  unfold s26
  refine loopE_intro (fun m e h' => ∃ i : Nat, i ≤ w.length ∧ m = w.length - i ∧ e 0 = v0 ∧ e 1 = v1 ∧ e 5 = .int .i64 ((mxs l (w.take i)).1 : Nat) ∧ e 6 = .int .i64 ((mxs l (w.take i)).2 : Nat) ∧ e 7 = .int .i64 i ∧ h' = h) w.length
    ⟨0, Nat.zero_le _, rfl, rfl, rfl, rfl, rfl, rfl, rfl⟩ ?_
  rintro I m e h' ⟨i, hi, hm, e0, e1, e5, e6, e7, rfl⟩ hI
  rw [e0, e1, e5, e6, e7]
  refine w_len hw (w_lss (c_dec (fun q => ?_) (fun q => ?_)))
  · obtain ⟨z, hz⟩ := getElem?_of_lt (l := w) (i := i) (by omega)
    obtain ⟨z0, z1⟩ := hin z (List.mem_of_getElem? hz)
    obtain ⟨x, hx⟩ := getElem?_of_lt (l := l) (i := z.toNat) (by omega)
    have b1 := mxs_le l (w.take i)
    have b2 := opn_le l (w.take i)
    rw [List.length_take] at b1 b2
    have hk : kindAt l z.toNat = x.2 := by unfold kindAt; rw [hx]
    have hs := mxs_snoc l (w.take i) z
    rw [← take_succ_get hz] at hs
    have h2 := mxs_opn l (w.take i)
    have next : ∀ (e' : Env), e' 0 = v0 → e' 1 = v1 → e' 5 = .int .i64 ((mxs l (w.take (i + 1))).1 : Nat) → e' 6 = .int .i64 ((mxs l (w.take (i + 1))).2 : Nat) → e' 7 = .int .i64 ((i : Int) + 1) → I e' h' :=
      fun e' f0 f1 f5 f6 f7 => hI (m - 1) _ _ (by omega) ⟨i + 1, by omega, by omega, f0, f1, f5, f6, f7, rfl⟩
    rw [hs] at next
    unfold ostep at next
    rw [hk] at next
    refine w_idxN eI_len hw hz fun p hp => w_rd1 hp rfl ?_
    refine w_idxT (enc := eSy) eSy_len hl z0 hx fun p hp => w_off hp (by simp [eSy_len]) fun p hp => w_rd1 hp rfl (w_eql ?_)
    refine c_dec (fun q1 => ?_) (fun q1 => ?_)
    · rw [if_pos q1] at next
      refine w_add (by omega) (by omega) (w_max' rfl (w_add (by omega) (by omega) ?_))
      exact next _ e0 e1 (by show Value.int .i64 _ = Value.int .i64 _; congr 1; omega) (by show Value.int .i64 _ = Value.int .i64 _; congr 1) rfl
    · rw [if_neg q1] at next
      refine w_eql (c_dec (fun q2 => ?_) (fun q2 => ?_))
      · rw [if_pos q2] at next
        refine w_sub (by omega) (by omega) (w_max' rfl (w_max' rfl (w_add (by omega) (by omega) ?_)))
        exact next _ e0 e1 (by show Value.int .i64 _ = Value.int .i64 _; congr 1; omega) (by show Value.int .i64 _ = Value.int .i64 _; congr 1; omega) rfl
      · rw [if_neg q2] at next
        refine w_max' rfl (w_add (by omega) (by omega) ?_)
        exact next _ e0 e1 (by show Value.int .i64 _ = Value.int .i64 _; congr 1; omega) e6 rfl
  · have : i = w.length := by omega
    rw [this, List.take_length]
    exact k
end Go.Proofs.Ytebbjimmgblcpaa.W
