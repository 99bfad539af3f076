/- A new feed: the walk. Conditions: none. -/
import Derived.Test.YtebbjimmgblcpaaQF13
namespace Go.Proofs.Ytebbjimmgblcpaa.W
open Go Go.AM FeedM
set_option linter.unusedVariables false
set_option maxRecDepth 100000

theorem res44 (e : Env) (h : AH) : resList Try.prog e h Try.f44.results.toList = (rdRow true 10 (e 2) h).map fun v => [v] := by
  have h1 : Try.f44.results.toList = [.cell 2 93] := by kernel_rfl
  have h2 : ∀ x, pLoad Try.prog 93 x h = rdRow true 10 x h := fun x => by kernel_rfl
  rw [h1]
  show (match pLoad Try.prog 93 (e 2) h with
    | some v => match resList Try.prog e h [] with
      | some vs => some (v :: vs)
      | none => none
    | none => none) = _
  rw [h2]
  cases rdRow true 10 (e 2) h <;> rfl

/-- the cells of a machine -/
def mcells (n g : Int) (vi vf vo vc vn : Value) : List Value := [.int .i64 n, .int .i64 g, vi, vf, vo, vc, vn]
def rcells (n g : Int) (vi vf vo vc vn : Value) (i : Nat) : List Value := [.int .i64 n, .int .i64 g, vi, vf, vo, vc, vn, .map (some i), .int .i64 0, .slice none 0 0]
def z10 : List Value := [(.int .i64 0), (.int .i64 0), (.slice none 0 0), (.slice none 0 0), (.slice none 0 0), (.slice none 0 0), (.slice none 0 0), (.map none), (.int .i64 0), (.slice none 0 0)]
def isSl (v : Value) : Prop := ∃ a n c, v = .slice a n c

theorem n_rowv {c : List Value} {h : AH} {K : Value → AH → Prop} (k : ∀ h', Ex h h' → h'.length = h.length + 1 → h'[h.length]? = some (.row c true) → K (.pointer (some ⟨h.length, 0, none⟩)) h') : newR none c h K :=
  n_row (k _ (.app _ _) (by simp) (get_new _ _))

theorem begin44 {h : AH} {n g : Int} {vi vf vo vc vn : Value} {m : Mach} {K : Value → AH → Prop} (hi : Ints h vi m.init) (hn : m.init.length < room40) (s2 : isSl vf) (s3 : isSl vo) (s4 : isSl vc) (s5 : isSl vn)
    (k : ∀ h' i, Ex h h' → h.length ≤ i → SetP h' i (FeedM.begin m).row → K (.agg (rcells n g vi vf vo vc vn i).toArray) h') :
    callW Try.prog 44 [.agg (mcells n g vi vf vo vc vn).toArray] h K := by
  have s1 : isSl vi := by obtain ⟨a, c, e⟩ := hi.shape; exact ⟨a, _, c, e⟩
  obtain ⟨a1, n1, c1, rfl⟩ := s1
  obtain ⟨a2, n2, c2, rfl⟩ := s2
  obtain ⟨a3, n3, c3, rfl⟩ := s3
  obtain ⟨a4, n4, c4, rfl⟩ := s4
  obtain ⟨a5, n5, c5, rfl⟩ := s5
  unfold room40 at hn
  refine c44 ?_
  unfold s44
  refine n_boxv rfl fun h1 x1 l1 g1 => ?_
  refine n_rowv (c := z10) fun h2 x2 l2 g2 => ?_
  refine w_rdPA (x2.some g1) (Nat.le_refl 7) ?_
  refine n_map0 fun h3 x3 l3 g3 => ?_
  refine w_some rfl ?_
  refine w_some rfl ?_
  refine n_var rfl rfl rfl fun h4 x4 l4 g4 => ?_
  refine w_offP (w_rdP (x4.some (x3.some (x2.some g1))) (v := .slice a1 n1 c1) rfl ?_)
  refine w_len hi ?_
  refine loopE_intro (fun m' e h' => ∃ i : Nat, i ≤ m.init.length ∧ m' = m.init.length - i ∧ e 2 = .pointer (some ⟨h1.length, 0, none⟩) ∧ e 3 = .pointer (some ⟨h3.length, 0, none⟩) ∧ e 11 = .slice a1 n1 c1 ∧ e 12 = .int .i64 m.init.length ∧ e 13 = .int .i64 i ∧
    Ex h h' ∧ h3.length < h'.length ∧ h'[h1.length]? = some (.row z10 true) ∧
    h'[h3.length]? = some (.row (rcells n g (.slice a1 n1 c1) (.slice a2 n2 c2) (.slice a3 n3 c3) (.slice a4 n4 c4) (.slice a5 n5 c5) h2.length) true) ∧
    SetP h' h2.length (fun p => p.1 = p.2 ∧ p.1 ∈ m.init.take i)) m.init.length
    ⟨0, Nat.zero_le _, rfl, rfl, rfl, rfl, rfl, rfl, ((x1.trans x2).trans x3).trans x4, by omega, x4.some (x3.some g2), g4, (((SetM.empty g3).ex x4).congr fun p => by simp)⟩ ?_
  rintro I m' e h' ⟨i, hi', hm, e2, e3, e11, e12, e13, hx, hl, f1, f2, hs⟩ hI
  rw [e11, e12, e13, e3, e2]
  refine w_lss ?_
  refine c_dec (fun q => ?_) (fun q => ?_)
  · obtain ⟨z, hz⟩ := getElem?_of_lt (l := m.init) (i := i) (by omega)
    refine w_idxN (enc := eI) eI_len (hi.ex hx) hz fun p hp => ?_
    refine w_rd1 hp rfl ?_
    refine w_offP (w_offP (w_rdP f2 (v := .map (some h2.length)) rfl ?_))
    refine w_some rfl ?_
    refine set_put (enc := eP) (one := one1) (x := (z, z)) Try.underlying88 keyP hs fun o hs' => ?_
    refine w_add (by omega) (by omega) ?_
    have hml : h2.length < h'.length := hs.lt
    refine hI (m' - 1) _ _ (by omega) ⟨i + 1, by omega, by omega, e2, e3, e11, e12, rfl, hx.set (by omega) _, by simpa using hl, by rw [get_ne (by omega)]; exact f1, by rw [get_ne (by omega)]; exact f2, hs'.congr fun p => ?_⟩
    rw [take_succ_get hz]
    obtain ⟨pa, pb⟩ := p
    simp only [List.mem_append, List.mem_singleton, Prod.mk.injEq]
    grind
  · have hie : i = m.init.length := by omega
    subst hie
    rw [List.take_length] at hs
    refine w_rdPA f2 (Nat.le_refl 10) ?_
    refine w_stPA f1 rfl (by decide) rfl ?_
    rw [res44]
    have hb : h1.length < h'.length := lt_of_get f1
    have hms : h2.length ≠ h1.length := by omega
    refine w_some (v := [.agg (rcells n g (.slice a1 n1 c1) (.slice a2 n2 c2) (.slice a3 n3 c3) (.slice a4 n4 c4) (.slice a5 n5 c5) h2.length).toArray]) ?_ ?_
    · show (rdRow true 10 (e 2) _).map _ = _
      rw [e2]
      have : rdRow true 10 (.pointer (some ⟨h1.length, 0, none⟩)) (h'.set h1.length (.row (spliceL z10 0 (cellsL (.agg (((rcells n g (.slice a1 n1 c1) (.slice a2 n2 c2) (.slice a3 n3 c3) (.slice a4 n4 c4) (.slice a5 n5 c5) h2.length).drop 0).take 10).toArray))) true)) = some (.agg (rcells n g (.slice a1 n1 c1) (.slice a2 n2 c2) (.slice a3 n3 c3) (.slice a4 n4 c4) (.slice a5 n5 c5) h2.length).toArray) := by
        have g : optW (rdRow true 10 (.pointer (some ⟨h1.length, 0, none⟩)) (h'.set h1.length (.row (spliceL z10 0 (cellsL (.agg (((rcells n g (.slice a1 n1 c1) (.slice a2 n2 c2) (.slice a3 n3 c3) (.slice a4 n4 c4) (.slice a5 n5 c5) h2.length).drop 0).take 10).toArray))) true))) (fun v => v = .agg (rcells n g (.slice a1 n1 c1) (.slice a2 n2 c2) (.slice a3 n3 c3) (.slice a4 n4 c4) (.slice a5 n5 c5) h2.length).toArray) := by
          refine w_rdPA (get_set _ hb _) (Nat.le_refl 10) ?_
          rfl
        revert g
        cases rdRow true 10 (.pointer (some ⟨h1.length, 0, none⟩)) (h'.set h1.length (.row (spliceL z10 0 (cellsL (.agg (((rcells n g (.slice a1 n1 c1) (.slice a2 n2 c2) (.slice a3 n3 c3) (.slice a4 n4 c4) (.slice a5 n5 c5) h2.length).drop 0).take 10).toArray))) true)) with
        | none => intro g; exact g.elim
        | some v => intro g; have g : v = _ := g; rw [g]
      rw [this]
      rfl
    · refine k _ h2.length (hx.set (by omega) _) (by omega) ((hs.same (get_ne (by omega) _)))
end Go.Proofs.Ytebbjimmgblcpaa.W
