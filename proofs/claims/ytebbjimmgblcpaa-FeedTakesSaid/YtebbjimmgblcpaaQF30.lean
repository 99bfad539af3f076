/- one, opens; a machine in a box: the walks. Conditions: none. -/
import Derived.Test.YtebbjimmgblcpaaQF29
namespace Go.Proofs.Ytebbjimmgblcpaa.W
open Go Go.AM FeedM
set_option linter.unusedVariables false
set_option maxRecDepth 100000

theorem res15 (e : Env) (h : AH) : resList Try.prog e h Try.f15.results.toList = (rdRow true 7 (e 6) h).map fun v => [v] := by
  have h1 : Try.f15.results.toList = [.cell 6 30] := by kernel_rfl
  have h2 : ∀ x, pLoad Try.prog 30 x h = rdRow true 7 x h := fun x => by kernel_rfl
  rw [h1]
  show (match pLoad Try.prog 30 (e 6) h with
    | some v => match resList Try.prog e h [] with
      | some vs => some (v :: vs)
      | none => none
    | none => none) = _
  rw [h2]
  cases rdRow true 7 (e 6) h <;> rfl

theorem hopt {α : Type} {o : Option α} {x : α} (ho : optW o fun y => y = x) : o = some x := by
  cases o with
  | none => exact ho.elim
  | some y => have : y = x := ho; rw [this]

theorem one15 {h : AH} {v0 v1 : Value} {l : List Sy} {size : Int} {ns : List Int} {K : Value → AH → Prop} (hl : Syms h v0 l) (bl : l.length ≤ 1000) (hs : I64 size) (hns : Ints h v1 ns)
    (k : ∀ h' vm m, Ex h h' → MV h' vm m → MkOK l m 25 → m.init ≠ [] → K vm h') : callW Try.prog 15 [v0, .int .i64 size, v1] h K := by
  refine c15 ?_
  unfold s15
  refine n_rowv (c := z7) fun h1 x1 l1 g1 => ?_
  refine make35 (hl.ex x1) bl hs (hns.ex x1) fun h2 vm m x2 mv ok ne => ?_
  obtain ⟨vi, vf, vo, vc, vn, rfl, p1, p2, p3, p4, p5, lo⟩ := mv
  obtain ⟨a1, n1, c1, rfl⟩ := Sl.isSl p1
  obtain ⟨a2, n2, c2, rfl⟩ := Sl.isSl p2
  obtain ⟨a3, n3, c3, rfl⟩ := Sl.isSl p3
  obtain ⟨a4, n4, c4, rfl⟩ := Sl.isSl p4
  obtain ⟨a5, n5, c5, rfl⟩ := Sl.isSl p5
  have g2 := x2.some g1
  have hb := lt_of_get g2
  refine w_stPA g2 rfl (Nat.le_refl 7) rfl ?_
  rw [res15]
  refine w_some (v := [.agg (mcells m.n m.g (.slice a1 n1 c1) (.slice a2 n2 c2) (.slice a3 n3 c3) (.slice a4 n4 c4) (.slice a5 n5 c5)).toArray]) ?_ ?_
  · have g := hopt (o := rdRow true 7 (.pointer (some ⟨h.length, 0, none⟩)) _) (w_rdPA (get_set h2 hb (.row (spliceL z7 0 (cellsL (.agg (mcells m.n m.g (.slice a1 n1 c1) (.slice a2 n2 c2) (.slice a3 n3 c3) (.slice a4 n4 c4) (.slice a5 n5 c5)).toArray))) true)) (Nat.le_refl 7) rfl)
    show (rdRow true 7 (.pointer (some ⟨h.length, 0, none⟩)) (h2.set h.length (.row (spliceL z7 0 (cellsL (.agg (mcells m.n m.g (.slice a1 n1 c1) (.slice a2 n2 c2) (.slice a3 n3 c3) (.slice a4 n4 c4) (.slice a5 n5 c5)).toArray))) true))).map _ = _
    rw [g]
    rfl
  · have ne' : ∀ j, (onId (.slice a1 n1 c1) j ∨ onId (.slice a2 n2 c2) j ∨ onId (.slice a3 n3 c3) j ∨ onId (.slice a4 n4 c4) j ∨ onId (.slice a5 n5 c5) j) → h.length ≠ j := fun j hj => by have := lo j hj; omega
    exact k _ _ m ((x1.trans x2).set (Nat.le_refl _) _) ⟨_, _, _, _, _, rfl, Sl.same p1 fun j hj => get_ne (ne' j (.inl hj)) _, Sl.same p2 fun j hj => get_ne (ne' j (.inr (.inl hj))) _, Sl.same p3 fun j hj => get_ne (ne' j (.inr (.inr (.inl hj)))) _,
      Sl.same p4 fun j hj => get_ne (ne' j (.inr (.inr (.inr (.inl hj))))) _, Sl.same p5 fun j hj => get_ne (ne' j (.inr (.inr (.inr (.inr hj))))) _⟩ ok ne

/-- a machine laid in a box. -/
def Box (h : AH) (p : Nat) (m : Mach) : Prop := ∃ cells, h[p]? = some (.row cells true) ∧ 0 + 7 ≤ cells.length ∧ MV h (.agg ((cells.drop 0).take 7).toArray) m
theorem Box.ex {h h' : AH} {p : Nat} {m : Mach} (b : Box h p m) (x : Ex h h') : Box h' p m := by
  obtain ⟨c, g, hl, mv⟩ := b
  exact ⟨c, x.some g, hl, mv.ex x⟩
theorem Box.rd {h : AH} {p : Nat} {m : Mach} {K : Value → Prop} (b : Box h p m) (k : ∀ v, MV h v m → K v) : optW (rdRow true 7 (.pointer (some ⟨p, 0, none⟩)) h) K := by
  obtain ⟨c, g, hl, mv⟩ := b
  exact w_rdPA g hl (k _ mv)
theorem boxA {h : AH} {vm : Value} {m : Mach} {Q : Value → AH → AH → Prop} (mv : MV h vm m) (k : ∀ h15 h16, Ex h h16 → Box h16 h.length m → h.length < h16.length → Q (.pointer (some ⟨h.length, 0, none⟩)) h15 h16) :
    newR none [(.int .i64 0), (.int .i64 0), (.slice none 0 0), (.slice none 0 0), (.slice none 0 0), (.slice none 0 0), (.slice none 0 0)] h fun v12 h15 => optW (pStore 7 v12 vm h15) fun h16 => Q v12 h15 h16 := by
  refine n_rowv (c := z7) fun h1 x1 l1 g1 => ?_
  have mv0 := mv
  obtain ⟨vi, vf, vo, vc, vn, rfl, p1, p2, p3, p4, p5⟩ := mv
  obtain ⟨a1, n1, c1, rfl⟩ := Sl.isSl p1
  obtain ⟨a2, n2, c2, rfl⟩ := Sl.isSl p2
  obtain ⟨a3, n3, c3, rfl⟩ := Sl.isSl p3
  obtain ⟨a4, n4, c4, rfl⟩ := Sl.isSl p4
  obtain ⟨a5, n5, c5, rfl⟩ := Sl.isSl p5
  have hb := lt_of_get g1
  refine w_stPA g1 rfl (Nat.le_refl 7) rfl ?_
  have x2 : ∀ o, Ex h (h1.set h.length o) := fun o => x1.set (Nat.le_refl _) o
  exact k h1 _ (x2 _) ⟨_, get_set _ hb _, Nat.le_refl 7, mv0.ex (x2 _)⟩ (by simpa using hb)

theorem opens20 {h : AH} {s : List UInt8} {K : Value → AH → Prop} (hs : s.length ≤ 10000000) (k : ∀ n : Int, K (.int .i64 n) h) : callW Try.prog 20 [.string (bs s)] h K := by
  refine c20 ?_
  unfold s20
  refine loopE_intro (fun m e h' => ∃ i n : Nat, i ≤ s.length ∧ n ≤ i ∧ m = s.length - i ∧ e 0 = .string (bs s) ∧ e 3 = .int .i64 n ∧ e 4 = .int .i64 i ∧ h' = h) s.length ⟨0, 0, Nat.zero_le _, Nat.zero_le _, rfl, rfl, rfl, rfl, rfl⟩ ?_
  rintro I m e h' ⟨i, n, hi, hn, hm, e0, e3, e4, rfl⟩ hI
  rw [e0, e3, e4]
  refine w_lenStr (w_lss (c_dec (fun q => ?_) (fun q => k _)))
  obtain ⟨c, hc⟩ := getElem?_of_lt (l := s) (i := i) (by omega)
  have yes : ∀ e' : Env, e' 0 = .string (bs s) → e' 3 = .int .i64 ((n : Int) + 1) → e' 4 = .int .i64 ((i : Int) + 1) → I e' h' := fun e' f0 f3 f4 => hI (m - 1) _ _ (by omega) ⟨i + 1, n + 1, by omega, by omega, by omega, f0, f3, f4, rfl⟩
  have no : ∀ e' : Env, e' 0 = .string (bs s) → e' 3 = .int .i64 (n : Int) → e' 4 = .int .i64 ((i : Int) + 1) → I e' h' := fun e' f0 f3 f4 => hI (m - 1) _ _ (by omega) ⟨i + 1, n, by omega, by omega, by omega, f0, f3, f4, rfl⟩
  refine w_idxStr (by omega) hc (w_eql ?_)
  by_cases q1 : (c.toNat : Int) = 60
  · refine g_tt q1 (g_tt q1 (w_add (by omega) (by omega) (g_tt q1 (g_tt q1 (w_lenStr (g_tt q1 (w_eql (g_tt q1 ?_))))))))
    by_cases q2 : ((i : Int) + 1 = (s.length : Nat))
    · iterate 5 refine g_ft q2 ?_
      refine g_tt q1 (pk_tt q2 (pk_tt q1 (c_t ?_)))
      refine w_add (by omega) (by omega) (w_add (by omega) (by omega) ?_)
      exact yes _ e0 rfl rfl
    · obtain ⟨c', hc'⟩ := getElem?_of_lt (l := s) (i := i + 1) (by omega)
      refine g_ff q2 (g_ff q2 (g_ff q2 (w_add (by omega) (by omega) (g_ff q2 ?_))))
      refine w_idxStr (by omega) (by rw [show ((i : Int) + 1).toNat = i + 1 by omega]; exact hc') (g_ff q2 (w_neq ?_))
      refine g_tt q1 (pk_ff q2 (pk_tt q1 (c_dec (fun _ => ?_) (fun _ => ?_))))
      · refine w_add (by omega) (by omega) (w_add (by omega) (by omega) ?_)
        exact yes _ e0 rfl rfl
      · refine w_add (by omega) (by omega) ?_
        exact no _ e0 e3 rfl
  · iterate 6 refine g_tf q1 ?_
    iterate 5 refine g_un ?_
    refine g_tf q1 (pk_ff q1 (c_f ?_))
    refine w_add (by omega) (by omega) ?_
    exact no _ e0 e3 rfl
end Go.Proofs.Ytebbjimmgblcpaa.W
