/- The document's Check of a machine of numbers: the walk. Conditions: none. -/
import Derived.Test.YtebbjimmgblcpaaQF33
namespace Go.Proofs.Ytebbjimmgblcpaa.W
open Go Go.AM FeedM
set_option linter.unusedVariables false
set_option maxRecDepth 100000

theorem check25 {h : AH} {v0 vm : Value} {l : List Sy} {m : Mach} {K : Value → AH → Prop} (hl : Syms h v0 l) (mv : MV h vm m) (ok : MkOK l m 25) (k : ∀ h', Ex h h' → K (.int .i64 0) h') : callW Try.prog 25 [v0, vm] h K := by
  have r40 : (10000000 : Nat) < room40 := big40
  have hN := ok.n
  have hG := ok.g
  have hC := ok.cnt
  refine c25 ?_
  unfold s25
  refine boxM mv fun h1 vi vf vo vc vn x1 l1 b1 => ?_
  have n1 : ¬ m.n < 0 := by omega
  have n2 : ¬ 200 < m.n := by omega
  have n3 : ¬ m.g < 0 := by omega
  have n4 : ¬ 10000 < m.g := by omega
  have n5 : ¬ (100000 : Int) < (m.opens.length : Nat) + (m.closes.length : Nat) + (m.inners.length : Nat) := by omega
  refine w_offP (w_rdP b1.row (v := .int .i64 m.n) rfl (w_lss ?_))
  refine g_ff n1 (w_offP (g_ff n1 (w_rdP b1.row (v := .int .i64 m.n) rfl (g_ff n1 (w_gtr (pk_ff n1 ?_))))))
  refine g_ff n2 (w_offP (g_ff n2 (w_rdP b1.row (v := .int .i64 m.g) rfl (g_ff n2 (w_lss (pk_ff n2 ?_))))))
  refine g_ff n3 (w_offP (g_ff n3 (w_rdP b1.row (v := .int .i64 m.g) rfl (g_ff n3 (w_gtr (pk_ff n3 ?_))))))
  refine g_ff n4 (w_offP (g_ff n4 (w_rdP b1.row (v := vo) rfl (g_ff n4 (w_len b1.o ?_)))))
  refine g_ff n4 (w_offP (g_ff n4 (w_rdP b1.row (v := vc) rfl (g_ff n4 (w_len b1.c ?_)))))
  refine g_ff n4 (w_add (by omega) (by omega) ?_)
  refine g_ff n4 (w_offP (g_ff n4 (w_rdP b1.row (v := vn) rfl (g_ff n4 (w_len b1.n ?_)))))
  refine g_ff n4 (w_add (by omega) (by omega) (g_ff n4 (w_gtr (pk_ff n4 (c_ff n5 ?_)))))
  refine copyIF b1 (by omega) fun h2 vq x2 qs a1 a2 a3 a4 a5 a6 a7 => ?_
  have sq : Ints h2 vq (m.init ++ m.final) := qs.sl
  have inq : ∀ p ∈ m.init ++ m.final, 0 ≤ p ∧ p < m.n := fun p hp => (List.mem_append.1 hp).elim (ok.init p) (ok.final p)
  have lq : (m.init ++ m.final).length ≤ 25 := by rw [List.length_append]; omega
  generalize m.init ++ m.final = q at *
  have b2 := b1.ex x2
  have hl2 := hl.ex (x1.trans x2)
  refine loopE_intro (fun mm e h' => ∃ i : Nat, i ≤ q.length ∧ mm = q.length - i ∧ e 0 = v0 ∧ e 3 = .pointer (some ⟨h.length, 0, none⟩) ∧ e 5 = vq ∧ e 6 = .int .i64 i ∧ Ex h2 h') q.length ⟨0, Nat.zero_le _, rfl, rfl, rfl, rfl, rfl, Ex.refl _⟩ ?_
  rintro I mm e h' ⟨i, hi, hmm, e0, e3, e5, e6, hx⟩ hI
  rw [e3, e5, e6]
  refine w_len (sq.ex hx) (w_lss (c_dec (fun p1 => ?_) (fun p1 => ?_)))
  · obtain ⟨z, hz⟩ := getElem?_of_lt (l := q) (i := i) (by omega)
    refine (b2.ex hx).rd fun v58 mv58 => ?_
    refine w_idxN eI_len (sq.ex hx) hz fun p hp => w_rd1 hp rfl ?_
    refine state50 mv58 (inq z (List.mem_of_getElem? hz)) fun h3 x3 => w_notb (c_f ?_)
    refine w_add (by omega) (by omega) ?_
    exact hI (mm - 1) _ _ (by omega) ⟨i + 1, by omega, by omega, e0, e3, e5, rfl, hx.trans x3⟩
  clear hI
  refine loopE_intro (fun mm e h' => ∃ i : Nat, i ≤ m.opens.length ∧ mm = m.opens.length - i ∧ e 0 = v0 ∧ e 3 = .pointer (some ⟨h.length, 0, none⟩) ∧ e 7 = .int .i64 i ∧ Ex h2 h') m.opens.length ⟨0, Nat.zero_le _, rfl, e0, e3, rfl, hx⟩ ?_
  clear hx e0 e3 e5 e6 hmm hi p1
  rintro I mm e h' ⟨i, hi, hmm, e0, e3, e7, hx⟩ hI
  rw [e0, e3, e7]
  have b3 := b2.ex hx
  refine w_offP (w_rdP b3.row (v := vo) rfl (w_len b3.o (w_lss (c_dec (fun p1 => ?_) (fun p1 => ?_)))))
  · obtain ⟨o, ho⟩ := getElem?_of_lt (l := m.opens) (i := i) (by omega)
    obtain ⟨k1, k2, k3, k4, k5⟩ := ok.opens o (List.mem_of_getElem? ho)
    have n6 : ¬ o.2.2.2 < 1 := by omega
    have n7 : ¬ m.g < o.2.2.2 := by omega
    refine w_offP (w_rdP b3.row (v := vo) rfl ?_)
    refine w_idxN (enc := e4) (fun _ => rfl) b3.o ho fun p hp => w_rdA hp rfl ?_
    refine copy4 fun h4' h4 x4 g4 => ?_
    have b4 := b3.ex x4
    refine b4.rd fun v77 mv77 => w_offP (w_rdP g4 (v := .int .i64 o.1) rfl ?_)
    refine state50 mv77 k1 fun h5 x5 => w_notb (gc_ff ?_)
    have b5 := b4.ex x5
    refine b5.rd fun v83 mv83 => gc_ff (w_offP (gc_ff (w_rdP (x5.some g4) (v := .int .i64 o.2.2.1) rfl (gc_ff ?_))))
    refine state50 mv83 k3 fun h6 x6 => gc_ff (w_notb (pk_f (gc_ff (gc_ff (w_offP (gc_ff ?_))))))
    refine w_rdP (x6.some (x5.some g4)) (v := .int .i64 o.2.1) rfl (gc_ff ?_)
    have hl6 := hl2.ex (((hx.trans x4).trans x5).trans x6)
    refine kind51 hl6 k2 (gc_ff (w_notb (pk_f (gc_ff (w_offP (gc_ff ?_))))))
    have g6 := x6.some (x5.some g4)
    have b6 := b5.ex x6
    refine w_rdP g6 (v := .int .i64 o.2.2.2) rfl (gc_ff (w_lss (pk_f ?_)))
    refine g_ff n6 (w_offP (g_ff n6 (w_rdP g6 (v := .int .i64 o.2.2.2) rfl (g_ff n6 (w_offP (g_ff n6 (w_rdP b6.row (v := .int .i64 m.g) rfl (g_ff n6 (w_gtr (pk_ff n6 (c_ff n7 ?_)))))))))))
    refine w_add (by omega) (by omega) ?_
    exact hI (mm - 1) _ _ (by omega) ⟨i + 1, by omega, by omega, e0, e3, rfl, ((hx.trans x4).trans x5).trans x6⟩
  clear hI
  refine loopE_intro (fun mm e h' => ∃ i : Nat, i ≤ m.closes.length ∧ mm = m.closes.length - i ∧ e 0 = v0 ∧ e 3 = .pointer (some ⟨h.length, 0, none⟩) ∧ e 9 = .int .i64 i ∧ Ex h2 h') m.closes.length ⟨0, Nat.zero_le _, rfl, e0, e3, rfl, hx⟩ ?_
  clear b3 hx e0 e3 e7 hmm hi p1
  rintro I mm e h' ⟨i, hi, hmm, e0, e3, e9, hx⟩ hI
  rw [e0, e3, e9]
  have b3 := b2.ex hx
  refine w_offP (w_rdP b3.row (v := vc) rfl (w_len b3.c (w_lss (c_dec (fun p1 => ?_) (fun p1 => ?_)))))
  · obtain ⟨o, ho⟩ := getElem?_of_lt (l := m.closes) (i := i) (by omega)
    obtain ⟨k1, k2, k3, k4, k5⟩ := ok.closes o (List.mem_of_getElem? ho)
    have n6 : ¬ o.2.2.1 < 0 := by omega
    have n7 : ¬ m.g < o.2.2.1 := by omega
    refine w_offP (w_rdP b3.row (v := vc) rfl ?_)
    refine w_idxN (enc := e4) (fun _ => rfl) b3.c ho fun p hp => w_rdA hp rfl ?_
    refine copy4 fun h4' h4 x4 g4 => ?_
    have b4 := b3.ex x4
    refine b4.rd fun v77 mv77 => w_offP (w_rdP g4 (v := .int .i64 o.1) rfl ?_)
    refine state50 mv77 k1 fun h5 x5 => w_notb (gc_ff ?_)
    have b5 := b4.ex x5
    refine b5.rd fun v83 mv83 => gc_ff (w_offP (gc_ff (w_rdP (x5.some g4) (v := .int .i64 o.2.2.2) rfl (gc_ff ?_))))
    refine state50 mv83 k3 fun h6 x6 => gc_ff (w_notb (pk_f (gc_ff (gc_ff (w_offP (gc_ff ?_))))))
    refine w_rdP (x6.some (x5.some g4)) (v := .int .i64 o.2.1) rfl (gc_ff ?_)
    have hl6 := hl2.ex (((hx.trans x4).trans x5).trans x6)
    refine kind51 hl6 k2 (gc_ff (w_notb (pk_f (gc_ff (w_offP (gc_ff ?_))))))
    have g6 := x6.some (x5.some g4)
    have b6 := b5.ex x6
    refine w_rdP g6 (v := .int .i64 o.2.2.1) rfl (gc_ff (w_lss (pk_f ?_)))
    refine g_ff n6 (w_offP (g_ff n6 (w_rdP g6 (v := .int .i64 o.2.2.1) rfl (g_ff n6 (w_offP (g_ff n6 (w_rdP b6.row (v := .int .i64 m.g) rfl (g_ff n6 (w_gtr (pk_ff n6 (c_ff n7 ?_)))))))))))
    refine w_add (by omega) (by omega) ?_
    exact hI (mm - 1) _ _ (by omega) ⟨i + 1, by omega, by omega, e0, e3, rfl, ((hx.trans x4).trans x5).trans x6⟩
  clear hI
  refine loopE_intro (fun mm e h' => ∃ i : Nat, i ≤ m.inners.length ∧ mm = m.inners.length - i ∧ e 0 = v0 ∧ e 3 = .pointer (some ⟨h.length, 0, none⟩) ∧ e 11 = .int .i64 i ∧ Ex h2 h') m.inners.length ⟨0, Nat.zero_le _, rfl, e0, e3, rfl, hx⟩ ?_
  clear b3 hx e0 e3 e9 hmm hi p1
  rintro I mm e h' ⟨i, hi, hmm, e0, eP, e11, hx⟩ hI
  rw [e0, eP, e11]
  have b3 := b2.ex hx
  refine w_offP (w_rdP b3.row (v := vn) rfl (w_len b3.n (w_lss (c_dec (fun p1 => ?_) (fun p1 => ?_)))))
  · obtain ⟨o, ho⟩ := getElem?_of_lt (l := m.inners) (i := i) (by omega)
    obtain ⟨k1, k2, k3⟩ := ok.inners o (List.mem_of_getElem? ho)
    refine w_offP (w_rdP b3.row (v := vn) rfl ?_)
    refine w_idxN (enc := e3) (fun _ => rfl) b3.n ho fun p hp => w_rdA hp rfl ?_
    refine copy3 fun h4' h4 x4 g4 => ?_
    have b4 := b3.ex x4
    refine b4.rd fun v77 mv77 => w_offP (w_rdP g4 (v := .int .i64 o.1) rfl ?_)
    refine state50 mv77 k1 fun h5 x5 => w_notb (gc_ff ?_)
    have b5 := b4.ex x5
    refine b5.rd fun v83 mv83 => gc_ff (w_offP (gc_ff (w_rdP (x5.some g4) (v := .int .i64 o.2.2) rfl (gc_ff ?_))))
    refine state50 mv83 k3 fun h6 x6 => gc_ff (w_notb (pk_f (gc_ff (gc_ff (w_offP (gc_ff ?_))))))
    refine w_rdP (x6.some (x5.some g4)) (v := .int .i64 o.2.1) rfl (gc_ff ?_)
    have hl6 := hl2.ex (((hx.trans x4).trans x5).trans x6)
    refine kind51 hl6 k2 (gc_ff (w_notb (pk_f (c_f ?_))))
    refine w_add (by omega) (by omega) ?_
    exact hI (mm - 1) _ _ (by omega) ⟨i + 1, by omega, by omega, e0, eP, rfl, ((hx.trans x4).trans x5).trans x6⟩
  exact k h' ((x1.trans x2).trans hx)
end Go.Proofs.Ytebbjimmgblcpaa.W
