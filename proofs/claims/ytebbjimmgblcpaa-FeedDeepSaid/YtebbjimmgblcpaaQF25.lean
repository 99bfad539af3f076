/- FeedDeep: the walk. Conditions: none. -/
import Derived.Test.YtebbjimmgblcpaaQF24
namespace Go.Proofs.Ytebbjimmgblcpaa.W
open Go Go.AM FeedM
set_option linter.unusedVariables false
set_option maxRecDepth 100000

theorem w_max {a b : Int} {K : Value → Prop} (k : K (.int .i64 (max a b))) : optW (pMax2 true (.int .i64 a) (.int .i64 b)) K := by
  refine w_some (v := .int .i64 (max a b)) ?_ k
  unfold pMax2
  simp only [Int.max_def]
  split <;> split <;> simp_all <;> omega

theorem deep10 (h : AH) (a : Int) (_ : I64 a) (v1 : Value) (ns : List Int) (i1 : Ints h v1 ns) (_ : ∀ n ∈ ns, I64 n) (v2 : Value) (ws : List Int) (i2 : Ints h v2 ws) (_ : ∀ n ∈ ws, I64 n) (dp : Int) (_ : I64 dp) (hm : h.length = 2) :
    callW Try.prog 10 [.int .i64 a, v1, v2, .int .i64 dp] h fun v _ => v = .bool true := by
  refine c10 ?_
  unfold s10
  refine known13 (.inr (.inl hm)) fun h1 x1 => ?_
  refine w_notb (c_f ?_)
  refine syms14 (i1.ex x1) fun vl h2 l x2 hl lc => ?_
  obtain ⟨l0, l7⟩ := small_choices l lc
  have ok := okSy_choices l lc
  refine word17 hl (i2.ex (x1.trans x2)) l0 (by omega) (by decide) fun vw h3 x3 ow => ?_
  have wl := wordOf_len l.length ws 30
  have win := wordOf_in l0 ws 30
  generalize wordOf l.length ws 30 = w at *
  refine within18 _ _ _ _ (by decide) (by decide) ?_
  have q5 : 0 ≤ dp % 5 ∧ dp % 5 < 5 := ⟨Int.emod_nonneg _ (by decide), Int.emod_lt_of_pos _ (by decide)⟩
  generalize dp % 5 = d at *
  have hl3 := hl.ex x3
  refine eachA hl3 lc fun h4 vm x4 mv => ?_
  refine newE (hl3.ex x4) mv lc fun h5 f F x5 r5 low5 => ?_
  refine w_some rfl (c_f ?_)
  have f0 := fit_each lc d
  have x35 := x4.trans x5
  have hlt5 := x35.len
  have low3 : ∀ j, F j → h3.length ≤ j := fun j hj => by have := low5 j hj; have := x4.len; omega
  refine loopE_intro (fun m e h' => ∃ (i : Nat) (st : FS) (r : Nat) (F' : Nat → Prop), i ≤ w.length ∧ m = w.length - i ∧ e 9 = vl ∧ e 10 = vw ∧ e 11 = .int .i64 d ∧ e 12 = .pointer (some ⟨f, 0, none⟩) ∧ e 13 = .int .i64 (opn l (w.take i)) ∧ e 14 = .int .i64 r ∧ e 15 = .int .i64 i ∧
    Ex h3 h' ∧ (∀ j, F' j → h3.length ≤ j) ∧ FR h' f st F' ∧ Good l (eachM l) d (w.take i) r st ∧ r ≤ 5 * i ∧ Fit st (1000000 - 1000 * i) ∧ (opn l (w.take i) : Int) ≤ d) w.length
    ⟨0, _, 0, F, Nat.zero_le _, rfl, rfl, rfl, rfl, rfl, rfl, rfl, rfl, x35, low3, r5, Good.new _ _ _, Nat.zero_le _, f0, by show (0 : Int) ≤ d; omega⟩ ?_
  rintro I m e h' ⟨i, st, r, F', hi, hmm, e9, e10, e11, e12, e13, e14, e15, hx, low, r', g, hr, ft, hd⟩ hI
  rw [e9, e10, e11, e12, e13, e14, e15]
  refine w_len ow.sl (w_lss ?_)
  have lt' := r'.lt
  refine c_dec (fun q => ?_) (fun q => ?_)
  · obtain ⟨k, hk⟩ := getElem?_of_lt (l := w) (i := i) (by omega)
    obtain ⟨k0, k1⟩ := win k (List.mem_of_getElem? hk)
    obtain ⟨x, hxx⟩ := getElem?_of_lt (l := l) (i := k.toNat) (by omega)
    obtain ⟨sg1, sg4⟩ := signOf_len ok hxx
    have hkk : kindAt l k.toNat = x.2 := by unfold kindAt; rw [hxx]
    refine w_idxN eI_len (ow.sl.ex hx) hk fun p hp => w_rd1 hp rfl ?_
    refine w_idxT (enc := eSy) eSy_len (hl3.ex hx) k0 hxx fun p hp => w_rdA hp rfl ?_
    have nm := names1 l lc x (List.mem_of_getElem? hxx)
    refine sign33 (by omega) fun h6 x6 => ?_
    refine w_cat (by simp; omega) ?_
    have sl : (signOf x ++ [32]).length = (signOf x).length + 1 := by simp
    refine writeS (b := 1000000 - 1000 * (i + 1)) (r'.ex x6) (ft.mono (by omega)) g.closed fun vb h7 F7 r7 c7 => ?_
    have x7 : Ex h3 h7 := c7.toEx (hx.trans x6) low
    have low7 := c7.low (hx.trans x6) low
    have f7 : Fit (FeedM.write st (signOf x ++ [32])) (1000000 - 1000 * (i + 1)) := Fit.write (ft.mono (by omega))
    have htk : w.take (i + 1) = w.take i ++ [k] := take_succ_get hk
    refine w_some rfl (w_some rfl ?_)
    refine w_idxN eI_len (ow.sl.ex x7) hk fun p hp => w_rd1 hp rfl ?_
    refine w_idxT (enc := eSy) eSy_len (hl3.ex x7) k0 hxx fun p hp => w_off hp (by simp [eSy_len]) fun p hp => w_rd1 hp rfl (w_eql ?_)
    have next : x.2 = 1 → (opn l (w.take i) : Int) < d → True := fun _ _ => trivial
    refine c_dec (fun q1 => ?_) (fun q1 => ?_)
    · refine w_eql (c_dec (fun q2 => ?_) (fun q2 => ?_))
      · obtain ⟨b1, b2, b3⟩ := deep_err g ok hxx q1 q2
        have b3' := b3
        rw [b1, b2]
        have n1 : (13 : Int) = 13 := rfl
        have n2 : (r : Int) = (r : Nat) := rfl
        refine w_eql (g_tt n1 (g_tt n1 (g_tt n1 (w_eql (pk_tt n1 ?_)))))
        refine g_tt n2 (g_tt n2 (deep31 r7 (g_tt n2 (g_tt n2 (w_eql (pk_tt n2 ?_))))))
        rw [b3, q2, decide_eq_true rfl]
      · have g7 := deep_ok g ok k0 hxx (fun _ => by omega)
        rw [← htk] at g7
        have ho : opn l (w.take (i + 1)) = opn l (w.take i) + 1 := by rw [htk, opn_snoc]; unfold ostep; rw [hkk, if_pos q1]
        have hoe : ((opn l (w.take i) : Nat) : Int) + 1 = ((opn l (w.take (i + 1)) : Nat) : Int) := by omega
        rw [g7.e, g7.place]
        refine w_add (by omega) (by omega) (w_neq ?_)
        rw [hoe]
        have n1 : ¬ ¬ (0 : Int) = 0 := fun h => h rfl
        have n3 : ¬ ¬ (((FeedM.write st (signOf x ++ [32])).under.length : Nat) : Int) = ((opn l (w.take (i + 1)) : Nat) : Int) := fun h => h (by rw [g7.under])
        refine g_ff n1 (g_ff n1 (w_neq (pk_ff n1 ?_)))
        refine g_ff n1 (g_ff n1 (deep31 r7 (g_ff n1 (g_ff n1 (w_neq (pk_ff n1 (c_ff n3 ?_)))))))
        refine w_lenStr (w_add (by omega) (by omega) (w_add (by omega) (by omega) ?_))
        exact hI (m - 1) _ _ (by omega) ⟨i + 1, _, r + ((signOf x).length + 1), F7, by omega, by omega, e9, e10, e11, e12, rfl, (by show Value.int .i64 _ = Value.int .i64 _; congr 1; rw [sl]; omega), rfl, x7, low7, r7, by exact_mod_cast g7, by omega, f7, by omega⟩
    · have g7 := deep_ok g ok k0 hxx (fun h => (q1 h).elim)
      rw [← htk] at g7
      have ho : opn l (w.take (i + 1)) = ostep l (opn l (w.take i)) k := by rw [htk, opn_snoc]
      unfold ostep at ho
      rw [hkk, if_neg q1] at ho
      rw [g7.e, g7.place]
      have n1 : ¬ ¬ (0 : Int) = 0 := fun h => h rfl
      have n3 : ¬ ¬ (((FeedM.write st (signOf x ++ [32])).under.length : Nat) : Int) = ((opn l (w.take (i + 1)) : Nat) : Int) := fun h => h (by rw [g7.under])
      refine w_eql (c_dec (fun q2 => ?_) (fun q2 => ?_))
      · rw [if_pos q2] at ho
        refine w_sub (by omega) (by omega) (w_max (w_neq ?_))
        have hoe : max (((opn l (w.take i) : Nat) : Int) - 1) 0 = ((opn l (w.take (i + 1)) : Nat) : Int) := by omega
        rw [hoe]
        refine g_ff n1 (g_ff n1 (w_neq (pk_ff n1 ?_)))
        refine g_ff n1 (g_ff n1 (deep31 r7 (g_ff n1 (g_ff n1 (w_neq (pk_ff n1 (c_ff n3 ?_)))))))
        refine w_lenStr (w_add (by omega) (by omega) (w_add (by omega) (by omega) ?_))
        exact hI (m - 1) _ _ (by omega) ⟨i + 1, _, r + ((signOf x).length + 1), F7, by omega, by omega, e9, e10, e11, e12, rfl, (by show Value.int .i64 _ = Value.int .i64 _; congr 1; rw [sl]; omega), rfl, x7, low7, r7, by exact_mod_cast g7, by omega, f7, by omega⟩
      · rw [if_neg q2] at ho
        refine w_neq ?_
        rw [← ho]
        refine g_ff n1 (g_ff n1 (w_neq (pk_ff n1 ?_)))
        refine g_ff n1 (g_ff n1 (deep31 r7 (g_ff n1 (g_ff n1 (w_neq (pk_ff n1 (c_ff n3 ?_)))))))
        refine w_lenStr (w_add (by omega) (by omega) (w_add (by omega) (by omega) ?_))
        exact hI (m - 1) _ _ (by omega) ⟨i + 1, _, r + ((signOf x).length + 1), F7, by omega, by omega, e9, e10, e11, e12, (by show e 13 = _; rw [e13, ho]), (by show Value.int .i64 _ = Value.int .i64 _; congr 1; rw [sl]; omega), rfl, x7, low7, r7, by exact_mod_cast g7, by omega, f7, by omega⟩
  · have : i = w.length := by omega
    subst this
    rw [List.take_length] at g
    refine close24 r' (ft.mono (c := 0 + 2) (by omega)) g.closed fun h8 F8 c r8 c8 hc => ?_
    have ps := g.pre.shut
    obtain ⟨p1, p2, p3, p4, p5, p6⟩ := ps
    have hct : c = true := hc.2 ⟨p1, each_isFinal lc win p4 p5⟩
    subst hct
    refine w_some rfl (w_some rfl (w_some rfl ?_))
    rw [p1]
    exact gc_tt (gc_tt (w_eql (pk_t rfl)))
end Go.Proofs.Ytebbjimmgblcpaa.W
