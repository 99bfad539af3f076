/- Parts of a proof, joined by a program. Conditions: none. -/
import Derived.Test.YtebbjimmgblcpaaRB3

section
/- FeedTokens: the walk. Conditions: none. -/
namespace Go.Proofs.Ytebbjimmgblcpaa.W
open Go Go.AM FeedM
set_option linter.unusedVariables false
set_option maxRecDepth 100000

theorem optW_some {α : Type} {v : α} {K : α → Prop} : optW (some v) K = K v := rfl
theorem newW_eq {o : AObj} {h : AH} {K : Nat → AH → Prop} : newW none o h K = K h.length (h ++ [o]) := rfl
theorem cat_eq {l m : List UInt8} (h : l.length + m.length < 9223372036854775808) : pBin Try.prog .add 9 (.string (bs l)) (.string (bs m)) = some (.string (bs (l ++ m))) := hopt (w_cat h rfl)

theorem tokens6 (h : AH) (a : Int) (_ : I64 a) (v1 : Value) (ns : List Int) (i1 : Ints h v1 ns) (_ : ∀ n ∈ ns, I64 n) (v2 : Value) (ws : List Int) (i2 : Ints h v2 ws) (_ : ∀ n ∈ ws, I64 n) (gap : Int) (_ : I64 gap) (at_ : Int) (_ : I64 at_) (bn : Int) (_ : U8 bn) (raw : List UInt8) (_ : raw.length ≤ maxLen) (hm : h.length = 2) :
    callW Try.prog 6 [.int .i64 a, v1, v2, .int .i64 gap, .int .i64 at_, .int .u8 bn, .string (bs raw)] h fun v _ => v = .bool true := by
  refine c6 ?_
  unfold s6
  refine known13 (.inr (.inl hm)) fun h1 x1 => ?_
  refine w_notb (c_f ?_)
  have mx : (10000000 : Nat) < room40 := big40
  refine w_lenStr (w_gtr (c_dec (fun _ => rfl) (fun q1 => ?_)))
  refine syms14 (i1.ex x1) fun vl h2 l x2 hl lc => ?_
  obtain ⟨l0, l7⟩ := small_choices l lc
  have ok0 := okSy_choices l lc
  refine word17 hl (i2.ex (x1.trans x2)) l0 (by omega) (by decide) fun vw h3 x3 ow => ?_
  have wl := wordOf_len l.length ws 30
  have win := wordOf_in l0 ws 30
  generalize wordOf l.length ws 30 = w at *
  have hl3 := hl.ex x3
  refine text16 hl3 (names1 l lc) ow.sl win (by omega) fun h4 s x4 tx sl => ?_
  refine turned19 (by omega) fun h5 s' x5 sl' => ?_
  have hlt : s.length + raw.length < 9223372036854775808 := by omega
  rw [cat_eq hlt, optW_some, bld20 s s' raw, optW_some, newW_eq]
  generalize hH : h5 ++ [AObj.row (flat eS (rows20 s s' raw)) true] = h6
  obtain ⟨ts, hS, hts⟩ : ∃ ts : List (List UInt8), SlT 1 eS h6 (.slice (some ⟨h5.length, 0, none⟩) 20 20) ts ∧ (ts.length = 20 ∧ ∀ t ∈ ts, t.length ≤ 10000) := by
    refine ⟨rows20 s s' raw, ?_, rows20_len _ _ _, ?_⟩
    · rw [← hH]
      exact strs_new rfl (rows20_len _ _ _).symm (by rw [rows20_len]; omega)
    · intro t ht
      unfold rows20 at ht
      rcases List.mem_cons.1 ht with rfl | ht
      · omega
      rcases List.mem_cons.1 ht with rfl | ht
      · omega
      rcases List.mem_cons.1 ht with rfl | ht
      · omega
      rcases List.mem_cons.1 ht with rfl | ht
      · rw [List.length_append]; omega
      · have : ∀ t ∈ lits, t.length ≤ 100 := by decide
        have := this t ht
        omega
  obtain ⟨tl, tb⟩ := hts
  have x6 : Ex h5 h6 := by rw [← hH]; exact .app _ _
  have hl6 := hl3.ex ((x4.trans x5).trans x6)
  have ow6 : Ints h6 vw w := Sl.ex ow.sl ((x4.trans x5).trans x6)
  clear hH
  refine loopE_intro (fun m e h' => ∃ i : Nat, i ≤ 20 ∧ m = 20 - i ∧ e 15 = vl ∧ e 16 = vw ∧ e 17 = .string (bs s) ∧ e 18 = .slice (some ⟨h5.length, 0, none⟩) 20 20 ∧ e 19 = .int .i64 i ∧ Ex h6 h') 20
    ⟨0, Nat.zero_le _, rfl, rfl, rfl, rfl, rfl, rfl, Ex.refl _⟩ ?_
  rintro I m e h' ⟨i, hi, hmm, e15, e16, e17, e18, e19, hx⟩ hI
  rw [e15, e16, e17, e18, e19]
  refine w_lenSl (w_lss (c_dec (fun q2 => ?_) (fun q2 => ?_)))
  · obtain ⟨t, ht⟩ := getElem?_of_lt (l := ts) (i := i) (by omega)
    have htl := tb t (List.mem_of_getElem? ht)
    obtain ⟨_, S⟩ := sim_tok l (by omega) t htl
    have next : ∀ (e' : Env) (h2 : AH), Ex h' h2 → e' 15 = vl → e' 16 = vw → e' 17 = .string (bs s) → e' 18 = .slice (some ⟨h5.length, 0, none⟩) 20 20 → e' 19 = .int .i64 ((i : Int) + 1) → I e' h2 :=
      fun e' h2 y f15 f16 f17 f18 f19 => hI (m - 1) _ _ (by omega) ⟨i + 1, by omega, by omega, f15, f16, f17, f18, f19, hx.trans y⟩
    refine w_idxN (enc := eS) eS_len (hS.ex hx) ht fun p hp => w_rd1 hp rfl ?_
    refine tokens28 (hl6.ex hx) (by omega) (by omega) ?_ ?_
    · intro h7 x7 hne
      have hne2 : (rtok l t).err ≠ 0 := by rw [← S.e]; exact hne
      refine w_some rfl (w_some rfl (w_some rfl ?_))
      refine w_idxN (enc := eS) eS_len (hS.ex (hx.trans x7)) ht fun p hp => w_rd1 hp rfl ?_
      refine tokens29 (hl6.ex (hx.trans x7)) (by omega) htl ?_ (fun h8 v x8 he => (hne2 he).elim)
      intro h8 x8 _
      refine w_some rfl (w_some rfl (w_some rfl (w_neq ?_)))
      have n1 : ¬ ¬ (tokSt l t).e = (rtok l t).err := fun h => h S.e
      have n2 : ¬ ¬ (tokSt l t).place = (rtok l t).fail := fun h => h S.pl
      refine g_ff n1 (g_ff n1 (g_ff n1 (w_neq (pk_ff n1 ?_))))
      refine g_ff n2 (g_ff n2 (g_ff n2 ?_))
      refine ints30 SlT.nil SlT.nil (by decide) ?_
      refine g_ff n2 (w_not (pk_ff n2 (c_ff (fun h => h rfl) ?_)))
      refine w_add (by omega) (by omega) ?_
      exact next _ _ (x7.trans x8) e15 e16 e17 e18 rfl
    · intro h7 v x7 he hv
      have he2 : (rtok l t).err = 0 := by rw [← S.e]; exact he
      refine w_some rfl (w_some rfl (w_some rfl ?_))
      refine w_idxN (enc := eS) eS_len (hS.ex (hx.trans x7)) ht fun p hp => w_rd1 hp rfl ?_
      refine tokens29 (hl6.ex (hx.trans x7)) (by omega) htl (fun h8 x8 hne => (hne he2).elim) ?_
      intro h8 v' x8 _ hv'
      rw [← S.w] at hv'
      refine w_some rfl (w_some rfl (w_some rfl (w_neq ?_)))
      have n1 : ¬ ¬ (0 : Int) = 0 := fun h => h rfl
      refine g_ff n1 (g_ff n1 (g_ff n1 (w_neq (pk_ff n1 ?_))))
      refine g_ff n1 (g_ff n1 (g_ff n1 ?_))
      have twb : (tokSt l t).word.length < room40 := by
        have := hv.1
        have f0 : Fit (FeedM.new l m0 9223372036854775807) (5 * t.length + 10) := Fit.new (by decide) (by decide) (by omega) (by omega)
        have f1 := Fit.write f0
        have fa : Fit (FeedM.shut1 (FeedM.write (FeedM.new l m0 9223372036854775807) t)) 0 := by
          unfold FeedM.shut1
          split
          · exact (f1.mono (c := 0 + 2) (by omega)).ended
          · exact f1.mono (by omega)
        have fb : Fit (FeedM.shut2 (FeedM.shut1 (FeedM.write (FeedM.new l m0 9223372036854775807) t))) 0 := by
          unfold FeedM.shut2
          split
          · exact fa
          · exact fa.wrong
        exact fb.wb
      refine ints30 (hv.ex x8) hv' twb ?_
      refine g_ff n1 (w_not (pk_ff n1 (c_ff (fun h => h rfl) ?_)))
      refine w_add (by omega) (by omega) ?_
      exact next _ _ (x7.trans x8) e15 e16 e17 e18 rfl
  · obtain ⟨t1, t2⟩ := tok_ok ok0 tx (by omega)
    refine tokens28 (hl6.ex hx) (by omega) (by omega) (fun h14 x14 hne => (hne t1).elim) fun h14 v x14 _ hv => ?_
    rw [t2] at hv
    have z0 : (0 : Int) = 0 := rfl
    refine w_some rfl (w_some rfl (w_some rfl (w_eql ?_)))
    refine g_tt z0 (g_tt z0 (g_tt z0 ?_))
    refine ints30 hv (ow6.ex (hx.trans x14)) (by omega) ?_
    refine pk_tt z0 ?_
    rw [decide_eq_true rfl]
end Go.Proofs.Ytebbjimmgblcpaa.W
end
