/- FeedSoon: the walk. Conditions: none. -/
import Derived.Test.YtebbjimmgblcpaaQF22
import Derived.Test.YtebbjimmgblcpaaQS1
namespace Go.Proofs.Ytebbjimmgblcpaa.W
open Go Go.AM FeedM
set_option linter.unusedVariables false
set_option maxRecDepth 100000

theorem w_bneq {p q : Prop} [Decidable p] [Decidable q] {K : Value → Prop} (k : K (.bool (decide (¬ (p ↔ q))))) : optW (pBin Try.prog .neq 4 (.bool (decide p)) (.bool (decide q))) K := by
  refine w_some (v := .bool (decide (¬ (p ↔ q)))) ?_ k
  by_cases h1 : p <;> by_cases h2 : q <;> simp [h1, h2] <;> rfl
theorem wordOf_len (n : Nat) (ns : List Int) (most : Nat) : (wordOf n ns most).length ≤ most := by
  unfold wordOf
  rw [List.length_map, List.length_take]
  omega
theorem wordOf_in {n : Nat} (hn : 0 < n) (ns : List Int) (most : Nat) : ∀ k ∈ wordOf n ns most, 0 ≤ k ∧ k < (n : Int) := by
  intro k hk
  unfold wordOf at hk
  obtain ⟨x, _, rfl⟩ := List.mem_map.1 hk
  exact ⟨Int.emod_nonneg _ (by omega), Int.emod_lt_of_pos _ (by omega)⟩
theorem names1 : ∀ l ∈ symChoices, ∀ x ∈ l, x.1.length = 1 := by decide

theorem strs_new {h : AH} {l : List (List UInt8)} {n : Nat} {c : List Value} (hc : c = flat eS l) (hn : n = l.length) (hl : l.length < 100) : SlT 1 eS (h ++ [.row c true]) (.slice (some ⟨h.length, 0, none⟩) n n) l := by
  subst hc hn
  refine ⟨flat_length eS_len l, .inr ⟨h.length, 0, _, rfl, .inl ⟨?_, Nat.le_refl _⟩, .inr ⟨_, true, get_new _ _, ?_, ?_⟩⟩⟩
  · have : (100 : Nat) < openCap := by decide
    omega
  · rw [flat_length eS_len]; omega
  · rw [List.drop_zero]
    have := flat_length eS_len l
    rw [← this, List.take_length]

theorem soon9 (h : AH) (a : Int) (_ : I64 a) (v1 : Value) (ns : List Int) (i1 : Ints h v1 ns) (_ : ∀ n ∈ ns, I64 n) (v2 : Value) (ws : List Int) (i2 : Ints h v2 ws) (_ : ∀ n ∈ ws, I64 n) (g : Int) (_ : I64 g) (wh : Int) (_ : I64 wh) (hm : h.length = 2) :
    callW Try.prog 9 [.int .i64 a, v1, v2, .int .i64 g, .int .i64 wh] h fun v _ => v = .bool true := by
  refine c9 ?_
  unfold s9
  refine known13 (.inr (.inl hm)) fun h1 x1 => ?_
  refine w_notb (c_f ?_)
  refine syms14 (i1.ex x1) fun vl h2 l x2 hl lc => ?_
  obtain ⟨l0, l7⟩ := small_choices l lc
  refine word17 hl (i2.ex (x1.trans x2)) l0 (by omega) (by decide) fun vw h3 x3 ow => ?_
  have wl := wordOf_len l.length ws 12
  have win := wordOf_in l0 ws 12
  generalize wordOf l.length ws 12 = w at *
  refine text16 (hl.ex x3) (names1 l lc) ow.sl win (by omega) fun h4 s x4 tx sl => ?_
  refine w_cat (by simp; omega) ?_
  refine within18 _ _ _ _ (by decide) (by decide) ?_
  have q7 : 0 ≤ wh % 7 ∧ wh % 7 < 7 := ⟨Int.emod_nonneg _ (by decide), Int.emod_lt_of_pos _ (by decide)⟩
  refine w_some rfl ?_
  refine n_new ?_
  generalize hH : h4 ++ [AObj.row _ true] = h5
  have hS : SlT 1 eS h5 (.slice (some ⟨h4.length, 0, none⟩) 7 7) soonTs := by rw [← hH]; exact strs_new rfl rfl (by decide)
  have x5 : Ex h4 h5 := by rw [← hH]; exact .app _ _
  obtain ⟨t, ht⟩ := getElem?_of_lt (l := soonTs) (i := (wh % 7).toNat) (by show _ < 7; omega)
  have htm := List.mem_of_getElem? ht
  refine w_idxT (enc := eS) eS_len hS q7.1 ht fun p hp => w_rd1 hp rfl ?_
  have hl5 := hl.ex ((x3.trans x4).trans x5)
  refine eachA hl5 lc fun h6 vm x6 mv => ?_
  refine newE (hl5.ex x6) mv lc fun h6' f F x6' r6 low6 => ?_
  refine w_some rfl (c_f ?_)
  have f0 := fit_each lc 100
  have pr : Good l (eachM l) 100 w ((s.length : Nat) + 1) (FeedM.write (FeedM.new l (eachM l) 100) (s ++ [32])) := by
    have p := text_pre (m := eachM l) (d := 100) (okSy_choices l lc) tx (Low.of_len (by omega))
    rw [write_app, write_cons p.e, write_nil]
    exact blank_pre p (.inl rfl)
  have sl1 : (s ++ [32]).length = s.length + 1 := by simp
  refine writeS (b := 1000) r6 (f0.mono (by omega)) rfl fun vb h7 F7 r7 c7 => ?_
  have f7 : Fit (FeedM.write (FeedM.new l (eachM l) 100) (s ++ [32])) 1000 := Fit.write (f0.mono (by omega))
  refine w_some rfl (w_some rfl (w_neq ?_))
  rw [pr.e]
  refine c_ff (fun h => h rfl) ?_
  obtain ⟨q1, q2, q3⟩ := soon_at lc t htm _ pr.hl pr.s pr.e
  have hrd := pr.read
  have hcl := pr.closed
  have tl : t.length ≤ 10 := by
    have : ∀ t ∈ soonTs, t.length ≤ 10 := by decide
    exact this t htm
  generalize FeedM.write (FeedM.new l (eachM l) 100) (s ++ [32]) = st at *
  refine loopE_intro (fun m e h' => ∃ (i : Nat) (F' : Nat → Prop), i ≤ t.length ∧ m = t.length - i ∧ e 12 = .string (bs (s ++ [32])) ∧ e 14 = .string (bs t) ∧ e 15 = .pointer (some ⟨f, 0, none⟩) ∧ e 18 = .int .i64 i ∧
    FR h' f (FeedM.write st (t.take i)) F') t.length ⟨0, F7, Nat.zero_le _, rfl, rfl, rfl, rfl, rfl, r7⟩ ?_
  rintro I m e h' ⟨i, F', hi, hmm, e12, e14, e15, e18, r'⟩ hI
  rw [e12, e14, e15, e18]
  refine w_lenStr (w_lss ?_)
  refine c_dec (fun q => ?_) (fun q => rfl)
  have hit : i < t.length := by omega
  obtain ⟨c, hc⟩ := getElem?_of_lt hit
  refine w_idxStr (by omega) hc ?_
  refine w_some (bldSl_one rfl (by decide) rfl rfl) ?_
  refine n_new ?_
  have fi : Fit (FeedM.write st (t.take i)) (5 + 100) := Fit.write (f7.mono (by rw [List.length_take]; omega))
  refine writeB (b := 100) rfl r' fi (by rw [write_closed, hcl]) fun h8 F8 r8 c8 => ?_
  rw [write_snoc st t i c hc] at r8 ⊢
  refine w_some rfl (w_some rfl (w_eql (w_add (by omega) (by omega) (w_lenStr (w_lss ?_)))))
  refine w_bneq ?_
  by_cases qq : i + 1 < t.length
  · have e0 := write_e0 q1 qq
    have n1 : ¬ ¬ (((FeedM.write st (t.take (i + 1))).e = 0) ↔ ((i : Int) + 1 < (t.length : Nat))) := fun h => h ⟨fun _ => by omega, fun _ => e0⟩
    have n2 : ¬ ¬ ((FeedM.write st (t.take (i + 1))).e = 0) := fun h => h e0
    refine g_ff n1 (g_ff n1 (w_neq (g_ff n1 ?_)))
    refine g_tf n2 (g_tf n2 (g_tf n2 ?_))
    iterate 4 refine g_un ?_
    refine g_tf n2 (g_ff n1 (pk_ff n2 (pk_ff n1 (c_f ?_))))
    refine w_add (by omega) (by omega) ?_
    exact hI (m - 1) _ _ (by omega) ⟨i + 1, F8, by omega, by omega, e12, e14, e15, rfl, r8⟩
  · have ei : i + 1 = t.length := by omega
    have et : t.take (i + 1) = t := by rw [ei, List.take_length]
    rw [et, q2, q3, hrd]
    have n1 : ¬ ¬ (((12 : Int) = 0) ↔ ((i : Int) + 1 < (t.length : Nat))) := fun h => h ⟨fun h => by omega, fun h => by omega⟩
    have n2 : ¬ (12 : Int) = 0 := by decide
    have n3 : ¬ ¬ (12 : Int) = 12 := fun h => h rfl
    refine g_ff n1 (g_ff n1 (w_neq (g_ff n1 ?_)))
    refine g_tt n2 (g_tt n2 (w_neq (g_tt n2 ?_)))
    refine g_ff n3 (g_ff n3 (g_ff n3 (w_lenStr (g_ff n3 (w_neq ?_)))))
    refine g_tt n2 (pk_ff n3 (g_ff n1 (pk_tt n2 (pk_ff n1 ?_))))
    exact c_ff (fun h => h (by rw [sl1]; omega)) (by
      refine w_add (by omega) (by omega) ?_
      exact hI (m - 1) _ _ (by omega) ⟨i + 1, F8, by omega, by omega, e12, e14, e15, rfl, by rw [et] at r8 ⊢; exact r8⟩)
end Go.Proofs.Ytebbjimmgblcpaa.W
