/- FeedCuts: the walk. Conditions: none. -/
import Derived.Test.YtebbjimmgblcpaaQF31
namespace Go.Proofs.Ytebbjimmgblcpaa.W
open Go Go.AM FeedM
set_option linter.unusedVariables false
set_option maxRecDepth 100000

theorem w_beqs {c : Bool} {K : Value → Prop} (k : K (.bool true)) : optW (pBin Try.prog .eql 4 (.bool c) (.bool c)) K := by
  refine w_some (v := .bool true) ?_ k
  cases c <;> rfl

theorem take_piece {α : Type} (s : List α) {a b : Nat} (h : a ≤ b) : s.take a ++ (s.drop a).take (b - a) = s.take b := by
  have : b = a + (b - a) := by omega
  conv => rhs; rw [this, List.take_add]

theorem cuts4 (h : AH) (a : Int) (_ : I64 a) (size : Int) (hs : I64 size) (v1 : Value) (ns : List Int) (i1 : Ints h v1 ns) (_ : ∀ n ∈ ns, I64 n) (v2 : Value) (ws : List Int) (i2 : Ints h v2 ws) (_ : ∀ n ∈ ws, I64 n) (dp : Int) (_ : I64 dp) (gap : Int) (_ : I64 gap)
    (raw : List UInt8) (_ : raw.length ≤ maxLen) (v3 : Value) (cs : List Int) (i3 : Ints h v3 cs) (_ : ∀ n ∈ cs, I64 n) (hm : h.length = 3) :
    callW Try.prog 4 [.int .i64 a, .int .i64 size, v1, v2, .int .i64 dp, .int .i64 gap, .string (bs raw), v3] h fun v _ => v = .bool true := by
  refine c4 ?_
  unfold s4
  refine known13 (.inr (.inr hm)) fun h1 x1 => ?_
  refine w_notb (c_f ?_)
  have mx : (10000000 : Nat) < room40 := big40
  refine w_lenStr (w_gtr (c_dec (fun _ => rfl) (fun q1 => ?_)))
  refine syms14 (i1.ex x1) fun vl h2 l x2 hl lc => ?_
  obtain ⟨l0, l7⟩ := small_choices l lc
  have ok0 := okSy_choices l lc
  refine one15 hl (by omega) hs (i1.ex (x1.trans x2)) fun h3 vm m x3 mv ok ne => ?_
  refine boxA mv fun h4' h4 x4 bx l4 => ?_
  have hl4 := hl.ex (x3.trans x4)
  have x14 := ((x1.trans x2).trans x3).trans x4
  refine word17 hl4 (i2.ex x14) l0 (by omega) (by decide) fun vw h5 x5 ow => ?_
  have wl := wordOf_len l.length ws 7
  have win := wordOf_in l0 ws 7
  generalize wordOf l.length ws 7 = w at *
  refine text16 (hl4.ex x5) (names1 l lc) ow.sl win (by omega) fun h6 s0 x6 tx sl => ?_
  refine w_cat (by omega) ?_
  have sl2 : (s0 ++ raw).length ≤ 200 := by rw [List.length_append]; omega
  generalize s0 ++ raw = s at *
  refine opens20 (by omega) fun n1 => w_gtr (c_dec (fun _ => rfl) (fun q2 => ?_))
  refine within18 _ _ _ _ (by decide) (by decide) ?_
  generalize dp % 6 = d
  have bx6 := bx.ex (x5.trans x6)
  have hl6 := hl4.ex (x5.trans x6)
  refine bx6.rd fun v63 mv1 => ?_
  refine newM hl6 mv1 lc ok fun h7 f F x7 rf lowf => ?_
  have l6 : h3.length < h6.length := by have := x5.len; have := x6.len; omega
  refine ⟨idp x7 l6, ?_⟩
  refine (bx6.ex x7).rd fun v67 mv2 => ?_
  refine newM (hl6.ex x7) mv2 lc ok fun h8 g G x8 rg lowg => ?_
  refine ⟨idp x8 (by have := x7.len; omega), idp x7 l6, ?_⟩
  refine (bx6.ex (x7.trans x8)).rd fun v71 mv3 => ?_
  refine newM (hl6.ex (x7.trans x8)) mv3 lc ok fun h9 q Q x9 rq lowq => ?_
  have k7 := x7.len; have k8 := x8.len; have k9 := x9.len
  have lf := rf.lt
  have lg := rg.lt
  have lq := rq.lt
  have dfg : ∀ j, F j → ¬ G j := fun j h1 h2 => by have := lf j h1; have := lowg j h2; omega
  have dfq : ∀ j, F j → ¬ Q j := fun j h1 h2 => by have := lf j h1; have := lowq j h2; omega
  have dgq : ∀ j, G j → ¬ Q j := fun j h1 h2 => by have := lg j h1; have := lowq j h2; omega
  refine w_some rfl (gc_ff (gc_ff (w_some rfl (pk_f (gc_ff (gc_ff (w_some rfl (pk_f (c_f ?_)))))))))
  have f0 := fit_mk lc ok d
  have icl : ∀ t, (FeedM.write (FeedM.new l m d) t).closed = false := fun t => by rw [write_closed]; rfl
  have fit : ∀ n, Fit (FeedM.write (FeedM.new l m d) (s.take n)) 100000 := fun n => Fit.write (f0.mono (by rw [List.length_take]; omega))
  have hlow : ∀ j, (F j ∨ G j ∨ Q j) → h6.length ≤ j := fun j hj => by
    rcases hj with h | h | h
    · exact lowf j h
    · have := lowg j h; omega
    · have := lowq j h; omega
  have i36 := i3.ex ((x14.trans x5).trans x6)
  have rf9 := rf.ex (x8.trans x9)
  have rg9 := rg.ex x9
  have x69 := (x7.trans x8).trans x9
  refine writeS (b := 100000) rf9 (f0.mono (by omega)) rfl fun vb h10 F1 r10 c10 => ?_
  obtain ⟨g10, dfg1⟩ := rg9.other c10 dfg
  obtain ⟨q10, dfq1⟩ := rq.other c10 dfq
  have x10 : Ex h6 h10 := c10.toEx x69 fun j hj => lowf j hj
  have low10 := c10.low x69 fun j hj => lowf j hj
  refine loopE_intro (fun m' e h' => ∃ (i : Nat) (F' G' : Nat → Prop), i ≤ s.length ∧ m' = s.length - i ∧ e 7 = v3 ∧ e 19 = .string (bs s) ∧ e 21 = .pointer (some ⟨f, 0, none⟩) ∧ e 22 = .pointer (some ⟨g, 0, none⟩) ∧ e 23 = .pointer (some ⟨q, 0, none⟩) ∧ e 24 = .int .i64 i ∧
    Ex h6 h' ∧ (∀ j, G' j → h6.length ≤ j) ∧ FR h' f (FeedM.write (FeedM.new l m d) s) F1 ∧ FR h' g (FeedM.write (FeedM.new l m d) (s.take i)) G' ∧ FR h' q (FeedM.new l m d) Q ∧ (∀ j, F1 j → ¬ G' j) ∧ (∀ j, F1 j → ¬ Q j) ∧ (∀ j, G' j → ¬ Q j)) s.length
    ⟨0, F1, G, Nat.zero_le _, rfl, rfl, rfl, rfl, rfl, rfl, rfl, x10, (fun j hj => hlow j (.inr (.inl hj))), r10, g10, q10, dfg1, dfq1, dgq⟩ ?_
  rintro I mm e h' ⟨i, F', G', hi, hmm, e7, e19, e21, e22, e23, e24, hx, lowG, r1, r2, r3, d1, d2, d3⟩ hI
  rw [e19, e22, e24]
  refine w_lenStr (w_lss (c_dec (fun qq => ?_) (fun qq => ?_)))
  · obtain ⟨c, hc⟩ := getElem?_of_lt (l := s) (i := i) (by omega)
    refine w_idxStr (by omega) hc ?_
    refine w_some (bldSl_one rfl (by decide) rfl rfl) ?_
    refine n_new ?_
    refine writeB (b := 1000) rfl r2 ((fit i).mono (by omega)) (icl _) fun h8' G8 r8 c8 => ?_
    rw [write_snoc _ s i c hc] at r8
    obtain ⟨s1, d1'⟩ := r1.other c8 fun j h1 h2 => d1 j h2 h1
    obtain ⟨s3, d3'⟩ := r3.other c8 d3
    refine w_add (by omega) (by omega) ?_
    exact hI (mm - 1) _ _ (by omega) ⟨i + 1, F', G8, by omega, by omega, e7, e19, e21, e22, e23, rfl, c8.toEx hx lowG, c8.low hx lowG, s1, r8, s3, fun j h1 h2 => d1' j h2 h1, d2, d3'⟩
  rw [List.take_of_length_le (by omega)] at r2
  have fz : Fit (FeedM.write (FeedM.new l m d) s) 100000 := Fit.write (f0.mono (by omega))
  have lowQ : ∀ j, Q j → h6.length ≤ j := fun j hj => hlow j (.inr (.inr hj))
  refine loopE_intro (fun m' e h' => ∃ (i from_ : Nat) (Q' : Nat → Prop), i ≤ cs.length ∧ i ≤ 8 ∧ from_ ≤ s.length ∧ m' = cs.length - i ∧ e 7 = v3 ∧ e 19 = .string (bs s) ∧ e 21 = .pointer (some ⟨f, 0, none⟩) ∧ e 22 = .pointer (some ⟨g, 0, none⟩) ∧ e 23 = .pointer (some ⟨q, 0, none⟩) ∧ e 25 = .int .i64 from_ ∧ e 26 = .int .i64 i ∧
    Ex h6 h' ∧ (∀ j, Q' j → h6.length ≤ j) ∧ FR h' f (FeedM.write (FeedM.new l m d) s) F1 ∧ FR h' g (FeedM.write (FeedM.new l m d) s) G' ∧ FR h' q (FeedM.write (FeedM.new l m d) (s.take from_)) Q' ∧ (∀ j, F1 j → ¬ G' j) ∧ (∀ j, F1 j → ¬ Q' j) ∧ (∀ j, G' j → ¬ Q' j)) cs.length
    ⟨0, 0, Q, Nat.zero_le _, Nat.zero_le _, Nat.zero_le _, rfl, e7, e19, e21, e22, e23, rfl, rfl, hx, lowQ, r1, r2, r3, d1, d2, d3⟩ ?_
  clear hI
  rintro I1 mm1 e1 h' ⟨i, from_, Q', hi, hi8, hfr, hmm1, e7, e19, e21, e22, e23, e25, e26, hx, lowQ', r1, r2, r3, d1, d2, d3⟩ hI
  rw [e7, e19, e21, e22, e23, e25, e26]
  have fin : optW (pSliceStr (.string (bs s)) (some (.int .i64 from_)) none) fun v133 => v133 = .string (bs (s.drop from_)) := by
    refine w_dropStr (by omega) (by omega) ?_
    rfl
  have hfin := hopt fin
  have tailq : ∀ (K : Value → Prop), K (.string (bs (s.drop from_))) → optW (pSliceStr (.string (bs s)) (some (.int .i64 from_)) none) K := fun K k => w_some hfin k
  refine w_len i36 (w_lss ?_)
  by_cases p1 : (i : Int) < (cs.length : Nat)
  · refine g_tt p1 (g_tt p1 (w_lss (pk_tt p1 ?_)))
    refine c_dec (fun p2 => ?_) (fun p2 => ?_)
    · obtain ⟨z, hz⟩ := getElem?_of_lt (l := cs) (i := i) (by omega)
      refine w_idxN eI_len (i36.ex hx) hz fun p hp => w_rd1 hp rfl ?_
      refine w_lenStr (w_sub (by omega) (by omega) (w_add (by omega) (by omega) ?_))
      refine within18 _ _ _ _ (by omega) (by omega) ?_
      have t0 : 0 ≤ z % (((s.length : Nat) : Int) - from_ + 1) := Int.emod_nonneg _ (by omega)
      have t1 : z % (((s.length : Nat) : Int) - from_ + 1) < ((s.length : Nat) : Int) - from_ + 1 := Int.emod_lt_of_pos _ (by omega)
      generalize z % (((s.length : Nat) : Int) - from_ + 1) = t at *
      refine w_add (by omega) (by omega) ?_
      refine w_subStr (by omega) (by omega) (by omega) ?_
      have ea : ((from_ : Nat) : Int).toNat = from_ := by omega
      obtain ⟨to_, hto⟩ : ∃ to_ : Nat, (from_ : Int) + t = to_ := ⟨((from_ : Int) + t).toNat, by omega⟩
      have eb : ((from_ : Int) + t).toNat = to_ := by omega
      rw [ea, eb]
      have hlp : ((s.drop from_).take (to_ - from_)).length ≤ 200 := by rw [List.length_take, List.length_drop]; omega
      refine writeS (b := 1000) r3 ((fit from_).mono (by omega)) (icl _) fun vb2 h12 Q2 r12 c12 => ?_
      rw [← write_app, take_piece s (by omega)] at r12
      obtain ⟨s1, d2'⟩ := r1.other c12 fun j h1 h2 => d2 j h2 h1
      obtain ⟨s2, d3'⟩ := r2.other c12 fun j h1 h2 => d3 j h2 h1
      refine w_add (by omega) (by omega) ?_
      exact hI (mm1 - 1) _ _ (by omega) ⟨i + 1, to_, Q2, by omega, by omega, by omega, by omega, e7, e19, e21, e22, e23, (by show Value.int .i64 _ = Value.int .i64 _; rw [hto]), rfl, c12.toEx hx lowQ', c12.low hx lowQ', s1, s2, r12, d1, fun j h1 h2 => d2' j h2 h1, fun j h1 h2 => d3' j h2 h1⟩
    · refine tailq _ ?_
      refine writeS (b := 1000) r3 ((fit from_).mono (by rw [List.length_drop]; omega)) (icl _) fun vb2 h12 Q2 r12 c12 => ?_
      rw [← write_app, List.take_append_drop] at r12
      obtain ⟨s1, d2'⟩ := r1.other c12 fun j h1 h2 => d2 j h2 h1
      obtain ⟨s2, d3'⟩ := r2.other c12 fun j h1 h2 => d3 j h2 h1
      refine close24 s1 (fz.mono (c := 1000 + 2) (by omega)) (icl _) fun h13 F13 b1 r13 c13 hb1 => ?_
      obtain ⟨y2, _⟩ := s2.other c13 d1
      obtain ⟨y3, _⟩ := r12.other c13 fun j h1 h2 => d2' j h2 h1
      refine w_some rfl (w_some rfl (w_some rfl ?_))
      refine close24 y2 (fz.mono (c := 1000 + 2) (by omega)) (icl _) fun h14 F14 b2 r14 c14 hb2 => ?_
      obtain ⟨y4, _⟩ := y3.other c14 fun j h1 h2 => d3' j h2 h1
      refine w_some rfl (w_some rfl (w_some rfl ?_))
      refine close24 y4 (fz.mono (c := 1000 + 2) (by omega)) (icl _) fun h15 F15 b3 r15 c15 hb3 => ?_
      refine w_some rfl (w_some rfl (w_some rfl ?_))
      have e2 : b2 = b1 := Bool.eq_iff_iff.2 (hb2.trans hb1.symm)
      have e3' : b3 = b1 := Bool.eq_iff_iff.2 (hb3.trans hb1.symm)
      subst e2 e3'
      have zp : (FeedM.shut (FeedM.write (FeedM.new l m d) s)).place = (FeedM.shut (FeedM.write (FeedM.new l m d) s)).place := rfl
      have ze : (FeedM.shut (FeedM.write (FeedM.new l m d) s)).e = (FeedM.shut (FeedM.write (FeedM.new l m d) s)).e := rfl
      refine w_beqs (gc_tt (gc_tt (gc_tt (w_beqs (pk_t ?_)))))
      refine gc_tt (gc_tt (gc_tt (w_eql (pk_t ?_))))
      refine g_tt zp (g_tt zp (g_tt zp (w_eql (pk_tt zp ?_))))
      refine g_tt zp (g_tt zp (g_tt zp (w_eql (pk_tt zp ?_))))
      refine g_tt ze (g_tt ze (g_tt ze (w_eql (pk_tt ze ?_))))
      rw [decide_eq_true ze]
  · refine g_tf p1 (g_tf p1 (pk_ff p1 (c_f ?_)))
    refine tailq _ ?_
    refine writeS (b := 1000) r3 ((fit from_).mono (by rw [List.length_drop]; omega)) (icl _) fun vb2 h12 Q2 r12 c12 => ?_
    rw [← write_app, List.take_append_drop] at r12
    obtain ⟨s1, d2'⟩ := r1.other c12 fun j h1 h2 => d2 j h2 h1
    obtain ⟨s2, d3'⟩ := r2.other c12 fun j h1 h2 => d3 j h2 h1
    refine close24 s1 (fz.mono (c := 1000 + 2) (by omega)) (icl _) fun h13 F13 b1 r13 c13 hb1 => ?_
    obtain ⟨y2, _⟩ := s2.other c13 d1
    obtain ⟨y3, _⟩ := r12.other c13 fun j h1 h2 => d2' j h2 h1
    refine w_some rfl (w_some rfl (w_some rfl ?_))
    refine close24 y2 (fz.mono (c := 1000 + 2) (by omega)) (icl _) fun h14 F14 b2 r14 c14 hb2 => ?_
    obtain ⟨y4, _⟩ := y3.other c14 fun j h1 h2 => d3' j h2 h1
    refine w_some rfl (w_some rfl (w_some rfl ?_))
    refine close24 y4 (fz.mono (c := 1000 + 2) (by omega)) (icl _) fun h15 F15 b3 r15 c15 hb3 => ?_
    refine w_some rfl (w_some rfl (w_some rfl ?_))
    have e2 : b2 = b1 := Bool.eq_iff_iff.2 (hb2.trans hb1.symm)
    have e3' : b3 = b1 := Bool.eq_iff_iff.2 (hb3.trans hb1.symm)
    subst e2 e3'
    have zp : (FeedM.shut (FeedM.write (FeedM.new l m d) s)).place = (FeedM.shut (FeedM.write (FeedM.new l m d) s)).place := rfl
    have ze : (FeedM.shut (FeedM.write (FeedM.new l m d) s)).e = (FeedM.shut (FeedM.write (FeedM.new l m d) s)).e := rfl
    refine w_beqs (gc_tt (gc_tt (gc_tt (w_beqs (pk_t ?_)))))
    refine gc_tt (gc_tt (gc_tt (w_eql (pk_t ?_))))
    refine g_tt zp (g_tt zp (g_tt zp (w_eql (pk_tt zp ?_))))
    refine g_tt zp (g_tt zp (g_tt zp (w_eql (pk_tt zp ?_))))
    refine g_tt ze (g_tt ze (g_tt ze (w_eql (pk_tt ze ?_))))
    rw [decide_eq_true ze]
end Go.Proofs.Ytebbjimmgblcpaa.W
