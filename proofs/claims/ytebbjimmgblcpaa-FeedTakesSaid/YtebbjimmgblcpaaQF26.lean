/- FeedApart: the walk. Conditions: none. -/
import Derived.Test.YtebbjimmgblcpaaQF24
namespace Go.Proofs.Ytebbjimmgblcpaa.W
open Go Go.AM FeedM
set_option linter.unusedVariables false
set_option maxRecDepth 100000

theorem FR.still {h h' : AH} {f : Nat} {st : FS} {F : Nat → Prop} (r : FR h f st F) (hl : h.length ≤ h'.length) (hk : ∀ j, F j → h'[j]? = h[j]?) : FR h' f st F := by
  obtain ⟨V, h1, b⟩ := r
  refine ⟨V, (hk f b.ff).trans h1, b.same hl (fun j hj => hk j (b.rF j hj)) fun j hj => hk j ?_⟩
  rcases hj with h | h | h
  · exact (b.s.on h).1
  · exact (b.word.on h).1
  · exact (b.under.on h).1
/-- what one feed's footprint changes leaves another as it is. -/
theorem FR.other {h h' : AH} {g : Nat} {st : FS} {F F' G : Nat → Prop} (r : FR h g st G) (c : Chg F h F' h') (hd : ∀ j, F j → ¬ G j) : FR h' g st G ∧ ∀ j, F' j → ¬ G j := by
  have lt := r.lt
  refine ⟨r.still c.len fun j hj => c.get j (lt j hj) fun hF => hd j hF hj, fun j hj hG => (c.dom j hj).elim (fun hF => hd j hF hG) fun h => by have := lt j hG; omega⟩

theorem take_more {t : List UInt8} {i : Nat} (h : ¬ i < t.length) : t.take (i + 1) = t.take i := by
  rw [List.take_of_length_le (by omega), List.take_of_length_le (by omega)]

theorem shut_q (l : List Sy) (m : Mach) (d : Int) : (FeedM.shut (FeedM.write (FeedM.new l m d) [63])).e = 12 ∧ (FeedM.shut (FeedM.write (FeedM.new l m d) [63])).place = 0 := ⟨by kernel_rfl, by kernel_rfl⟩

theorem conv45 {i : Nat} {h : AH} {c : List Value} {K : Value → AH → Prop} (hi : h[i]? = some (.row c true)) (k : K (.slice (some ⟨i, 0, none⟩) 1 1) h) : convW Try.prog 45 45 (.slice (some ⟨i, 0, none⟩) 1 1) none h K := by
  show (match h[i]? with
      | some (.row _ true) => K (.slice (some ⟨i, 0, none⟩) 1 1) h
      | _ => False)
  rw [hi]
  exact k

theorem apart11 (h : AH) (a : Int) (_ : I64 a) (v1 : Value) (ns : List Int) (i1 : Ints h v1 ns) (_ : ∀ n ∈ ns, I64 n) (v2 : Value) (ws : List Int) (i2 : Ints h v2 ws) (_ : ∀ n ∈ ws, I64 n) (v3 : Value) (ms : List Int) (i3 : Ints h v3 ms) (_ : ∀ n ∈ ms, I64 n) (hm : h.length = 3) :
    callW Try.prog 11 [.int .i64 a, v1, v2, v3] h fun v _ => v = .bool true := by
  refine c11 ?_
  unfold s11
  refine known13 (.inr (.inr hm)) fun h1 x1 => ?_
  refine w_notb (c_f ?_)
  refine syms14 (i1.ex x1) fun vl h2 l x2 hl lc => ?_
  obtain ⟨l0, l7⟩ := small_choices l lc
  have ok := okSy_choices l lc
  refine word17 hl (i2.ex (x1.trans x2)) l0 (by omega) (by decide) fun vw h3 x3 ow => ?_
  have wl := wordOf_len l.length ws 10
  have win := wordOf_in l0 ws 10
  generalize wordOf l.length ws 10 = w at *
  refine text16 (hl.ex x3) (names1 l lc) ow.sl win (by omega) fun h4 s x4 tx sl => ?_
  refine word17 ((hl.ex x3).ex x4) (i3.ex (((x1.trans x2).trans x3).trans x4)) l0 (by omega) (by decide) fun vw' h5 x5 ow' => ?_
  have wl' := wordOf_len l.length ms 10
  have win' := wordOf_in l0 ms 10
  generalize wordOf l.length ms 10 = w' at *
  have hl5 := (hl.ex (x3.trans x4)).ex x5
  refine text16 hl5 (names1 l lc) ow'.sl win' (by omega) fun h6 s' x6 tx' sl' => ?_
  have hl6 := hl5.ex x6
  refine eachA hl6 lc fun h7 vm x7 mv => ?_
  refine newE (hl6.ex x7) mv lc fun h8 f F x8 rf lowf => ?_
  refine eachA (hl6.ex (x7.trans x8)) lc fun h9 vm2 x9 mv2 => ?_
  refine newE (hl6.ex ((x7.trans x8).trans x9)) mv2 lc fun h10 g G x10 rg lowg => ?_
  refine eachA (hl6.ex (((x7.trans x8).trans x9).trans x10)) lc fun h11 vm3 x11 mv3 => ?_
  refine newE (hl6.ex ((((x7.trans x8).trans x9).trans x10).trans x11)) mv3 lc fun h12 q Q x12 rq lowq => ?_
  have lf := rf.lt
  have lg := rg.lt
  have lq := rq.lt
  have k9 := x9.len; have k10 := x10.len; have k11 := x11.len; have k12 := x12.len
  have dfg : ∀ j, F j → ¬ G j := fun j h1 h2 => by have := lf j h1; have := lowg j h2; omega
  have dfq : ∀ j, F j → ¬ Q j := fun j h1 h2 => by have := lf j h1; have := lowq j h2; omega
  have dgq : ∀ j, G j → ¬ Q j := fun j h1 h2 => by have := lg j h1; have := lowq j h2; omega
  refine w_some rfl (gc_ff (gc_ff (w_some rfl (pk_f (gc_ff (gc_ff (w_some rfl (pk_f (c_f ?_)))))))))
  have f0 := fit_each lc 100
  have mx : (10000000 : Nat) < room40 := big40
  refine loopE_intro (fun m e h' => ∃ (i : Nat) (F' G' : Nat → Prop), i ≤ s.length + s'.length ∧ m = s.length + s'.length - i ∧ e 10 = .string (bs s) ∧ e 11 = .string (bs s') ∧ e 12 = .pointer (some ⟨f, 0, none⟩) ∧ e 13 = .pointer (some ⟨g, 0, none⟩) ∧ e 14 = .pointer (some ⟨q, 0, none⟩) ∧ e 15 = .int .i64 i ∧
    FR h' f (FeedM.write (FeedM.new l (eachM l) 100) (s.take i)) F' ∧ FR h' g (FeedM.write (FeedM.new l (eachM l) 100) (s'.take i)) G' ∧ FR h' q (FeedM.new l (eachM l) 100) Q ∧ (∀ j, F' j → ¬ G' j) ∧ (∀ j, F' j → ¬ Q j) ∧ (∀ j, G' j → ¬ Q j)) (s.length + s'.length)
    ⟨0, F, G, Nat.zero_le _, rfl, rfl, rfl, rfl, rfl, rfl, rfl, rf.ex (((x9.trans x10).trans x11).trans x12), rg.ex (x11.trans x12), rq, dfg, dfq, dgq⟩ ?_
  rintro I m e h' ⟨i, F', G', hi, hmm, e10, e11, e12, e13, e14, e15, r1, r2, r3, d1, d2, d3⟩ hI
  rw [e10, e11, e12, e13, e14, e15]
  have fit : ∀ (t : List UInt8), t.length ≤ 100 → ∀ n, Fit (FeedM.write (FeedM.new l (eachM l) 100) (t.take n)) (5 + 1000) := fun t ht n => Fit.write (f0.mono (by rw [List.length_take]; omega))
  have fs := fit s (by omega)
  have fs' := fit s' (by omega)
  have ncl : ∀ t, (FeedM.write (FeedM.new l (eachM l) 100) t).closed = false := fun t => by rw [write_closed]; rfl
  have next : ∀ (e' : Env) (h2 : AH) (F2 G2 : Nat → Prop), i < s.length + s'.length → e' 10 = .string (bs s) → e' 11 = .string (bs s') → e' 12 = .pointer (some ⟨f, 0, none⟩) → e' 13 = .pointer (some ⟨g, 0, none⟩) → e' 14 = .pointer (some ⟨q, 0, none⟩) → e' 15 = .int .i64 ((i : Int) + 1) →
      FR h2 f (FeedM.write (FeedM.new l (eachM l) 100) (s.take (i + 1))) F2 → FR h2 g (FeedM.write (FeedM.new l (eachM l) 100) (s'.take (i + 1))) G2 → FR h2 q (FeedM.new l (eachM l) 100) Q → (∀ j, F2 j → ¬ G2 j) → (∀ j, F2 j → ¬ Q j) → (∀ j, G2 j → ¬ Q j) → I e' h2 :=
    fun e' h2 F2 G2 hi' f10 f11 f12 f13 f14 f15 q1 q2 q3 y1 y2 y3 => hI (m - 1) _ _ (by omega) ⟨i + 1, F2, G2, by omega, by omega, f10, f11, f12, f13, f14, f15, q1, q2, q3, y1, y2, y3⟩
  refine w_lenStr (w_lss ?_)
  by_cases q1 : (i : Int) < (s.length : Nat)
  · iterate 4 refine g_ft q1 ?_
    refine pk_tt q1 (c_t ?_)
    refine w_lenStr (w_lss (c_tt q1 ?_))
    obtain ⟨c, hc⟩ := getElem?_of_lt (l := s) (i := i) (by omega)
    refine w_idxStr (by omega) hc ?_
    refine w_some (bldSl_one rfl (by decide) rfl rfl) ?_
    refine n_new ?_
    refine writeB (b := 1000) rfl r1 (fs i) (ncl _) fun h8' F8 r8 c8 => ?_
    rw [write_snoc _ s i c hc] at r8
    obtain ⟨s2, d1'⟩ := r2.other c8 d1
    obtain ⟨s3, d2'⟩ := r3.other c8 d2
    refine w_lenStr (w_lss ?_)
    refine c_dec (fun q2 => ?_) (fun q2 => ?_)
    · obtain ⟨c', hc'⟩ := getElem?_of_lt (l := s') (i := i) (by omega)
      refine w_idxStr (by omega) hc' ?_
      refine w_some (bldSl_one rfl (by decide) rfl rfl) ?_
      refine n_new ?_
      refine writeB (b := 1000) rfl s2 (fs' i) (ncl _) fun h9' G9 r9 c9 => ?_
      rw [write_snoc _ s' i c' hc'] at r9
      obtain ⟨u1, e1⟩ := r8.other c9 fun j h1 h2 => d1' j h2 h1
      obtain ⟨u3, e3⟩ := s3.other c9 d3
      refine w_add (by omega) (by omega) ?_
      exact next _ _ F8 G9 (by omega) e10 e11 e12 e13 e14 rfl u1 r9 u3 (fun j h1 h2 => e1 j h2 h1) d2' e3
    · refine w_add (by omega) (by omega) ?_
      exact next _ _ F8 G' (by omega) e10 e11 e12 e13 e14 rfl r8 (by rw [take_more (by omega)]; exact s2) s3 d1' d2' d3
  · iterate 2 refine g_ff q1 ?_
    refine g_ff q1 (w_lenStr (g_ff q1 (w_lss (pk_ff q1 ?_))))
    refine c_dec (fun q2 => ?_) (fun q2 => ?_)
    · refine w_lenStr (w_lss (c_ff q1 (w_lenStr (w_lss (c_tt q2 ?_)))))
      obtain ⟨c', hc'⟩ := getElem?_of_lt (l := s') (i := i) (by omega)
      refine w_idxStr (by omega) hc' ?_
      refine w_some (bldSl_one rfl (by decide) rfl rfl) ?_
      refine n_new ?_
      refine writeB (b := 1000) rfl r2 (fs' i) (ncl _) fun h9' G9 r9 c9 => ?_
      rw [write_snoc _ s' i c' hc'] at r9
      obtain ⟨u1, e1⟩ := r1.other c9 fun j h1 h2 => d1 j h2 h1
      obtain ⟨u3, e3⟩ := r3.other c9 d3
      refine w_add (by omega) (by omega) ?_
      exact next _ _ F' G9 (by omega) e10 e11 e12 e13 e14 rfl (by rw [take_more (by omega)]; exact u1) r9 u3 (fun j h1 h2 => e1 j h2 h1) d2 e3
    · rw [List.take_of_length_le (by omega)] at r1 r2
      have fz := fit s (by omega) s.length
      have fz' := fit s' (by omega) s'.length
      rw [List.take_length] at fz fz'
      have ps := (text_pre (m := eachM l) (d := 100) ok tx (Low.of_len (by omega))).shut
      have ps' := (text_pre (m := eachM l) (d := 100) ok tx' (Low.of_len (by omega))).shut
      refine w_some (bldSl_one rfl (by decide) rfl rfl) ?_
      refine n_new ?_
      refine conv45 (get_new _ _) ?_
      refine writeB (c := 63) (b := 1000) rfl r3 (f0.mono (by omega)) rfl fun h9' Q9 r9 c9 => ?_
      obtain ⟨u1, e1⟩ := r1.other c9 fun j h1 h2 => d2 j h2 h1
      obtain ⟨u2, e2⟩ := r2.other c9 fun j h1 h2 => d3 j h2 h1
      have fq : Fit (FeedM.write (FeedM.new l (eachM l) 100) [63]) (998 + 2) := Fit.write (f0.mono (by decide))
      refine close24 u1 (fz.mono (c := 998 + 2) (by omega)) (ncl _) fun h13 F13 b1 r13 c13 hb1 => ?_
      obtain ⟨y2, z2⟩ := u2.other c13 d1
      obtain ⟨y3, z3⟩ := r9.other c13 fun j h1 h2 => e1 j h2 h1
      refine w_some rfl (w_some rfl (w_some rfl ?_))
      refine close24 y2 (fz'.mono (c := 998 + 2) (by omega)) (ncl _) fun h14 F14 b2 r14 c14 hb2 => ?_
      obtain ⟨y4, z4⟩ := y3.other c14 fun j h1 h2 => e2 j h2 h1
      refine w_some rfl (w_some rfl (w_some rfl ?_))
      refine close24 y4 fq (ncl _) fun h15 F15 b3 r15 c15 hb3 => ?_
      refine w_some rfl (w_some rfl (w_some rfl ?_))
      obtain ⟨p1, p2, p3, p4, p5, p6⟩ := ps
      obtain ⟨p1', p2', p3', p4', p5', p6'⟩ := ps'
      obtain ⟨w1, w2⟩ := shut_q l (eachM l) 100
      have hb1t : b1 = true := hb1.2 ⟨p1, each_isFinal lc win p4 p5⟩
      have hb2t : b2 = true := hb2.2 ⟨p1', each_isFinal lc win' p4' p5'⟩
      rw [hb1t, hb2t, p1, p2, p1', p2', w1, w2]
      have z0 : (0 : Int) = 0 := rfl
      have z12 : (12 : Int) = 12 := rfl
      refine gc_tt (pk_t (gc_tt (gc_tt (w_eql (pk_t ?_)))))
      refine g_tt z0 (g_tt z0 (w_eql (pk_tt z0 ?_)))
      refine g_tt z0 (g_tt z0 (w_eql (pk_tt z0 ?_)))
      refine g_tt z0 (g_tt z0 (w_eql (pk_tt z0 ?_)))
      refine g_tt z0 (g_tt z0 (w_eql (pk_tt z0 ?_)))
      refine g_tt z0 (g_tt z0 (w_eql (pk_tt z0 ?_)))
      rfl
end Go.Proofs.Ytebbjimmgblcpaa.W
