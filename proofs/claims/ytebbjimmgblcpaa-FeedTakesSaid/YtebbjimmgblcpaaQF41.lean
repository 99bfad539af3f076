/- FeedTakes: the walk. Conditions: none. -/
import Derived.Test.YtebbjimmgblcpaaQF40
namespace Go.Proofs.Ytebbjimmgblcpaa.W
open Go Go.AM FeedM
set_option linter.unusedVariables false
set_option maxRecDepth 100000

theorem deep_err0 {l : List Sy} {m : Mach} {d : Int} {w : List Int} {r : Int} {st : FS} {k : Nat} {x : Sy} (g : Good l m d w r st) (ok : okSy l) (hx : l[k]? = some x) (h1 : x.2 = 1) (hd : (opn l w : Int) = d) :
    (FeedM.write st (signOf x)).e = 13 := by
  have h := (deep_err g ok hx h1 hd).1
  rw [write_app] at h
  by_cases e : (FeedM.write st (signOf x)).e = 0
  · exfalso
    have p := (deep_err g ok hx h1 hd).2.2
    obtain ⟨hi, ⟨c, h2, hc⟩, _⟩ := ok _ _ hx
    have hs : signOf x = [60, c, 62] := by unfold signOf; rw [if_pos h1, h2]; rfl
    rw [hs, lex_open g.s g.e hc] at e
    have hidx : idxOf ([c], 1) st.l = k := by
      have : x = ([c], 1) := by rw [← h1, ← h2]
      rw [g.hl, ← this, hi]
    have hsym : FeedM.sym { st with s := [60, c], at_ := st.read, read := st.read + 2 } [c] 1 = FeedM.wrong { st with s := [], at_ := st.read, read := st.read + 2 } 13 st.read := by
      unfold FeedM.sym
      dsimp only
      rw [hidx, if_neg (by omega), if_pos ⟨rfl, by rw [g.deep, g.under]; omega⟩]
    have hw : FeedM.wrong { st with s := [], at_ := st.read, read := st.read + 2 } 13 st.read = { st with s := [], at_ := st.read, read := st.read + 2, e := 13, place := st.read } := by
      unfold FeedM.wrong
      rw [if_pos g.e]
    rw [hsym, hw] at e
    exact absurd e (by simp [rd1])
  · rw [write_err e] at h
    exact h

theorem deep_any {l : List Sy} {m : Mach} {d : Int} (hd0 : 0 ≤ d) {w : List Int} {s : List UInt8} (ok : okSy l) (t : TextOf l w s) : ¬ Low l d w → (FeedM.write (FeedM.new l m d) s).e = 13 := by
  induction t with
  | nil => exact fun h => (h fun n => by rw [List.take_nil]; exact hd0).elim
  | @snoc w s sep k x t hx hk hb hc ih =>
    intro nlow
    rw [write_app]
    by_cases lw : Low l d w
    · have p := text_pre (m := m) ok t lw
      have hk' : kindAt l k.toNat = x.2 := by unfold kindAt; rw [hx]
      have big : ¬ (opn l (w ++ [k]) : Int) ≤ d := by
        intro hle
        refine nlow fun n => ?_
        by_cases q : n ≤ w.length
        · rw [List.take_append_of_le_length q]
          exact lw n
        · rw [List.take_of_length_le (by simp; omega)]
          exact hle
      have lst := lw.last
      rw [opn_snoc] at big
      unfold ostep at big
      rw [hk'] at big
      have h1 : x.2 = 1 := by
        refine Classical.byContradiction fun h1 => ?_
        rw [if_neg h1] at big
        split at big <;> omega
      rw [if_pos h1] at big
      have hd : (opn l w : Int) = d := by omega
      generalize FeedM.write (FeedM.new l m d) s = st at *
      cases sep with
      | cons c sep =>
        rw [List.cons_append, write_cons p.e, write_app]
        have g := blank_pre p (hb c (by simp))
        have g := blanks_good (sep := sep) g fun c hc => hb c (List.mem_cons_of_mem _ hc)
        exact deep_err0 g ok hx h1 hd
      | nil =>
        rw [List.nil_append]
        by_cases q : st.s = []
        · have g := p.good
          rw [ended_nil q] at g
          exact deep_err0 g ok hx h1 hd
        · have : FeedM.write st (signOf x) = FeedM.write (FeedM.ended st) (signOf x) := by
            have : ∃ r, signOf x = 60 :: r := by
              unfold signOf
              rw [if_pos h1]; exact ⟨_, rfl⟩
            obtain ⟨r, hr⟩ := this
            rw [hr, write_cons p.e, write_cons p.good.e, step_ended p (by decide)]
          rw [this]
          exact deep_err0 p.good ok hx h1 hd
    · have := ih lw
      rw [write_err (by omega)]
      exact this

theorem takes5 (h : AH) (a : Int) (_ : I64 a) (size : Int) (hs : I64 size) (v1 : Value) (ns : List Int) (i1 : Ints h v1 ns) (_ : ∀ n ∈ ns, I64 n) (v2 : Value) (ws : List Int) (i2 : Ints h v2 ws) (_ : ∀ n ∈ ws, I64 n) (dp : Int) (_ : I64 dp) (gap : Int) (_ : I64 gap) (hm : h.length = 2) :
    callW Try.prog 5 [.int .i64 a, .int .i64 size, v1, v2, .int .i64 dp, .int .i64 gap] h fun v _ => v = .bool true := by
  refine c5 ?_
  unfold s5
  refine known13 (.inr (.inl hm)) fun h1 x1 => ?_
  refine w_notb (c_f ?_)
  have mx : (10000000 : Nat) < room40 := big40
  refine syms14 (i1.ex x1) fun vl h2 l x2 hl lc => ?_
  obtain ⟨l0, l7⟩ := small_choices l lc
  have ok0 := okSy_choices l lc
  refine one15 hl (by omega) hs (i1.ex (x1.trans x2)) fun h3 vm m x3 mv ok ne => ?_
  refine boxA mv fun h4' h4 x4 bx l4 => ?_
  have hl4 := hl.ex (x3.trans x4)
  have x14 := ((x1.trans x2).trans x3).trans x4
  refine word17 hl4 (i2.ex x14) l0 (by omega) (by decide) fun vw h5 x5 ow => ?_
  have wl := wordOf_len l.length ws 8
  have win := wordOf_in l0 ws 8
  generalize wordOf l.length ws 8 = w at *
  refine within18 _ _ _ _ (by decide) (by decide) ?_
  have q6 : 0 ≤ dp % 6 ∧ dp % 6 < 6 := ⟨Int.emod_nonneg _ (by decide), Int.emod_lt_of_pos _ (by decide)⟩
  generalize dp % 6 = d at *
  have hl5 := hl4.ex x5
  have bx5 := bx.ex x5
  refine bx5.rd fun v38 mv1 => ?_
  refine newM hl5 mv1 lc ok fun h6 f F x6 rf lowf => ?_
  refine w_some rfl (gc_ff (gc_ff ?_))
  refine (bx5.ex x6).rd fun v45 mv2 => gc_ff ?_
  refine check25 (hl5.ex x6) mv2 ok fun h7 x7 => gc_ff (w_neq (pk_f (c_ff (fun h => h rfl) ?_)))
  have x57 := x6.trans x7
  have hl7 := hl5.ex x57
  have sw5 : Ints h5 vw w := ow.sl
  refine text16 hl7 (names1 l lc) (sw5.ex x57) win (by omega) fun h8 s x8 tx sl => ?_
  have f0 := fit_mk lc ok d
  have r8 := rf.ex (x7.trans x8)
  refine writeS (b := 1000) r8 (f0.mono (by omega)) rfl fun vb h9 F9 r9 c9 => ?_
  have x58 := x57.trans x8
  have x9 : Ex h5 h9 := c9.toEx x58 lowf
  have low9 := c9.low x58 lowf
  refine w_some rfl (w_some rfl ?_)
  have cl9 : (FeedM.write (FeedM.new l m d) s).closed = false := by rw [write_closed]; rfl
  have f9 : Fit (FeedM.write (FeedM.new l m d) s) 1000 := Fit.write (f0.mono (by omega))
  have eqD := mxs_low l d q6.1 w
  refine close24 r9 (f9.mono (c := 0 + 2) (by omega)) cl9 fun h10 F10 c r10 c10 hc => ?_
  have x10 : Ex h5 h10 := c10.toEx x9 low9
  refine w_some rfl (w_some rfl (w_some rfl ?_))
  refine deep26 (hl5.ex x10) (sw5.ex x10) win (by omega) (w_gtr ?_)
  refine c_dec (fun q => ?_) (fun q => ?_)
  · have e13 := deep_any (m := m) q6.1 ok0 tx fun hl => by have := eqD.1 hl; omega
    have ene : (FeedM.write (FeedM.new l m d) s).e ≠ 0 := by rw [e13]; decide
    rw [shut_err ene] at hc ⊢
    have hcf : c = false := by
      cases c with
      | false => rfl
      | true => exact (ene (hc.1 rfl).1).elim
    subst hcf
    dsimp only
    rw [e13]
    have z13 : (13 : Int) = 13 := rfl
    have n0 : ¬ (13 : Int) = 0 := by decide
    have zp : (FeedM.write (FeedM.new l m d) s).place = (FeedM.write (FeedM.new l m d) s).place := rfl
    refine w_notb (gc_tt (gc_tt (w_eql (pk_t ?_))))
    refine g_tt z13 (g_tt z13 (w_eql (g_tt z13 ?_)))
    refine g_ff n0 (g_ff n0 (g_ff n0 (w_eql (g_ff n0 ?_))))
    refine g_tt z13 (g_tt z13 (g_tt z13 (w_eql (g_ff n0 (pk_tt z13 ?_)))))
    refine g_tt z13 (pk_ff n0 (pk_tt z13 ?_))
    rw [decide_eq_true zp]
  · have low : Low l d w := eqD.2 (by omega)
    have pr := text_pre (m := m) ok0 tx low
    obtain ⟨p1, p2, p3, p4, p5, p6⟩ := pr.shut
    rw [pr.e, p1, p2]
    have z0 : (0 : Int) = 0 := rfl
    refine w_eql (g_tt z0 (g_tt z0 (w_eql (pk_tt z0 ?_))))
    refine g_tt z0 (g_tt z0 (w_eql (pk_tt z0 ?_)))
    refine g_tt z0 (g_tt z0 (g_tt z0 ?_))
    refine (bx5.ex x10).rd fun v103 mv3 => g_tt z0 (g_tt z0 ?_)
    refine takes27 (hl5.ex x10) (by omega) mv3 ok (sw5.ex x10) win (by omega) fun h11 b x11 hb => g_tt z0 ?_
    have hcb : c = b := by
      refine Bool.eq_iff_iff.2 (hc.trans (Iff.trans ?_ hb.symm))
      unfold isFinal
      rw [p4, p5]
      exact ⟨fun h => h.2, fun h => ⟨p1, h⟩⟩
    subst hcb
    exact w_beqs (pk_tt z0 rfl)
end Go.Proofs.Ytebbjimmgblcpaa.W
