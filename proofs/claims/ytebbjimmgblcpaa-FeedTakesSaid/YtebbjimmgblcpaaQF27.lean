/- FeedOwn: the walk; two slices of numbers are the same: the walk. Conditions: none. -/
import Derived.Test.YtebbjimmgblcpaaQF26
namespace Go.Proofs.Ytebbjimmgblcpaa.W
open Go Go.AM FeedM
set_option linter.unusedVariables false
set_option maxRecDepth 100000

theorem ints30 {h : AH} {v0 v1 : Value} {a b : List Int} {K : Value → AH → Prop} (ha : Ints h v0 a) (hb : Ints h v1 b) (ln : a.length < room40) (k : K (.bool (decide (a = b))) h) : callW Try.prog 30 [v0, v1] h K := by
  unfold room40 at ln
  refine c30 ?_
  unfold s30
  refine w_len ha (w_len hb (w_neq ?_))
  refine c_dec (fun q => ?_) (fun q => ?_)
  · rw [decide_eq_false (fun e => q (by rw [e]))] at k
    exact k
  have hlen : a.length = b.length := by omega
  refine loopE_intro (fun m e h' => ∃ i : Nat, i ≤ a.length ∧ m = a.length - i ∧ e 0 = v0 ∧ e 1 = v1 ∧ e 5 = .int .i64 i ∧ h' = h ∧ a.take i = b.take i) a.length ⟨0, Nat.zero_le _, rfl, rfl, rfl, rfl, rfl, rfl⟩ ?_
  rintro I m e h' ⟨i, hi, hm, e0, e1, e5, rfl, ht⟩ hI
  rw [e0, e1, e5]
  refine w_len ha (w_lss ?_)
  refine c_dec (fun q1 => ?_) (fun q1 => ?_)
  · obtain ⟨x, hx⟩ := getElem?_of_lt (l := a) (i := i) (by omega)
    obtain ⟨y, hy⟩ := getElem?_of_lt (l := b) (i := i) (by omega)
    refine w_idxN eI_len ha hx fun p hp => w_rd1 hp rfl ?_
    refine w_idxN eI_len hb hy fun p hp => w_rd1 hp rfl (w_neq ?_)
    refine c_dec (fun q2 => ?_) (fun q2 => ?_)
    · rw [decide_eq_false (fun e => q2 (by rw [e, hy] at hx; exact (Option.some.inj hx).symm))] at k
      exact k
    · have e2 : x = y := Classical.byContradiction fun h => q2 h
      refine w_add (by omega) (by omega) ?_
      exact hI (m - 1) _ _ (by omega) ⟨i + 1, by omega, by omega, e0, e1, rfl, rfl, by rw [take_succ_get hx, take_succ_get hy, ht, e2]⟩
  · have h1 : i = a.length := by omega
    have h2 : i = b.length := by omega
    rw [h1] at ht
    rw [List.take_length, hlen, List.take_length] at ht
    rw [decide_eq_true ht] at k
    exact k

theorem gd_ff {p : Prop} [Decidable p] {f : (Value → AH → HT → ST → Prop) → Prop} {h : AH} {H : HT} {S : ST} {K : Value → AH → HT → ST → Prop} (hp : ¬ p) (k : f K) : gopD (gB (.bool (decide p)) false) f h H S K := by
  rw [decide_eq_false hp]; exact k

theorem tok_ok {l : List Sy} (ok : okSy l) {w : List Int} {s : List UInt8} (tx : TextOf l w s) (hw : w.length ≤ 1000) : (tokSt l s).e = 0 ∧ (tokSt l s).word = w := by
  obtain ⟨p1, p2, p3, p4, p5, p6⟩ := (text_pre (m := m0) (d := 9223372036854775807) ok tx (Low.of_len (by omega))).shut
  exact ⟨p1, p3⟩

theorem u8of {n : Int} (h : U8 n) : ∃ b : UInt8, n = b.toNat := ⟨UInt8.ofNat n.toNat, by
  have := h.1; have := h.2
  simp
  omega⟩

theorem own12 (h : AH) (a : Int) (_ : I64 a) (v1 : Value) (ns : List Int) (i1 : Ints h v1 ns) (_ : ∀ n ∈ ns, I64 n) (v2 : Value) (ws : List Int) (i2 : Ints h v2 ws) (_ : ∀ n ∈ ws, I64 n) (bn : Int) (hbn : U8 bn) (hm : h.length = 2) :
    callW Try.prog 12 [.int .i64 a, v1, v2, .int .u8 bn] h fun v _ => v = .bool true := by
  obtain ⟨byc, rfl⟩ := u8of hbn
  refine c12 ?_
  unfold s12
  refine known13 (.inr (.inl hm)) fun h1 x1 => ?_
  refine w_notb (c_f ?_)
  refine syms14 (i1.ex x1) fun vl h2 l x2 hl lc => ?_
  obtain ⟨l0, l7⟩ := small_choices l lc
  have ok := okSy_choices l lc
  refine word17 hl (i2.ex (x1.trans x2)) l0 (by omega) (by decide) fun vw h3 x3 ow => ?_
  have wl := wordOf_len l.length ws 10
  have win := wordOf_in l0 ws 10
  generalize wordOf l.length ws 10 = w at *
  have hl3 := hl.ex x3
  refine text16 hl3 (names1 l lc) ow.sl win (by omega) fun h4 s x4 tx sl => ?_
  refine eachA (hl3.ex x4) lc fun h5 vm x5 mv => ?_
  refine newE (hl3.ex (x4.trans x5)) mv lc fun h6 f F x6 rf lowf => ?_
  refine w_some rfl (c_f ?_)
  have f0 := fit_each lc 100
  have mx : (10000000 : Nat) < room40 := big40
  have k4 := x4.len; have k5 := x5.len; have k6 := x6.len
  have ncl : ∀ t, (FeedM.write (FeedM.new l (eachM l) 100) t).closed = false := fun t => by rw [write_closed]; rfl
  have fit : ∀ n, Fit (FeedM.write (FeedM.new l (eachM l) 100) (s.take n)) (5 + 1000) := fun n => Fit.write (f0.mono (by rw [List.length_take]; omega))
  refine loopE_intro (fun m e h' => ∃ (i : Nat) (F' : Nat → Prop), i ≤ s.length ∧ m = s.length - i ∧ e 3 = .int .u8 byc.toNat ∧ e 9 = vl ∧ e 10 = vw ∧ e 11 = .string (bs s) ∧ e 12 = .pointer (some ⟨f, 0, none⟩) ∧ e 13 = .int .i64 i ∧
    Ex h3 h' ∧ (∀ j, F' j → h3.length ≤ j) ∧ FR h' f (FeedM.write (FeedM.new l (eachM l) 100) (s.take i)) F') s.length
    ⟨0, F, Nat.zero_le _, rfl, rfl, rfl, rfl, rfl, rfl, rfl, (x4.trans x5).trans x6, fun j hj => by have := lowf j hj; omega, rf⟩ ?_
  rintro I m e h' ⟨i, F', hi, hmm, e3, e9, e10, e11, e12, e13, hx, low, r'⟩ hI
  rw [e3, e9, e10, e11, e12, e13]
  refine w_lenStr (w_lss ?_)
  refine c_dec (fun q => ?_) (fun q => ?_)
  · obtain ⟨c, hc⟩ := getElem?_of_lt (l := s) (i := i) (by omega)
    refine w_idxStr (by omega) hc ?_
    refine w_some rfl ?_
    refine n_new ?_
    generalize hH : h' ++ [AObj.row _ true] = h8
    have g8 : h8[h'.length]? = some (.row (flat eB [c, byc]) true) := by rw [← hH]; exact get_new _ _
    have x8 : Ex h' h8 := by rw [← hH]; exact .app _ _
    have l8 : h8.length = h'.length + 1 := by rw [← hH]; simp
    have hS : SlT 1 eB h8 (.slice (some ⟨h'.length, 0, none⟩) 2 2) [c, byc] := ⟨rfl, .inr ⟨h'.length, 0, 2, rfl, .inl ⟨(by decide : 2 < openCap), Nat.le_refl 2⟩, .inr ⟨_, true, g8, Nat.le_refl 2, rfl⟩⟩⟩
    refine w_sliceT (enc := eB) (l := [c, byc]) (i := 0) (j := 1) eB_len hS (Nat.zero_le _) (by show 1 ≤ 2; omega) (.inl ⟨rfl, rfl⟩) (.inr ⟨_, rfl⟩) fun v' hv' hid => ?_
    have lt' := r'.lt
    have hnF : ¬ F' h'.length := fun hF => by have := lt' _ hF; omega
    have hn : ∀ j, onId v' j → j = h'.length := fun j hj => by
      have := hid j hj
      exact (show h'.length = j from this).symm
    refine write23 (bs := [c]) (b := 1000) (r'.ex x8) (fit i) (ncl _) hv' (fun j hj hF => by rw [hn j hj] at hF; exact hnF hF) fun h9 F9 r9 c9 => ?_
    rw [write_snoc _ s i c hc] at r9
    have g9 : h9[h'.length]? = some (.row (flat eB [c, byc]) true) := (c9.get _ (by omega) hnF).trans g8
    have hS9 : SlT 1 eB h9 (.slice (some ⟨h'.length, 0, none⟩) 2 2) [c, byc] := ⟨rfl, .inr ⟨h'.length, 0, 2, rfl, .inl ⟨(by decide : 2 < openCap), Nat.le_refl 2⟩, .inr ⟨_, true, g9, Nat.le_refl 2, rfl⟩⟩⟩
    have h9F : ¬ F9 h'.length := fun hF => (c9.dom _ hF).elim hnF fun h => by omega
    have x9 : Ex h3 h9 := c9.toEx (hx.trans x8) low
    have low9 := c9.low (hx.trans x8) low
    have w0 : ¬ ¬ ((c.toNat : Int) = c.toNat) := fun h => h rfl
    have w1 : ¬ ¬ ((byc.toNat : Int) = byc.toNat) := fun h => h rfl
    refine w_some (v := .pointer (some ⟨h'.length, 0, none⟩)) rfl ?_
    refine w_rdP g9 (v := .int .u8 c.toNat) rfl ?_
    refine w_idxStr (by omega) hc (w_neq ?_)
    refine gd_ff w0 (gd_ff w0 ?_)
    refine w_some (v := .pointer (some ⟨h'.length, 1, none⟩)) rfl ?_
    refine gd_ff w0 ?_
    refine hist_all ?_ fun t ht => by cases ht
    refine w_rdP g9 (v := .int .u8 byc.toNat) rfl ?_
    refine gd_ff w0 (gd_ff w0 (w_neq (pk_ff w0 (c_ff w1 ?_))))
    refine w_some (v := .pointer (some ⟨h'.length, 0, none⟩)) rfl ?_
    have hl9 := lt_of_get g9
    refine w_stP g9 (show 0 < 2 by omega) rfl rfl ?_
    refine w_add (by omega) (by omega) ?_
    have kx := hx.len
    exact hI (m - 1) _ _ (by omega) ⟨i + 1, F9, by omega, by omega, e3, e9, e10, e11, e12, rfl, x9.set (by omega) _, low9, r9.still (by simp) fun j hj => get_ne (fun e => h9F (by rw [e]; exact hj)) _⟩
  · rw [List.take_of_length_le (by omega)] at r'
    have fz := fit s.length
    rw [List.take_length] at fz
    obtain ⟨p1, p2, p3, p4, p5, p6⟩ := (text_pre (m := eachM l) (d := 100) ok tx (Low.of_len (by omega))).shut
    refine close24 r' (fz.mono (c := 998 + 2) (by omega)) (ncl _) fun h13 F13 b1 r13 c13 hb1 => ?_
    have hb1t : b1 = true := hb1.2 ⟨p1, each_isFinal lc win p4 p5⟩
    have x13 : Ex h3 h13 := c13.toEx hx low
    refine w_some rfl (w_some rfl (w_some rfl ?_))
    obtain ⟨t1, t2⟩ := tok_ok ok tx (by omega)
    refine tokens28 (hl3.ex x13) (by omega) (by omega) (fun h14 x14 hne => (hne t1).elim) fun h14 v x14 _ hv => ?_
    rw [t2] at hv
    refine w_some rfl (w_some rfl (w_some rfl ?_))
    rw [hb1t, p1, p2]
    have z0 : (0 : Int) = 0 := rfl
    refine gc_tt (gc_tt (w_eql (pk_t ?_)))
    refine g_tt z0 (g_tt z0 (w_eql (pk_tt z0 ?_)))
    refine g_tt z0 (g_tt z0 (w_eql (pk_tt z0 ?_)))
    refine g_tt z0 (g_tt z0 (g_tt z0 ?_))
    refine ints30 hv (ow.sl.ex (x13.trans x14)) (by omega) ?_
    refine pk_tt z0 ?_
    rw [decide_eq_true rfl]
end Go.Proofs.Ytebbjimmgblcpaa.W
