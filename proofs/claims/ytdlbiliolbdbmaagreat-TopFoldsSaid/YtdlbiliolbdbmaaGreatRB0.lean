/- Parts of a proof, joined by a program. Conditions: none. -/
import Derived.Test.YtdlbiliolbdbmaaGreatRS0
import Derived.Test.YtdlbiliolbdbmaaGreatRA2

section
/- All that was printed. Conditions: none. -/
end

section
/- FoldKnown's, FoldPushed's walks. Conditions: none. -/
namespace Go.Proofs.YtdlbiliolbdbmaaGreat.W
open Go Go.AM
set_option maxRecDepth 100000
theorem within16 (a n : Int) (h : AH) (K : Value → AH → Prop) (h1 : 0 < n) (h2 : n ≤ 1152921504606846976)
   (k : K (.int .i64 (a % n)) h) : callW Tryz.prog 46 [.int .i64 a, .int .i64 n] h K := by
  obtain ⟨_, q1, q2, q3, q4⟩ := tmod_emod a n h1
  refine c46 ?_
  unfold s46
  refine w_tmod (by omega) ?_
  generalize hm : a.tmod n = m at *
  (repeat' (with_reducible first | refine w_lss ?_ | refine w_leq ?_ | refine w_gtr ?_ | refine w_geq ?_ | refine w_eql ?_ | refine w_neq ?_ | refine w_lenSl ?_ | refine w_lenStr ?_ | refine w_not ?_ | refine w_add (by omega) (by omega) ?_ | refine w_sub (by omega) (by omega) ?_ | refine w_rem (by omega) (by omega) ?_ | refine w_quo (by omega) (by omega) (by omega) ?_ | refine w_seql ?_ | refine w_sneq ?_ | refine c_t ?_ | refine c_f ?_ | refine c_tt (by first | assumption | omega) ?_ | refine c_ff (by first | assumption | omega) ?_ | refine c_dec (fun hc => ?_) (fun hc => ?_) | refine c_b (fun hc => ?_) (fun hc => ?_) | refine gc_tt ?_ | refine gc_ft ?_ | refine gc_tf ?_ | refine gc_ff ?_ | refine g_tt (by first | assumption | omega) ?_ | refine g_tf (by first | assumption | omega) ?_ | refine g_ft (by first | assumption | omega) ?_ | refine g_ff (by first | assumption | omega) ?_ | refine g_dec (fun hc => ?_) (fun hc => ?_) | refine g_decf (fun hc => ?_) (fun hc => ?_) | refine pk_t ?_ | refine pk_f ?_ | refine pk_tt (by first | assumption | omega) ?_ | refine pk_ff (by first | assumption | omega) ?_))
  · rw [q1 (by assumption)]; exact k
  · rw [q2 (by assumption)]; exact k
end Go.Proofs.YtdlbiliolbdbmaaGreat.W
end

section
/- Top's laws, package fold: machines of numbers, the parts of Make. Conditions: none. -/
namespace Go.Proofs.YtdlbiliolbdbmaaGreat.W
open Go Go.AM
set_option linter.unusedVariables false
set_option maxRecDepth 100000
abbrev Ints (h : AH) (v : Value) (l : List Int) := SlT 1 eI h v l
theorem getElem?_of_lt {α : Type} {l : List α} {i : Nat} (h : i < l.length) : ∃ x, l[i]? = some x := ⟨l[i], List.getElem?_eq_getElem h⟩
def updV (v : Nat → Value) (i : Nat) (x : Value) : Nat → Value := fun j => if j = i then x else v j
def updC (v : Nat → List Value) (i : Nat) (x : List Value) : Nat → List Value := fun j => if j = i then x else v j
structure SL (h : AH) (b2 : Nat) (v : Nat → Value) (cs : Nat → List Value) : Prop where
  own : ∀ i, i < 11 → OwnG 1 (fun j => b2 < j) h (v i) (cs i).length (cs i)
  ap : ∀ i j, i < 11 → j < 11 → i ≠ j → ∀ x, onId (v i) x → ¬ onId (v j) x
theorem SL.keep {h h' : AH} {b2 : Nat} {v : Nat → Value} {cs : Nat → List Value} (s : SL h b2 v cs) (hh : ∀ j, b2 < j → j < h.length → h'[j]? = h[j]?) : SL h' b2 v cs :=
  ⟨fun i hi => (s.own i hi).mono (fun _ _ h => h) fun j hj hF => hh j hF ((s.own i hi).on hj).2, s.ap⟩
theorem SL.ex {h h' : AH} {b2 : Nat} {v : Nat → Value} {cs : Nat → List Value} (s : SL h b2 v cs) (x : Ex h h') : SL h' b2 v cs := s.keep fun j _ hj => x.get j hj
theorem SL.set {h : AH} {b2 j : Nat} {v : Nat → Value} {cs : Nat → List Value} (s : SL h b2 v cs) (hj : j ≤ b2) (o : AObj) : SL (h.set j o) b2 v cs := s.keep fun x hx _ => get_ne (by omega) _
theorem SL.nil (h : AH) (b2 : Nat) : SL h b2 (fun _ => .slice none 0 0) (fun _ => []) := ⟨fun _ _ => OwnG.nil _ _ _, fun _ _ _ _ _ _ h => h.elim⟩
theorem SL.reset {h : AH} {b2 : Nat} {v : Nat → Value} {cs : Nat → List Value} (s : SL h b2 v cs) (i : Nat) : SL h b2 (updV v i (.slice none 0 0)) (updC cs i []) := by
  refine ⟨fun j hj => ?_, fun a b ha hb hab x hx hy => ?_⟩
  · unfold updV updC
    by_cases e : j = i
    · rw [if_pos e, if_pos e]; exact OwnG.nil _ _ _
    · rw [if_neg e, if_neg e]; exact s.own j hj
  · unfold updV at hx hy
    by_cases e : a = i
    · rw [if_pos e] at hx; exact hx
    · rw [if_neg e] at hx
      by_cases e2 : b = i
      · rw [if_pos e2] at hy; exact hy
      · rw [if_neg e2] at hy; exact s.ap a b ha hb hab x hx hy
theorem SL.app {h1 : AH} {b2 : Nat} {v : Nat → Value} {cs : Nat → List Value} {x : Value} {r : Nat} {K : Value → AH → Prop} (s : SL h1 b2 v cs) (i : Nat) (hi : i < 11) (hr : h1[r]? = some (.row [x] true)) (hb : b2 < h1.length) (hrs : ∀ i, i < 11 → ¬ onId (v i) r) (hn : (cs i).length + 1 < room40)
    (k : ∀ v' h', SL h' b2 (updV v i v') (updC cs i (cs i ++ [x])) → (∀ j, j ≤ b2 → h'[j]? = h1[j]?) → h1.length ≤ h'.length → (∀ j, j < h1.length → (∀ i, i < 11 → ¬ onId (v i) j) → h'[j]? = h1[j]?) → (∀ j, onId v' j → onId (v i) j ∨ j = h1.length) → K v' h') :
    appSl 1 (v i) (.slice (some ⟨r, 0, none⟩) 1 1) h1 K := by
  refine appSl_of (app_g (by decide) (s.own i hi) (srcL_new hr (by decide) rfl) rfl hn fun v' h' o1 l1 k1 id1 => ?_)
  refine k v' h' ⟨fun j hj => ?_, fun a b ha hb' hab y hy hz => ?_⟩ (fun j hj => k1 j (by omega) fun hh => by have := ((s.own i hi).on hh).1; omega) l1 (fun j hj hno => k1 j hj (hno i hi)) id1
  · unfold updV updC
    by_cases e : j = i
    · rw [if_pos e, if_pos e]
      have e1 : (cs i ++ [x]).length = (cs i).length + 1 := by simp
      rw [e1]
      exact o1.mono (fun j _ h => h.elim id fun e => by omega) fun _ _ _ => rfl
    · rw [if_neg e, if_neg e]
      exact (s.own j hj).mono (fun _ _ h => h) fun y hy _ => k1 y ((s.own j hj).on hy).2 fun hh => s.ap i j hi hj (fun e' => e e'.symm) y hh hy
  · unfold updV at hy hz
    by_cases e : a = i
    · rw [if_pos e] at hy
      rw [if_neg (fun e' => hab (e.trans e'.symm))] at hz
      rcases id1 y hy with h | h
      · exact s.ap i b hi hb' (fun e' => hab (e.trans e')) y h hz
      · have := ((s.own b hb').on hz).2; omega
    · rw [if_neg e] at hy
      by_cases e2 : b = i
      · rw [if_pos e2] at hz
        rcases id1 y hz with h | h
        · exact s.ap a i ha hi e y hy h
        · have := ((s.own a ha).on hy).2; omega
      · rw [if_neg e2] at hz
        exact s.ap a b ha hb' hab y hy hz
structure Pl where
  p4 : Nat
  p5 : Nat
  px : Nat
  iOf : Nat
  iEn : Nat
  b2 : Nat
  n : Nat
  k : Nat
  pl : Int
  cl : Int
structure Pl.OK (q : Pl) (b : Nat) : Prop where
  h0 : b ≤ q.p4
  h1 : q.p4 < q.p5
  h2 : q.p5 < q.px
  h3 : q.px < q.iOf
  h4 : q.iOf < q.iEn
  h5 : q.iEn < q.b2
  n : q.k ≤ q.n ∧ q.n ≤ 8
  k : 1 ≤ q.k ∧ q.k ≤ 3
  pl : 0 ≤ q.pl ∧ q.pl ≤ 2
  cl : 0 ≤ q.cl ∧ q.cl ≤ 2
def z8 : List Value := [(.int .i64 0), (.int .i64 0), (.slice none 0 0), (.slice none 0 0), (.slice none 0 0), (.slice none 0 0), (.slice none 0 0), (.slice none 0 0)]
def mrow (q : Pl) (w : Nat → Value) : List Value := [.int .i64 q.pl, .int .i64 q.cl, .slice (some ⟨q.iOf, 0, none⟩) q.n q.n, .slice (some ⟨q.iEn, 0, none⟩) q.k q.k, w 0, w 1, w 2, w 3]
structure Fx (h : AH) (q : Pl) (vns : Value) (at_ : Int) (w : Nat → Value) (u : Nat → Value) (ol el : List Int) : Prop where
  r4 : h[q.p4]? = some (.row z8 true)
  r5 : h[q.p5]? = some (.row (mrow q w) true)
  rx : h[q.px]? = some (.row [vns, .int .i64 at_] true)
  rOf : h[q.iOf]? = some (.row (flat eI ol) true)
  lOf : ol.length = q.n
  bOf : ∀ x ∈ ol, 0 ≤ x ∧ x < (q.k : Nat)
  rEn : h[q.iEn]? = some (.row (flat eI el) true)
  lEn : el.length = q.k
  rof : h[q.b2]? = some (.row ((List.range q.k).map u) true)
theorem Fx.keep {h h' : AH} {q : Pl} {b : Nat} {vns : Value} {at_ : Int} {w u : Nat → Value} {ol el : List Int} (ok : q.OK b) (f : Fx h q vns at_ w u ol el) (hh : ∀ j, j ≤ q.b2 → h'[j]? = h[j]?) : Fx h' q vns at_ w u ol el := by
  have h1 := ok.h1; have h2 := ok.h2; have h3 := ok.h3; have h4 := ok.h4; have h5 := ok.h5
  exact ⟨(hh _ (by omega)).trans f.r4, (hh _ (by omega)).trans f.r5, (hh _ (by omega)).trans f.rx, (hh _ (by omega)).trans f.rOf, f.lOf, f.bOf, (hh _ (by omega)).trans f.rEn, f.lEn, (hh _ (Nat.le_refl _)).trans f.rof⟩
theorem slI {h : AH} {i n : Nat} {l : List Int} (hg : h[i]? = some (.row (flat eI l) true)) (hn : l.length = n) (hs : n < 100) : Ints h (.slice (some ⟨i, 0, none⟩) n n) l := by
  subst hn
  refine ⟨flat_length eI_len l, .inr ⟨i, 0, _, rfl, .inl ⟨?_, Nat.le_refl _⟩, .inr ⟨_, true, hg, ?_, ?_⟩⟩⟩
  · have : (100 : Nat) < openCap := by decide
    omega
  · rw [flat_length eI_len]; omega
  · rw [List.drop_zero]
    have := flat_length eI_len l
    rw [← this, List.take_length]
def gv (ns : List Int) (at_ n : Int) : Int := if (ns.length : Int) < at_ + 1 then (at_ + 1) % n else ns.getD at_.toNat 0 % n
theorem get30 {h h0 : AH} {q : Pl} {vns : Value} {ns : List Int} {at_ n : Int} {w u : Nat → Value} {ol el : List Int} {K : Value → AH → Prop} (ok : q.OK h0.length) (f : Fx h q vns at_ w u ol el) (x0 : Ex h0 h) (hns : Ints h0 vns ns) (hat : 0 ≤ at_ ∧ at_ ≤ 100000) (hn : 0 < n ∧ n ≤ 1000000)
    (k : ∀ r h', 0 ≤ r → r < n → r = gv ns at_ n → Fx h' q vns (at_ + 1) w u ol el → (∀ j, j ≠ q.px → h'[j]? = h[j]?) → h'.length = h.length → Ex h0 h' → K (.int .i64 r) h') : callW Tryz.prog 47 [.pointer (some ⟨q.px, 0, none⟩), .int .i64 n] h K := by
  have o1 := ok.h1; have o2 := ok.h2; have o3 := ok.h3; have o4 := ok.h4; have o5 := ok.h5
  have hlt := lt_of_get f.rx
  refine c47 ?_
  unfold s47
  refine w_nilc (w_offP (w_rdP f.rx (v := .int .i64 at_) rfl (w_add (by omega) (by omega) (w_nilc (w_offP (w_stP f.rx (show 1 < 2 by omega) rfl rfl ?_))))))
  have g1 : (h.set q.px (.row ([vns, .int .i64 at_].set (0 + 1) (.int .i64 (at_ + 1))) true))[q.px]? = some (.row [vns, .int .i64 (at_ + 1)] true) := get_set _ hlt _
  have hk : ∀ j, j ≠ q.px → (h.set q.px (.row ([vns, .int .i64 at_].set (0 + 1) (.int .i64 (at_ + 1))) true))[j]? = h[j]? := fun j hj => get_ne (Ne.symm hj) _
  have hl : (h.set q.px (.row ([vns, .int .i64 at_].set (0 + 1) (.int .i64 (at_ + 1))) true)).length = h.length := by simp
  have o0 := ok.h0
  have x1 : Ex h0 (h.set q.px (.row ([vns, .int .i64 at_].set (0 + 1) (.int .i64 (at_ + 1))) true)) := x0.set (by omega) _
  generalize h.set q.px (.row ([vns, .int .i64 at_].set (0 + 1) (.int .i64 (at_ + 1))) true) = h1 at *
  have f1 : Fx h1 q vns (at_ + 1) w u ol el := ⟨(hk _ (by omega)).trans f.r4, (hk _ (by omega)).trans f.r5, g1, (hk _ (by omega)).trans f.rOf, f.lOf, f.bOf, (hk _ (by omega)).trans f.rEn, f.lEn, (hk _ (by omega)).trans f.rof⟩
  refine w_nilc (w_offP (w_rdP g1 (v := .int .i64 (at_ + 1)) rfl (w_nilc (w_offP (w_rdP g1 (v := vns) rfl (w_len (hns.ex x1) (w_gtr ?_)))))))
  refine c_dec (fun q1 => ?_) (fun q1 => ?_)
  · refine w_nilc (w_offP (w_rdP g1 (v := .int .i64 (at_ + 1)) rfl (w_rem hn.1 (by omega) ?_)))
    exact k _ _ (Int.emod_nonneg _ (by omega)) (Int.emod_lt_of_pos _ hn.1) (by unfold gv; rw [if_pos q1]) f1 hk hl x1
  · refine w_nilc (w_offP (w_rdP g1 (v := vns) rfl (w_nilc (w_offP (w_rdP g1 (v := .int .i64 (at_ + 1)) rfl (w_sub (by omega) (by omega) ?_))))))
    obtain ⟨z, hz⟩ := getElem?_of_lt (l := ns) (i := (at_ + 1 - 1).toNat) (by omega)
    refine w_idxT (enc := eI) eI_len (hns.ex x1) (by omega) hz fun pp hpp => w_rd1 hpp rfl ?_
    refine within16 _ _ _ _ hn.1 (by omega) ?_
    have e1 : at_ + 1 - 1 = at_ := by omega
    rw [e1] at hz
    exact k _ _ (Int.emod_nonneg _ (by omega)) (Int.emod_lt_of_pos _ hn.1) (by unfold gv; rw [if_neg q1, List.getD_eq_getElem?_getD, hz]; rfl) f1 hk hl x1
end Go.Proofs.YtdlbiliolbdbmaaGreat.W
end

section
/- Top's laws, package fold: machines of numbers, the walk of Make: its beginning. Conditions: none. -/
namespace Go.Proofs.YtdlbiliolbdbmaaGreat.W
open Go Go.AM
set_option linter.unusedVariables false
set_option maxRecDepth 100000
theorem idob {a b : AH} {i off : Nat} {o : AObj} (h1 : a[i]? = some o) (h2 : b[i]? = some o) : ∀ z ∈ obOf (.pointer (some ⟨i, off, none⟩)), vw z a = vw z b := by
  intro z hz
  rw [List.mem_singleton.1 hz]
  exact vw_eq (h1.trans h2.symm)
theorem repL_map (z : Value) : ∀ k, repL [z] k = (List.range k).map fun _ => z
  | 0 => rfl
  | k + 1 => by
    show [z] ++ repL [z] k = _
    rw [repL_map z k, List.range_succ_eq_map]
    simp [List.map_map, Function.comp_def]
theorem repL_zero (k : Nat) : repL [.int .i64 0] k = flat eI (List.replicate k 0) := by
  induction k with
  | zero => rfl
  | succ k ih =>
    show [.int .i64 0] ++ repL [.int .i64 0] k = _
    rw [ih]
    rfl
theorem w_mk1 {b : Nat} {z : Value} {n : Nat} {K : Nat × Nat × List Value → Prop} (hb : b ≤ 256) (hn : n ≤ 1000) (k : K (n, n, repL [z] n)) : optW (mkSl 1 b [z] (.int .i64 n) (.int .i64 n)) K := by
  have hr : (1000000 : Nat) < room40 := by decide
  refine w_some (v := (n, n, repL [z] n)) ?_ k
  unfold mkSl
  dsimp only
  rw [if_pos ⟨by omega, by omega, by omega, hb, rfl⟩]
  rfl
def wq (a b : Int) : Int := IntKind.i64.wrap (a.tdiv b)
theorem w_quoW {P : Program} {t : TypeId} {a b : Int} {K : Value → Prop} (h : b ≠ 0) (k : K (.int .i64 (wq a b))) : optW (pBin P .quo t (.int .i64 a) (.int .i64 b)) K := by
  refine w_some (v := .int .i64 (IntKind.i64.wrap (a.tdiv b))) ?_ k
  show (if IntKind.i64 = IntKind.i64 then pBinI .quo .i64 a b else none) = _
  rw [if_pos rfl, pBinI, if_neg h]
structure QOf (a0 : Int) (q : Pl) : Prop where
  pl : q.pl = a0 % 3
  cl : q.cl = wq a0 3 % 3
  k : (q.k : Int) = 1 + wq a0 9 % 3
  n : (q.n : Int) = 1 + wq a0 9 % 3 + wq a0 27 % 6
def wnil : Nat → Value := fun _ => .slice none 0 0
theorem start14 {h : AH} {a0 : Int} {vns : Value} {ns : List Int} {Q : Value → Value → Value → Value → Value → Value → Value → Value → Value → Value → Value → Value → Value → Value → (Nat × Nat × List Value) → Nat → (Nat × Nat × List Value) → Nat → Value → Value → (Nat × Nat × List Value) → Nat → AH → Prop} (hns : Ints h vns ns)
    (k : ∀ (q : Pl) (h13 : AH), q.OK h.length → QOf a0 q → Ex h h13 → Fx h13 q vns 0 wnil wnil (List.replicate q.n 0) (List.replicate q.k 0) → SL h13 q.b2 wnil (fun _ => []) → q.b2 < h13.length →
      ∀ v25 v27 v28 v29 v31 v32 v36 v37 v40 c i c1 i1 v46 v47 r2, Q (.pointer (some ⟨q.p4, 0, none⟩)) v25 v27 v28 v29 (.pointer (some ⟨q.p5, 0, none⟩)) v31 v32 (.int .i64 q.k) v36 v37 (.int .i64 q.n) v40 (.pointer (some ⟨q.px, 0, none⟩)) c i c1 i1 v46 v47 (q.k, q.k, r2) q.b2 h13) :
  newR none [(.int .i64 0), (.int .i64 0), (.slice none 0 0), (.slice none 0 0), (.slice none 0 0), (.slice none 0 0), (.slice none 0 0), (.slice none 0 0)] h fun v4 h_1 =>
  callW Tryz.prog 46 [.int .i64 a0, (.int .i64 3)] h_1 fun v25 h_2 =>
  optW (pBin Tryz.prog .quo 3 (.int .i64 a0) (.int .i64 3)) fun v27 =>
  callW Tryz.prog 46 [v27, (.int .i64 3)] h_2 fun v28 h_3 =>
  optW (bld [(.int .i64 0), (.int .i64 0), (.slice none 0 0), (.slice none 0 0), (.slice none 0 0), (.slice none 0 0), (.slice none 0 0), (.slice none 0 0)] [(0, 1), (1, 1), (2, 1), (3, 1), (4, 1), (5, 1), (6, 1), (7, 1)] [(0, v25), (1, v28)]) fun v29 =>
  newR none [(.int .i64 0), (.int .i64 0), (.slice none 0 0), (.slice none 0 0), (.slice none 0 0), (.slice none 0 0), (.slice none 0 0), (.slice none 0 0)] h_3 fun v5 h_4 =>
  optW (pStore 8 v5 v29 h_4) fun h_5 =>
  optW (pBin Tryz.prog .quo 3 (.int .i64 a0) (.int .i64 9)) fun v31 =>
  callW Tryz.prog 46 [v31, (.int .i64 3)] h_5 fun v32 h_6 =>
  optW (pBin Tryz.prog .add 3 (.int .i64 1) v32) fun v33 =>
  optW (pBin Tryz.prog .quo 3 (.int .i64 a0) (.int .i64 27)) fun v36 =>
  callW Tryz.prog 46 [v36, (.int .i64 6)] h_6 fun v37 h_7 =>
  optW (pBin Tryz.prog .add 3 v33 v37) fun v38 =>
  optW (bld [(.slice none 0 0), (.int .i64 0)] [(0, 1), (1, 1)] [(0, vns)]) fun v40 =>
  aBox v40 none h_7 fun v41 h_8 =>
  optW (mkSl 1 8 [(.int .i64 0)] v38 v38) fun c =>
  newW (some (h_8.length)) (.row c.2.2 true) (reserve 2 h_8) fun i h_9 =>
  optW (mkSl 1 8 [(.int .i64 0)] v33 v33) fun c_1 =>
  newW (some (h_8.length + 1)) (.row c_1.2.2 true) h_9 fun i_1 h_10 =>
  optW (pOff 2 v5) fun v46 =>
  (∀ x ∈ obOf v46, vw x (h_9) = vw x (h_10)) ∧
  optW (pStore 1 v46 (.slice (some ⟨i, 0, none⟩) c.1 c.2.1) h_10) fun h_11 =>
  optW (pOff 3 v5) fun v47 =>
  optW (pStore 1 v47 (.slice (some ⟨i_1, 0, none⟩) c_1.1 c_1.2.1) h_11) fun h_12 =>
  optW (mkSl 1 24 [(.slice none 0 0)] v33 v33) fun c_2 =>
  newW none (.row c_2.2.2 true) h_12 fun i_2 h_13 => Q v4 v25 v27 v28 v29 v5 v31 v32 v33 v36 v37 v38 v40 v41 c i c_1 i_1 v46 v47 c_2 i_2 h_13 := by
  obtain ⟨sa, sn, sc, rfl⟩ := Sl.isSl hns
  refine n_rowv (c := z8) fun h1 x1 l1 g1 => ?_
  refine within16 _ _ _ _ (by decide) (by decide) ?_
  have p0 : 0 ≤ a0 % 3 ∧ a0 % 3 < 3 := ⟨Int.emod_nonneg _ (by decide), Int.emod_lt_of_pos _ (by decide)⟩
  generalize hpl : a0 % 3 = pl at *
  refine w_quoW (by decide) (within16 _ _ _ _ (by decide) (by decide) ?_)
  have c0 : 0 ≤ wq a0 3 % 3 ∧ wq a0 3 % 3 < 3 := ⟨Int.emod_nonneg _ (by decide), Int.emod_lt_of_pos _ (by decide)⟩
  generalize hcl : wq a0 3 % 3 = cl at *
  refine w_some (v := .agg #[.int .i64 pl, .int .i64 cl, .slice none 0 0, .slice none 0 0, .slice none 0 0, .slice none 0 0, .slice none 0 0, .slice none 0 0]) rfl ?_
  refine n_rowv (c := z8) fun h2 x2 l2 g2 => ?_
  refine w_stPA g2 rfl (Nat.le_refl 8) rfl ?_
  have hb2 := lt_of_get g2
  have g3 : (h2.set h1.length (.row [.int .i64 pl, .int .i64 cl, .slice none 0 0, .slice none 0 0, .slice none 0 0, .slice none 0 0, .slice none 0 0, .slice none 0 0] true))[h1.length]? = some (.row [.int .i64 pl, .int .i64 cl, .slice none 0 0, .slice none 0 0, .slice none 0 0, .slice none 0 0, .slice none 0 0, .slice none 0 0] true) := get_set _ hb2 _
  have g3a : (h2.set h1.length (.row [.int .i64 pl, .int .i64 cl, .slice none 0 0, .slice none 0 0, .slice none 0 0, .slice none 0 0, .slice none 0 0, .slice none 0 0] true))[h.length]? = some (.row z8 true) := (get_ne (by omega) _).trans (x2.some g1)
  have x3 : Ex h (h2.set h1.length (.row [.int .i64 pl, .int .i64 cl, .slice none 0 0, .slice none 0 0, .slice none 0 0, .slice none 0 0, .slice none 0 0, .slice none 0 0] true)) := (x1.trans x2).set (by omega) _
  have l3 : (h2.set h1.length (.row [.int .i64 pl, .int .i64 cl, .slice none 0 0, .slice none 0 0, .slice none 0 0, .slice none 0 0, .slice none 0 0, .slice none 0 0] true)).length = h1.length + 1 := by simp [l2]
  refine w_quoW (by decide) ?_
  generalize hd9 : wq a0 9 = d9
  generalize hH3 : h2.set h1.length _ = h3
  have e3 : h2.set h1.length (.row [.int .i64 pl, .int .i64 cl, .slice none 0 0, .slice none 0 0, .slice none 0 0, .slice none 0 0, .slice none 0 0, .slice none 0 0] true) = h3 := hH3
  rw [e3] at g3 g3a x3 l3
  clear hH3 e3
  refine within16 _ _ _ _ (by decide) (by decide) ?_
  have k0 : 0 ≤ d9 % 3 ∧ d9 % 3 < 3 := ⟨Int.emod_nonneg _ (by decide), Int.emod_lt_of_pos _ (by decide)⟩
  refine w_add (by omega) (by omega) ?_
  refine w_quoW (by decide) ?_
  generalize hd27 : wq a0 27 = d27
  refine within16 _ _ _ _ (by decide) (by decide) ?_
  have n0 : 0 ≤ d27 % 6 ∧ d27 % 6 < 6 := ⟨Int.emod_nonneg _ (by decide), Int.emod_lt_of_pos _ (by decide)⟩
  refine w_add (by omega) (by omega) ?_
  obtain ⟨kN, hkN⟩ : ∃ kN : Nat, (1 : Int) + d9 % 3 = kN := ⟨((1 : Int) + d9 % 3).toNat, by omega⟩
  obtain ⟨nN, hnN⟩ : ∃ nN : Nat, (1 : Int) + d9 % 3 + d27 % 6 = nN := ⟨((1 : Int) + d9 % 3 + d27 % 6).toNat, by omega⟩
  rw [hnN, hkN]
  refine w_some (v := .agg #[.slice sa sn sc, .int .i64 0]) rfl ?_
  refine n_boxv rfl fun h8 x8 l8 g8 => ?_
  refine w_mk1 (by decide) (by omega) (n_slot ?_)
  refine w_mk1 (by decide) (by omega) (n_slot ?_)
  have er : reserve 2 h8 = (h8 ++ [.dead]) ++ [.dead] := rfl
  have xr : Ex h8 (reserve 2 h8) := by rw [er]; exact (Ex.app _ _).trans (.app _ _)
  have lr : (reserve 2 h8).length = h8.length + 2 := by rw [er]; simp
  generalize reserve 2 h8 = hr at *
  have lt5 : h1.length < h8.length := by omega
  have a5 : (hr.set h8.length (.row (repL [.int .i64 0] nN) true))[h1.length]? = some (.row [.int .i64 pl, .int .i64 cl, .slice none 0 0, .slice none 0 0, .slice none 0 0, .slice none 0 0, .slice none 0 0, .slice none 0 0] true) := (get_ne (by omega) _).trans (xr.some (x8.some g3))
  have b5 : ((hr.set h8.length (.row (repL [.int .i64 0] nN) true)).set (h8.length + 1) (.row (repL [.int .i64 0] kN) true))[h1.length]? = some (.row [.int .i64 pl, .int .i64 cl, .slice none 0 0, .slice none 0 0, .slice none 0 0, .slice none 0 0, .slice none 0 0, .slice none 0 0] true) := (get_ne (by omega) _).trans a5
  have b10 : ∀ j, j < h8.length → ((hr.set h8.length (.row (repL [.int .i64 0] nN) true)).set (h8.length + 1) (.row (repL [.int .i64 0] kN) true))[j]? = h8[j]? := fun j hj => (get_ne (by omega) _).trans ((get_ne (by omega) _).trans (xr.get j hj))
  have bOf : ((hr.set h8.length (.row (repL [.int .i64 0] nN) true)).set (h8.length + 1) (.row (repL [.int .i64 0] kN) true))[h8.length]? = some (.row (repL [.int .i64 0] nN) true) := (get_ne (by omega) _).trans (get_set _ (by omega) _)
  have bEn : ((hr.set h8.length (.row (repL [.int .i64 0] nN) true)).set (h8.length + 1) (.row (repL [.int .i64 0] kN) true))[h8.length + 1]? = some (.row (repL [.int .i64 0] kN) true) := get_set _ (by simp [lr]) _
  have bl : ((hr.set h8.length (.row (repL [.int .i64 0] nN) true)).set (h8.length + 1) (.row (repL [.int .i64 0] kN) true)).length = h8.length + 2 := by simp [lr]
  refine w_offP ⟨idob a5 b5, ?_⟩
  generalize (hr.set h8.length (.row (repL [.int .i64 0] nN) true)).set (h8.length + 1) (.row (repL [.int .i64 0] kN) true) = h10 at *
  refine w_stP b5 (show 2 < 8 by omega) rfl rfl ?_
  have hb5 := lt_of_get b5
  refine w_offP (w_stP (get_set _ hb5 _) (show 3 < 8 by omega) rfl rfl ?_)
  refine w_mk1 (by decide) (by omega) ?_
  refine n_newv fun h13 x13 l13 g13 => ?_
  have e12 : ∀ (o o' : AObj) j, j ≠ h1.length → ((h10.set h1.length o).set h1.length o')[j]? = h10[j]? := fun o o' j hj => (get_ne (Ne.symm hj) _).trans (get_ne (Ne.symm hj) _)
  have l12 : ∀ (o o' : AObj), ((h10.set h1.length o).set h1.length o').length = h8.length + 2 := fun o o' => by simp [bl]
  have g12 : ∀ (o o' : AObj), ((h10.set h1.length o).set h1.length o')[h1.length]? = some o' := fun o o' => get_set _ (by simpa using hb5) _
  have hx10 : ∀ (o o' : AObj), Ex h ((h10.set h1.length o).set h1.length o') := fun o o' => ⟨by rw [l12]; have := x3.len; omega, fun j hj => (e12 o o' j (by omega)).trans ((b10 j (by have := x3.len; omega)).trans ((x8.get j (by have := x3.len; omega)).trans (x3.get j hj)))⟩
  have lb : h13.length = h8.length + 3 := by rw [l13, l12]
  have F4 : h13[h.length]? = some (.row z8 true) := x13.some ((e12 _ _ _ (by omega)).trans ((b10 _ (by omega)).trans (x8.some g3a)))
  have F5 := x13.some (g12 _ _)
  have FX : h13[h3.length]? = some (.row [.slice sa sn sc, .int .i64 0] true) := x13.some ((e12 _ _ _ (by omega)).trans ((b10 _ (by omega)).trans g8))
  have FOf : h13[h8.length]? = some (.row (flat eI (List.replicate nN 0)) true) := by
    rw [← repL_zero]
    exact x13.some ((e12 _ _ _ (by omega)).trans bOf)
  have FEn : h13[h8.length + 1]? = some (.row (flat eI (List.replicate kN 0)) true) := by
    rw [← repL_zero]
    exact x13.some ((e12 _ _ _ (by omega)).trans bEn)
  have FB : h13[h8.length + 2]? = some (.row ((List.range kN).map wnil) true) := by
    have e : (List.range kN).map wnil = repL [.slice none 0 0] kN := (repL_map _ _).symm
    rw [e]
    have := g13
    rw [l12] at this
    exact this
  have ei : ((h10.set h1.length (.row (List.set [.int .i64 pl, .int .i64 cl, .slice none 0 0, .slice none 0 0, .slice none 0 0, .slice none 0 0, .slice none 0 0, .slice none 0 0] (0 + 2) (.slice (some ⟨h8.length, 0, none⟩) nN nN)) true)).set h1.length (.row (List.set (List.set [.int .i64 pl, .int .i64 cl, .slice none 0 0, .slice none 0 0, .slice none 0 0, .slice none 0 0, .slice none 0 0, .slice none 0 0] (0 + 2) (.slice (some ⟨h8.length, 0, none⟩) nN nN)) (0 + 3) (.slice (some ⟨h8.length + 1, 0, none⟩) kN kN)) true)).length = h8.length + 2 := l12 _ _
  have res := k ⟨h.length, h1.length, h3.length, h8.length, h8.length + 1, h8.length + 2, nN, kN, pl, cl⟩ h13 ⟨Nat.le_refl _, by show h.length < h1.length; omega, by show h1.length < h3.length; omega, by show h3.length < h8.length; omega, by show h8.length < h8.length + 1; omega, by show h8.length + 1 < h8.length + 2; omega, by show kN ≤ nN ∧ nN ≤ 8; omega, by show 1 ≤ kN ∧ kN ≤ 3; omega, by show 0 ≤ pl ∧ pl ≤ 2; omega, by show 0 ≤ cl ∧ cl ≤ 2; omega⟩ ⟨hpl.symm, hcl.symm, by rw [hd9]; show (kN : Int) = _; omega, by rw [hd9, hd27]; show (nN : Int) = _; omega⟩ ((hx10 _ _).trans x13)
    ⟨F4, F5, FX, FOf, by simp, fun x hx => by have := List.eq_of_mem_replicate hx; show 0 ≤ x ∧ x < (kN : Int); omega, FEn, by simp, FB⟩ (SL.nil _ _) (by show h8.length + 2 < h13.length; omega)
  show Q _ _ _ _ _ _ _ _ _ _ _ _ _ _ _ _ _ _ _ _ _ ((h10.set h1.length (.row (List.set [.int .i64 pl, .int .i64 cl, .slice none 0 0, .slice none 0 0, .slice none 0 0, .slice none 0 0, .slice none 0 0, .slice none 0 0] (0 + 2) (.slice (some ⟨h8.length, 0, none⟩) nN nN)) true)).set h1.length (.row (List.set (List.set [.int .i64 pl, .int .i64 cl, .slice none 0 0, .slice none 0 0, .slice none 0 0, .slice none 0 0, .slice none 0 0, .slice none 0 0] (0 + 2) (.slice (some ⟨h8.length, 0, none⟩) nN nN)) (0 + 3) (.slice (some ⟨h8.length + 1, 0, none⟩) kN kN)) true)).length h13
  rw [ei]
  exact res _ _ _ _ _ _ _ _ _ _ _ _ _ _ _ _
end Go.Proofs.YtdlbiliolbdbmaaGreat.W
end

section
/- Top's laws, package fold: machines of numbers, the walk of Make: its steps. Conditions: none. -/
namespace Go.Proofs.YtdlbiliolbdbmaaGreat.W
open Go Go.AM
set_option linter.unusedVariables false
set_option maxRecDepth 100000
def uOf (v : Nat → Value) : Nat → Value := fun c => v (4 + c)
inductive Tg where
  | no | off | ent | fin | inS | lowS | retS | inn (p : Nat) | low (p : Nat) | ret (p : Nat) | rr (p j : Nat)
def RowsT (h : AH) (o : Nat → Tg) (tg : Nat → Tg) (vals : List Value) (ls : List (List Int)) : Prop :=
  vals.length = ls.length ∧ ∀ p l, ls[p]? = some l → ∃ v, vals[p]? = some v ∧ OwnG 1 (fun j => o j = tg p) h v l.length (flat eI l)
def RetsT (h : AH) (o : Nat → Tg) (vals : List Value) (rs : List (List (List Int))) : Prop :=
  vals.length = rs.length ∧ ∀ p r, rs[p]? = some r → ∃ v vs, vals[p]? = some v ∧ OwnG 1 (fun j => o j = .ret p) h v vs.length vs ∧ RowsT h o (.rr p) vs r
theorem RowsT.nil (h : AH) (o tg : Nat → Tg) : RowsT h o tg [] [] := ⟨rfl, fun _ _ h => by simp at h⟩
theorem RetsT.nil (h : AH) (o : Nat → Tg) : RetsT h o [] [] := ⟨rfl, fun _ _ h => by simp at h⟩
theorem RowsT.mono {h h' : AH} {o o' tg : Nat → Tg} {vals : List Value} {ls : List (List Int)} (r : RowsT h o tg vals ls) (ht : ∀ p, tg p ≠ .no) (hh : ∀ j, o j ≠ .no → o' j = o j ∧ h'[j]? = h[j]?) : RowsT h' o' tg vals ls := by
  refine ⟨r.1, fun p l hl => ?_⟩
  obtain ⟨v, h1, h2⟩ := r.2 p l hl
  exact ⟨v, h1, h2.mono (fun j _ hj => (hh j (by rw [hj]; exact ht p)).1.trans hj) fun j _ hj => (hh j (by rw [hj]; exact ht p)).2⟩
theorem RetsT.mono {h h' : AH} {o o' : Nat → Tg} {vals : List Value} {rs : List (List (List Int))} (r : RetsT h o vals rs) (hh : ∀ j, o j ≠ .no → o' j = o j ∧ h'[j]? = h[j]?) : RetsT h' o' vals rs := by
  refine ⟨r.1, fun p l hl => ?_⟩
  obtain ⟨v, vs, h1, h2, h3⟩ := r.2 p l hl
  exact ⟨v, vs, h1, h2.mono (fun j _ hj => (hh j (by rw [hj]; exact Tg.noConfusion)).1.trans hj) fun j _ hj => (hh j (by rw [hj]; exact Tg.noConfusion)).2, h3.mono (fun _ => Tg.noConfusion) hh⟩
theorem getElem?_snoc {α : Type} {l : List α} {x y : α} {p : Nat} (h : (l ++ [x])[p]? = some y) : l[p]? = some y ∨ p = l.length ∧ y = x := by
  rw [List.getElem?_append] at h
  by_cases hp : p < l.length
  · rw [if_pos hp] at h; exact .inl h
  · rw [if_neg hp] at h
    have : p - l.length = 0 := by
      have := (List.getElem?_eq_some_iff.1 h).1
      simp at this; omega
    rw [this] at h
    simp at h
    exact .inr ⟨by omega, h.symm⟩
theorem RowsT.snoc {h : AH} {o tg : Nat → Tg} {vals : List Value} {ls : List (List Int)} {v : Value} {l : List Int} (r : RowsT h o tg vals ls) (hv : OwnG 1 (fun j => o j = tg ls.length) h v l.length (flat eI l)) : RowsT h o tg (vals ++ [v]) (ls ++ [l]) := by
  refine ⟨by simp [r.1], fun p l' hl => ?_⟩
  rcases getElem?_snoc hl with hl | ⟨rfl, rfl⟩
  · obtain ⟨v', h1, h2⟩ := r.2 p l' hl
    exact ⟨v', by rw [List.getElem?_append_left (List.getElem?_eq_some_iff.1 h1).1]; exact h1, h2⟩
  · exact ⟨v, by rw [← r.1]; simp, hv⟩
theorem RetsT.snoc {h : AH} {o : Nat → Tg} {vals : List Value} {rs : List (List (List Int))} {v : Value} {vs : List Value} {l : List (List Int)} (r : RetsT h o vals rs) (hv : OwnG 1 (fun j => o j = .ret rs.length) h v vs.length vs) (hr : RowsT h o (.rr rs.length) vs l) : RetsT h o (vals ++ [v]) (rs ++ [l]) := by
  refine ⟨by simp [r.1], fun p l' hl => ?_⟩
  rcases getElem?_snoc hl with hl | ⟨rfl, rfl⟩
  · obtain ⟨v', vs', h1, h2⟩ := r.2 p l' hl
    exact ⟨v', vs', by rw [List.getElem?_append_left (List.getElem?_eq_some_iff.1 h1).1]; exact h1, h2⟩
  · exact ⟨v, vs, by rw [← r.1]; simp, hv, hr⟩
structure MD where
  at_ : Int
  v : Nat → Value
  cs : Nat → List Value
  ol : List Int
  el : List Int
  o : Nat → Tg
  ins : List (List Int)
  lows : List (List Int)
  rets : List (List (List Int))
  cur : List (List Int)
structure MS (h0 h : AH) (q : Pl) (vns : Value) (d : MD) : Prop where
  ex : Ex h0 h
  fx : Fx h q vns d.at_ d.v (uOf d.v) d.ol d.el
  sl : SL h q.b2 d.v d.cs
  lt : q.b2 < h.length
  sm : ∀ i, i < 11 → (d.cs i).length ≤ 100000
  fz : ∀ j, d.o j ≠ .no → q.b2 < j ∧ j < h.length ∧ ∀ i, i < 11 → ¬ onId (d.v i) j
  rIn : RowsT h d.o .inn (d.cs 1) d.ins
  rLow : RowsT h d.o .low (d.cs 2) d.lows
  rRet : RetsT h d.o (d.cs 3) d.rets
  rCur : RowsT h d.o (.rr d.rets.length) (d.cs 9) d.cur
theorem SL.on {h : AH} {b2 : Nat} {v : Nat → Value} {cs : Nat → List Value} (s : SL h b2 v cs) {i j : Nat} (hi : i < 11) (hj : onId (v i) j) : b2 < j ∧ j < h.length := (s.own i hi).on hj
theorem w_ix {b : Nat} {k : Nat} {c : Nat} {K : Value → Prop} (hc : c < k) (hk : K (.pointer (some ⟨b, c, none⟩))) : optW (pIdxS 1 (.slice (some ⟨b, 0, none⟩) k k) (.int .i64 (c : Nat))) K := by
  refine w_some (v := .pointer (some ⟨b, 0 + ((c : Nat) : Int).toNat * 1, none⟩)) ?_ ?_
  · unfold pIdxS
    dsimp only
    rw [if_pos ⟨by omega, by omega⟩]
  · have : 0 + ((c : Nat) : Int).toNat * 1 = c := by omega
    rw [this]
    exact hk
theorem range_get {k c : Nat} {u : Nat → Value} (hc : c < k) : ((List.range k).map u)[c]? = some (u c) := by
  rw [List.getElem?_map, List.getElem?_range hc]; rfl
theorem range_set {k c : Nat} {u : Nat → Value} {x : Value} (hc : c < k) : ((List.range k).map u).set c x = (List.range k).map (fun j => if j = c then x else u j) := by
  refine List.ext_getElem? fun i => ?_
  by_cases hi : i < k
  · rw [range_get hi]
    by_cases e : c = i
    · subst e
      rw [List.getElem?_set_self (by simpa using hc), if_pos rfl]
    · rw [List.getElem?_set_ne e, range_get hi, if_neg (fun h => e h.symm)]
  · rw [List.getElem?_eq_none (by simp; omega), List.getElem?_eq_none (by simp; omega)]
theorem MS.keepC {h0 h h' : AH} {q : Pl} {vns : Value} {d : MD} (ok : q.OK h0.length) (s : MS h0 h q vns d) (x : Ex h0 h') (hl : h.length ≤ h'.length) (hh : ∀ j, j < h.length → h'[j]? = h[j]?) : MS h0 h' q vns d := by
  have fzh : ∀ j, d.o j ≠ .no → d.o j = d.o j ∧ h'[j]? = h[j]? := fun j hj => ⟨rfl, hh j (s.fz j hj).2.1⟩
  exact ⟨x, s.fx.keep ok fun j hj => hh j (Nat.lt_of_le_of_lt hj s.lt), s.sl.keep fun j _ hj => hh j hj, Nat.lt_of_lt_of_le s.lt hl, s.sm, fun j hj => by have := s.fz j hj; exact ⟨this.1, by omega, this.2.2⟩, s.rIn.mono (fun _ => Tg.noConfusion) fzh, s.rLow.mono (fun _ => Tg.noConfusion) fzh, s.rRet.mono fzh, s.rCur.mono (fun _ => Tg.noConfusion) fzh⟩
theorem MS.keepX {h0 h h' : AH} {q : Pl} {vns : Value} {d : MD} (ok : q.OK h0.length) (s : MS h0 h q vns d) (x : Ex h h') : MS h0 h' q vns d :=
  s.keepC ok (s.ex.trans x) x.len fun j hj => x.get j hj
theorem bigN : (1000000 : Nat) < room40 := by decide
theorem MS.get {h0 h : AH} {q : Pl} {vns : Value} {ns : List Int} {n : Int} {d : MD} {K : Value → AH → Prop} (ok : q.OK h0.length) (s : MS h0 h q vns d) (hns : Ints h0 vns ns) (hat : 0 ≤ d.at_ ∧ d.at_ ≤ 100000) (hn : 0 < n ∧ n ≤ 1000000)
    (k : ∀ r h', 0 ≤ r → r < n → r = gv ns d.at_ n → MS h0 h' q vns { d with at_ := d.at_ + 1 } → (∀ j, j ≠ q.px → h'[j]? = h[j]?) → h'.length = h.length → K (.int .i64 r) h') : callW Tryz.prog 47 [.pointer (some ⟨q.px, 0, none⟩), .int .i64 n] h K := by
  have o2 := ok.h2; have o3 := ok.h3; have o4 := ok.h4; have o5 := ok.h5
  refine get30 ok s.fx s.ex hns hat hn fun r h' r0 r1 rg f' hk hl x' => ?_
  have fzh : ∀ j, d.o j ≠ .no → d.o j = d.o j ∧ h'[j]? = h[j]? := fun j hj => ⟨rfl, hk j (by have := (s.fz j hj).1; omega)⟩
  exact k r h' r0 r1 rg ⟨x', f', s.sl.keep fun j hj _ => hk j (by omega), by have := s.lt; omega, s.sm, fun j hj => by have := s.fz j hj; exact ⟨this.1, by omega, this.2.2⟩, s.rIn.mono (fun _ => Tg.noConfusion) fzh, s.rLow.mono (fun _ => Tg.noConfusion) fzh, s.rRet.mono fzh, s.rCur.mono (fun _ => Tg.noConfusion) fzh⟩ hk hl
theorem updV_ne {v : Nat → Value} {i j : Nat} {x : Value} (h : j ≠ i) : updV v i x j = v j := by unfold updV; rw [if_neg h]
theorem updV_eq {v : Nat → Value} {i : Nat} {x : Value} : updV v i x i = x := by unfold updV; rw [if_pos rfl]
theorem updC_ne {v : Nat → List Value} {i j : Nat} {x : List Value} (h : j ≠ i) : updC v i x j = v j := by unfold updC; rw [if_neg h]
theorem updC_eq {v : Nat → List Value} {i : Nat} {x : List Value} : updC v i x i = x := by unfold updC; rw [if_pos rfl]
theorem MS.upd {h0 h h' : AH} {q : Pl} {vns : Value} {d : MD} {i : Nat} {v' : Value} {c' : List Value} {ol : List Int} (ok : q.OK h0.length) (s : MS h0 h q vns d) (hi : i = 0 ∨ 4 ≤ i ∧ i < 9 ∨ i = 10) (x : Ex h0 h') (fx : Fx h' q vns d.at_ (updV d.v i v') (uOf (updV d.v i v')) ol d.el) (sl : SL h' q.b2 (updV d.v i v') (updC d.cs i c')) (hl : h.length ≤ h'.length) (hs : c'.length ≤ 100000)
    (hv : ∀ j, onId v' j → onId (d.v i) j ∨ h.length ≤ j) (hh : ∀ j, q.b2 < j → j < h.length → (∀ i, i < 11 → ¬ onId (d.v i) j) → h'[j]? = h[j]?) : MS h0 h' q vns { d with v := updV d.v i v', cs := updC d.cs i c', ol := ol } := by
  have fzh : ∀ j, d.o j ≠ .no → d.o j = d.o j ∧ h'[j]? = h[j]? := fun j hj => ⟨rfl, hh j (s.fz j hj).1 (s.fz j hj).2.1 (s.fz j hj).2.2⟩
  have hlt := s.lt
  refine ⟨x, fx, sl, by omega, fun j hj => ?_, fun j hj => ?_, ?_, ?_, ?_, ?_⟩
  · show (updC d.cs i c' j).length ≤ _
    by_cases e : j = i
    · subst e; rw [updC_eq]; exact hs
    · rw [updC_ne e]; exact s.sm j hj
  · have f := s.fz j hj
    refine ⟨f.1, by omega, fun a ha => ?_⟩
    show ¬ onId (updV d.v i v' a) j
    by_cases e : a = i
    · subst e; rw [updV_eq]
      intro hc
      rcases hv j hc with h | h
      · exact f.2.2 a ha h
      · omega
    · rw [updV_ne e]; exact f.2.2 a ha
  · show RowsT h' d.o .inn (updC d.cs i c' 1) d.ins
    rw [updC_ne (by omega)]
    exact s.rIn.mono (fun _ => Tg.noConfusion) fzh
  · show RowsT h' d.o .low (updC d.cs i c' 2) d.lows
    rw [updC_ne (by omega)]
    exact s.rLow.mono (fun _ => Tg.noConfusion) fzh
  · show RetsT h' d.o (updC d.cs i c' 3) d.rets
    rw [updC_ne (by omega)]
    exact s.rRet.mono fzh
  · show RowsT h' d.o (.rr d.rets.length) (updC d.cs i c' 9) d.cur
    rw [updC_ne (by omega)]
    exact s.rCur.mono (fun _ => Tg.noConfusion) fzh
theorem SL.shape {h : AH} {b2 : Nat} {v : Nat → Value} {cs : Nat → List Value} {i : Nat} {x : Value} {c : List Value} (s : SL h b2 (updV v i x) (updC cs i c)) (hi : i < 11) : ∃ a n d, x = .slice a n d := by
  obtain ⟨a, d, e⟩ := (s.own i hi).sl.shape
  rw [updV_eq] at e
  exact ⟨a, _, d, e⟩
theorem setsAdd {h0 h : AH} {q : Pl} {vns : Value} {d : MD} {c : Nat} {x : Int} {Q : Value → Value → List Value → Nat → Value → Value → AH → Prop} (ok : q.OK h0.length) (s : MS h0 h q vns d) (hc : c < q.k) (hsm : (d.cs (4 + c)).length + 1 ≤ 100000)
    (k : ∀ h' v', MS h0 h' q vns { d with v := updV d.v (4 + c) v', cs := updC d.cs (4 + c) (d.cs (4 + c) ++ [.int .i64 x]) } → ∀ a1 a2 a3 a4 a5 a6, Q a1 a2 a3 a4 a5 a6 h') :
    optW (pIdxS 1 (.slice (some ⟨q.b2, 0, none⟩) q.k q.k) (.int .i64 c)) fun v71 =>
    optW (rdRow false 1 v71 h) fun v72 =>
    optW (bldSl 1 [(.int .i64 0)] 1 [(0, (.int .i64 x))]) fun c_3 =>
    newW none (.row c_3 true) h fun i_3 h_17 =>
    appSl 1 v72 (.slice (some ⟨i_3, 0, none⟩) 1 1) h_17 fun v75 h_18 =>
    optW (pIdxS 1 (.slice (some ⟨q.b2, 0, none⟩) q.k q.k) (.int .i64 c)) fun v76 =>
    optW (pStore 1 v76 v75 h_18) fun h_19 => Q v71 v72 c_3 i_3 v75 v76 h_19 := by
  have o0 := ok.h0; have o1 := ok.h1; have o2 := ok.h2; have o3 := ok.h3; have o4 := ok.h4; have o5 := ok.h5
  have ok3 := ok.k
  have hb := bigN
  refine w_ix hc (w_rdP s.fx.rof (v := uOf d.v c) (range_get hc) ?_)
  refine w_some (bldSl_one rfl (by decide) rfl rfl) ?_
  refine n_newv fun h1 x1 l1 g1 => ?_
  have s1 := s.keepX ok x1
  have hlt := s.lt
  refine SL.app (r := h.length) s1.sl (4 + c) (by omega) g1 s1.lt (fun i hi hh => by have := s.sl.on hi hh; omega) (by omega) fun v' h2 sl2 k2 l2 kk2 id2 => ?_
  have gb : h2[q.b2]? = some (.row ((List.range q.k).map (uOf d.v)) true) := (k2 _ (Nat.le_refl _)).trans s1.fx.rof
  have hlb := lt_of_get gb
  obtain ⟨va, vn, vd, rfl⟩ := sl2.shape (by omega)
  refine w_ix hc (w_stP gb (by simpa using hc) rfl rfl ?_)
  have f2 := s1.fx.keep (h' := h2) ok k2
  have hne : ∀ j, j ≠ q.b2 → (h2.set q.b2 (.row (((List.range q.k).map (uOf d.v)).set c (.slice va vn vd)) true))[j]? = h2[j]? := fun j hj => get_ne (Ne.symm hj) _
  refine k _ (.slice va vn vd) (s.upd ok (by omega) ?_ ?_ (sl2.set (Nat.le_refl _) _) (by simp; omega) (by simpa using hsm) (fun j hj => (id2 j hj).imp id (by omega)) fun j hj hj2 hno => (hne j (by omega)).trans ((kk2 j (by omega) hno).trans (x1.get j hj2))) _ _ _ _ _ _
  · refine Ex.set ?_ (by omega) _
    exact ⟨by have := s1.ex.len; omega, fun j hj => (k2 j (by omega)).trans (s1.ex.get j hj)⟩
  · refine ⟨(hne _ (by omega)).trans f2.r4, ?_, (hne _ (by omega)).trans f2.rx, (hne _ (by omega)).trans f2.rOf, f2.lOf, f2.bOf, (hne _ (by omega)).trans f2.rEn, f2.lEn, ?_⟩
    · have e : mrow q (updV d.v (4 + c) (.slice va vn vd)) = mrow q d.v := by
        unfold mrow
        rw [updV_ne (by omega), updV_ne (by omega), updV_ne (by omega), updV_ne (by omega)]
      rw [e]
      exact (hne _ (by omega)).trans f2.r5
    · rw [get_set _ hlb, range_set hc]
      have e : (fun j => if j = c then Value.slice va vn vd else uOf d.v j) = uOf (updV d.v (4 + c) (.slice va vn vd)) := by
        funext j
        unfold uOf updV
        by_cases e : j = c
        · rw [if_pos e, if_pos (by omega)]
        · rw [if_neg e, if_neg (by omega)]
      rw [e]
theorem finAdd {h0 h : AH} {q : Pl} {vns : Value} {ns : List Int} {d : MD} {Q : Value → Value → Value → Value → List Value → Nat → Value → Value → AH → Prop} (ok : q.OK h0.length) (s : MS h0 h q vns d) (hns : Ints h0 vns ns) (hat : 0 ≤ d.at_ ∧ d.at_ ≤ 100000) (hsm : (d.cs 0).length + 1 ≤ 100000)
    (k : ∀ h' v' b, b = decide (gv ns d.at_ 3 = 0) → MS h0 h' q vns { d with at_ := d.at_ + 1, v := updV d.v 0 v', cs := updC d.cs 0 (d.cs 0 ++ [.bool b]) } → ∀ a1 a2 a3 a4 a5 a6 a7 a8, Q a1 a2 a3 a4 a5 a6 a7 a8 h') :
    optW (pOff 4 (.pointer (some ⟨q.p5, 0, none⟩))) fun v77 =>
    optW (rdRow false 1 v77 (reserve 1 h)) fun v78 =>
    callW Tryz.prog 47 [.pointer (some ⟨q.px, 0, none⟩), (.int .i64 3)] (reserve 1 h) fun v80 h_20 =>
    (∀ x ∈ ceOf 1 v77, vw x (reserve 1 h) = vw x (h_20)) ∧
    optW (pBin Tryz.prog .eql 3 v80 (.int .i64 0)) fun v81 =>
    optW (bldSl 1 [(.bool false)] 1 [(0, v81)]) fun c_4 =>
    newW (some (h.length)) (.row c_4 true) h_20 fun i_4 h_21 =>
    appSl 1 v78 (.slice (some ⟨i_4, 0, none⟩) 1 1) h_21 fun v83 h_22 =>
    optW (pOff 4 (.pointer (some ⟨q.p5, 0, none⟩))) fun v84 =>
    optW (pStore 1 v84 v83 h_22) fun h_23 => Q v77 v78 v80 v81 c_4 i_4 v83 v84 h_23 := by
  have o0 := ok.h0; have o1 := ok.h1; have o2 := ok.h2; have o3 := ok.h3; have o4 := ok.h4; have o5 := ok.h5
  have hb := bigN
  have sr := s.keepX ok (Ex.res h)
  refine w_offP (w_rdP sr.fx.r5 (v := d.v 0) rfl ?_)
  refine sr.get ok hns hat (by decide) fun r h1 _ _ rg s1 k1 l1 => ?_
  refine ⟨idrow sr.fx.r5 s1.fx.r5, ?_⟩
  refine w_eql (w_some (bldSl_one rfl (by decide) rfl rfl) (n_slot ?_))
  have lr : (reserve 1 h).length = h.length + 1 := by rw [reserve_one]; simp
  have hlt := s.lt
  have g2 : (h1.set h.length (.row [.bool (decide (r = 0))] true))[h.length]? = some (.row [.bool (decide (r = 0))] true) := get_set _ (by omega) _
  have k2 : ∀ j, j ≠ h.length → (h1.set h.length (.row [.bool (decide (r = 0))] true))[j]? = h1[j]? := fun j hj => get_ne (Ne.symm hj) _
  have l2 : (h1.set h.length (.row [.bool (decide (r = 0))] true)).length = h.length + 1 := by simp; omega
  have sl2 : SL (h1.set h.length (.row [.bool (decide (r = 0))] true)) q.b2 d.v d.cs := ⟨fun i hi => (s1.sl.own i hi).mono (fun _ _ h => h) fun j hj _ => k2 j (by have := s.sl.on hi hj; omega), s1.sl.ap⟩
  have f2 : Fx (h1.set h.length (.row [.bool (decide (r = 0))] true)) q vns (d.at_ + 1) d.v (uOf d.v) d.ol d.el := s1.fx.keep ok fun j hj => k2 j (by omega)
  have x2 : Ex h0 (h1.set h.length (.row [.bool (decide (r = 0))] true)) := s1.ex.set (by omega) _
  have kx : ∀ j, q.b2 < j → j < h.length → (h1.set h.length (.row [.bool (decide (r = 0))] true))[j]? = h[j]? := fun j hj hj2 => (k2 j (by omega)).trans ((k1 j (by omega)).trans ((Ex.res h).get j hj2))
  refine SL.app (r := h.length) sl2 0 (by omega) g2 (by omega) (fun i hi hh => by have := s.sl.on hi hh; omega) (by omega) fun v' h3 sl3 k3 l3 kk3 id3 => ?_
  obtain ⟨va, vn, vd, rfl⟩ := sl3.shape (by omega)
  have f3 := f2.keep (h' := h3) ok k3
  have hl5 := lt_of_get f3.r5
  refine w_offP (w_stP f3.r5 (show 4 < 8 by omega) rfl rfl ?_)
  have hne : ∀ j, j ≠ q.p5 → (h3.set q.p5 (.row ((mrow q d.v).set (0 + 4) (.slice va vn vd)) true))[j]? = h3[j]? := fun j hj => get_ne (Ne.symm hj) _
  have se : MS h0 h q vns { d with at_ := d.at_ } := s
  have sa : MS h0 (h1.set h.length (.row [.bool (decide (r = 0))] true)) q vns { d with at_ := d.at_ + 1 } :=
    ⟨x2, f2, sl2, by omega, s1.sm, fun j hj => by have := s.fz j hj; exact ⟨this.1, by omega, this.2.2⟩, s1.rIn.mono (fun _ => Tg.noConfusion) fun j hj => ⟨rfl, k2 j (by have := s.fz j hj; omega)⟩, s1.rLow.mono (fun _ => Tg.noConfusion) fun j hj => ⟨rfl, k2 j (by have := s.fz j hj; omega)⟩, s1.rRet.mono fun j hj => ⟨rfl, k2 j (by have := s.fz j hj; omega)⟩, s1.rCur.mono (fun _ => Tg.noConfusion) fun j hj => ⟨rfl, k2 j (by have := s.fz j hj; omega)⟩⟩
  refine k _ (.slice va vn vd) (decide (r = 0)) (by rw [rg]) (sa.upd ok (.inl rfl) ?_ ?_ (sl3.set (by omega) _) (by simp; omega) (by simpa using hsm) (fun j hj => (id3 j hj).imp id (by omega)) fun j hj hj2 hno => (hne j (by omega)).trans (kk3 j (by omega) hno)) _ _ _ _ _ _ _ _
  · refine Ex.set ?_ (by omega) _
    exact ⟨by have := x2.len; omega, fun j hj => (k3 j (by omega)).trans (x2.get j hj)⟩
  · refine ⟨(hne _ (by omega)).trans f3.r4, get_set _ hl5 _, (hne _ (by omega)).trans f3.rx, (hne _ (by omega)).trans f3.rOf, f3.lOf, f3.bOf, (hne _ (by omega)).trans f3.rEn, f3.lEn, ?_⟩
    have e : uOf (updV d.v 0 (.slice va vn vd)) = uOf d.v := by
      funext j
      unfold uOf updV
      rw [if_neg (by omega)]
    rw [e]
    exact (hne _ (by omega)).trans f3.rof
end Go.Proofs.YtdlbiliolbdbmaaGreat.W
end

section
/- Top's laws, package fold: machines of numbers, the walk of Make: more of its steps. Conditions: none. -/
namespace Go.Proofs.YtdlbiliolbdbmaaGreat.W
open Go Go.AM
set_option linter.unusedVariables false
set_option maxRecDepth 100000
theorem MS.setB {h0 h h' : AH} {q : Pl} {vns : Value} {d : MD} {ol el : List Int} (ok : q.OK h0.length) (s : MS h0 h q vns d) (x : Ex h0 h') (fx : Fx h' q vns d.at_ d.v (uOf d.v) ol el) (hl : h'.length = h.length) (hh : ∀ j, q.b2 < j → h'[j]? = h[j]?) : MS h0 h' q vns { d with ol := ol, el := el } := by
  have fzh : ∀ j, d.o j ≠ .no → d.o j = d.o j ∧ h'[j]? = h[j]? := fun j hj => ⟨rfl, hh j (s.fz j hj).1⟩
  exact ⟨x, fx, s.sl.keep fun j hj _ => hh j hj, by have := s.lt; omega, s.sm, fun j hj => by have := s.fz j hj; exact ⟨this.1, by omega, this.2.2⟩, s.rIn.mono (fun _ => Tg.noConfusion) fzh, s.rLow.mono (fun _ => Tg.noConfusion) fzh, s.rRet.mono fzh, s.rCur.mono (fun _ => Tg.noConfusion) fzh⟩
theorem flat_eI (l : List Int) : flat eI l = l.map (.int .i64) := by
  induction l with
  | nil => rfl
  | cons a l ih => show eI a ++ flat eI l = _; rw [ih]; rfl
theorem flat_eI_set (l : List Int) (i : Nat) (x : Int) : (flat eI l).set i (.int .i64 x) = flat eI (l.set i x) := by
  rw [flat_eI, flat_eI, List.map_set]
theorem flat_eI_get {l : List Int} {i : Nat} {x : Int} (h : l[i]? = some x) : (flat eI l)[i]? = some (.int .i64 x) := by
  rw [flat_eI, List.getElem?_map, h]; rfl
theorem flat_eI_len (l : List Int) : (flat eI l).length = l.length := by rw [flat_eI, List.length_map]
theorem ofSet {h0 h : AH} {q : Pl} {vns : Value} {d : MD} {p c : Nat} {Q : Value → Value → Value → AH → Prop} (ok : q.OK h0.length) (s : MS h0 h q vns d) (hp : p < q.n) (hc : c < q.k)
    (k : ∀ h', MS h0 h' q vns { d with ol := d.ol.set p c } → ∀ a1 a2 a3, Q a1 a2 a3 h') :
    optW (pOff 2 (.pointer (some ⟨q.p5, 0, none⟩))) fun v62 =>
    optW (rdRow false 1 v62 h) fun v63 =>
    optW (pIdxS 1 v63 (.int .i64 (p : Nat))) fun v66 =>
    optW (pStore 1 v66 (.int .i64 (c : Nat)) h) fun h_16 => Q v62 v63 v66 h_16 := by
  have o0 := ok.h0; have o1 := ok.h1; have o2 := ok.h2; have o3 := ok.h3; have o4 := ok.h4; have o5 := ok.h5
  have lOf := s.fx.lOf
  refine w_offP (w_rdP s.fx.r5 (v := .slice (some ⟨q.iOf, 0, none⟩) q.n q.n) rfl (w_ix hp (w_stP s.fx.rOf (by rw [flat_eI_len]; omega) rfl rfl ?_)))
  rw [flat_eI_set]
  have hl := lt_of_get s.fx.rOf
  have hne : ∀ j, j ≠ q.iOf → (h.set q.iOf (.row (flat eI (d.ol.set p c)) true))[j]? = h[j]? := fun j hj => get_ne (Ne.symm hj) _
  refine k _ (s.setB (el := d.el) ok (s.ex.set (by omega) _) ⟨(hne _ (by omega)).trans s.fx.r4, (hne _ (by omega)).trans s.fx.r5, (hne _ (by omega)).trans s.fx.rx, get_set _ hl _, by simp [lOf], fun x hx => ?_, (hne _ (by omega)).trans s.fx.rEn, s.fx.lEn, (hne _ (by omega)).trans s.fx.rof⟩ (by simp) fun j hj => hne j (by omega)) _ _ _
  rcases List.mem_or_eq_of_mem_set hx with hx | hx
  · exact s.fx.bOf x hx
  · subst hx; omega
theorem setRead {h0 h : AH} {q : Pl} {vns : Value} {d : MD} {c : Nat} {Q : Value → Value → Prop} (s : MS h0 h q vns d) (hc : c < q.k)
    (k : Q (.pointer (some ⟨q.b2, c, none⟩)) (d.v (4 + c))) :
    optW (pIdxS 1 (.slice (some ⟨q.b2, 0, none⟩) q.k q.k) (.int .i64 (c : Nat))) fun v71 =>
    optW (rdRow false 1 v71 h) fun v72 => Q v71 v72 :=
  w_ix hc (w_rdP s.fx.rof (v := uOf d.v c) (range_get hc) k)
theorem ofRead {h0 h : AH} {q : Pl} {vns : Value} {d : MD} {p : Nat} {Q : Value → Value → Value → Value → Prop} (s : MS h0 h q vns d) (hp : p < q.n)
    (k : ∀ (c : Nat), c < q.k → d.ol[p]? = some (c : Int) → ∀ a1 a2 a3, Q a1 a2 a3 (.int .i64 (c : Nat))) :
    optW (pOff 2 (.pointer (some ⟨q.p5, 0, none⟩))) fun v113 =>
    optW (rdRow false 1 v113 h) fun v114 =>
    optW (pIdxS 1 v114 (.int .i64 (p : Nat))) fun v116 =>
    optW (rdRow false 1 v116 h) fun v117 => Q v113 v114 v116 v117 := by
  have lOf := s.fx.lOf
  obtain ⟨x, hx⟩ := getElem?_of_lt (l := d.ol) (i := p) (by omega)
  have hb := s.fx.bOf x (List.mem_of_getElem? hx)
  obtain ⟨c, rfl⟩ : ∃ c : Nat, x = c := ⟨x.toNat, by omega⟩
  exact w_offP (w_rdP s.fx.r5 (v := .slice (some ⟨q.iOf, 0, none⟩) q.n q.n) rfl (w_ix hp (w_rdP s.fx.rOf (flat_eI_get hx) (k c (by omega) hx _ _ _))))
theorem MS.ints {h0 h : AH} {q : Pl} {vns : Value} {d : MD} {i : Nat} {l : List Int} (s : MS h0 h q vns d) (hi : i < 11) (hl : d.cs i = flat eI l) : Ints h (d.v i) l := by
  have := (s.sl.own i hi).sl
  rw [hl, flat_eI_len] at this
  exact this
theorem pickApp {h0 h : AH} {q : Pl} {vns : Value} {ns l : List Int} {d : MD} {c i : Nat} {w : Value} {Q : Value → Value → Value → Value → List Value → Nat → Value → AH → Prop} (ok : q.OK h0.length) (s : MS h0 h q vns d) (hns : Ints h0 vns ns) (hat : 0 ≤ d.at_ ∧ d.at_ ≤ 100000) (hc : c < q.k) (hw : w = d.v (4 + c)) (hl : d.cs (4 + c) = flat eI l) (hl0 : l ≠ []) (hi : i = 7 ∨ i = 8 ∨ i = 10) (hsm : (d.cs i).length + 1 ≤ 100000)
    (k : ∀ h' v' x, x ∈ l → x = l.getD (gv ns d.at_ (l.length : Nat)).toNat 0 → MS h0 h' q vns { d with at_ := d.at_ + 1, v := updV d.v i v', cs := updC d.cs i (d.cs i ++ [.int .i64 x]) } → ∀ a1 a2 a3 a4 a5 a6, Q a1 a2 a3 a4 a5 a6 v' h') :
    optW (lenSl w) fun v130 =>
    callW Tryz.prog 47 [.pointer (some ⟨q.px, 0, none⟩), v130] h fun v131 h_37 =>
    optW (pIdxS 1 w v131) fun v132 =>
    optW (rdRow false 1 v132 h_37) fun v133 =>
    optW (bldSl 1 [(.int .i64 0)] 1 [(0, v133)]) fun c_7 =>
    newW none (.row c_7 true) h_37 fun i_7 h_38 =>
    appSl 1 (d.v i) (.slice (some ⟨i_7, 0, none⟩) 1 1) h_38 fun v135 h_39 => Q v130 v131 v132 v133 c_7 i_7 v135 h_39 := by
  subst hw
  have o0 := ok.h0; have o1 := ok.h1; have o2 := ok.h2; have o3 := ok.h3; have o4 := ok.h4; have o5 := ok.h5
  have ok3 := ok.k
  have hb := bigN
  have hlen := s.sm (4 + c) (by omega)
  rw [hl, flat_eI_len] at hlen
  have hpos : 0 < l.length := List.length_pos_iff.2 hl0
  refine w_len (s.ints (by omega) hl) ?_
  refine s.get ok hns hat (by omega) fun r h1 r0 r1 rg s1 k1 l1 => ?_
  obtain ⟨x, hx⟩ := getElem?_of_lt (l := l) (i := r.toNat) (by omega)
  refine w_idxT (enc := eI) eI_len (s1.ints (i := 4 + c) (by omega) hl) r0 hx fun pp hpp => w_rd1 hpp rfl ?_
  refine w_some (bldSl_one rfl (by decide) rfl rfl) ?_
  refine n_newv fun h2 x2 l2 g2 => ?_
  have s2 := s1.keepX ok x2
  have hlt := s1.lt
  have hi' : i < 11 := by omega
  refine SL.app (r := h1.length) s2.sl i hi' g2 s2.lt (fun i hi hh => by have := s1.sl.on hi hh; omega) (by show (d.cs i).length + 1 < _; omega) fun v' h3 sl3 k3 l3 kk3 id3 => ?_
  have f3 := s2.fx.keep (h' := h3) ok k3
  have em : mrow q (updV d.v i v') = mrow q d.v := by
    unfold mrow
    rw [updV_ne (by omega), updV_ne (by omega), updV_ne (by omega), updV_ne (by omega)]
  have hu : ∀ c, c < q.k → uOf (updV d.v i v') c = uOf d.v c := fun c hc => by
    show updV d.v i v' (4 + c) = _
    rw [updV_ne (by omega)]; rfl
  refine k h3 v' x (List.mem_of_getElem? hx) (by rw [← rg, List.getD_eq_getElem?_getD, hx]; rfl) (s2.upd ok (by omega) ⟨by have := s2.ex.len; omega, fun j hj => (k3 j (by omega)).trans (s2.ex.get j hj)⟩ ⟨f3.r4, by rw [em]; exact f3.r5, f3.rx, f3.rOf, f3.lOf, f3.bOf, f3.rEn, f3.lEn, ?_⟩ sl3 l3 (by simpa using hsm) (fun j hj => (id3 j hj).imp id (by omega)) fun j hj hj2 hno => kk3 j (by omega) hno) _ _ _ _ _ _
  have e : (List.range q.k).map (uOf (updV d.v i v')) = (List.range q.k).map (uOf d.v) := List.map_congr_left fun c hc => hu c (List.mem_range.1 hc)
  rw [e]
  exact f3.rof
open Classical in
noncomputable def paint (o : Nat → Tg) (v : Value) (t : Tg) : Nat → Tg := fun j => if onId v j then t else o j
theorem paint_on {o : Nat → Tg} {v : Value} {t : Tg} {j : Nat} (h : onId v j) : paint o v t j = t := by unfold paint; rw [if_pos h]
theorem paint_off {o : Nat → Tg} {v : Value} {t : Tg} {j : Nat} (h : ¬ onId v j) : paint o v t j = o j := by unfold paint; rw [if_neg h]
theorem MS.freeze {h0 h : AH} {q : Pl} {vns : Value} {d : MD} {i : Nat} {t : Tg} (ok : q.OK h0.length) (s : MS h0 h q vns d) (hi : i = 7 ∨ i = 8 ∨ i = 10) (cur : List (List Int)) (hcur : cur = d.cur) :
    MS h0 h q vns { d with v := updV d.v i (.slice none 0 0), cs := updC d.cs i [], o := paint d.o (d.v i) t } ∧ OwnG 1 (fun j => paint d.o (d.v i) t j = t) h (d.v i) (d.cs i).length (d.cs i) ∧ (∀ j, d.o j ≠ .no → paint d.o (d.v i) t j = d.o j ∧ h[j]? = h[j]?) := by
  have ok3 := ok.k
  have hi' : i < 11 := by omega
  have pf : ∀ j, d.o j ≠ .no → paint d.o (d.v i) t j = d.o j ∧ h[j]? = h[j]? := fun j hj => ⟨paint_off ((s.fz j hj).2.2 i hi'), rfl⟩
  refine ⟨⟨s.ex, ?_, s.sl.reset i, s.lt, fun j hj => ?_, fun j hj => ?_, ?_, ?_, ?_, ?_⟩, (s.sl.own i hi').mono (fun j hj _ => paint_on hj) fun _ _ _ => rfl, pf⟩
  · have f := s.fx
    have em : mrow q (updV d.v i (.slice none 0 0)) = mrow q d.v := by
      unfold mrow
      rw [updV_ne (by omega), updV_ne (by omega), updV_ne (by omega), updV_ne (by omega)]
    refine ⟨f.r4, by rw [em]; exact f.r5, f.rx, f.rOf, f.lOf, f.bOf, f.rEn, f.lEn, ?_⟩
    have e : (List.range q.k).map (uOf (updV d.v i (.slice none 0 0))) = (List.range q.k).map (uOf d.v) := List.map_congr_left fun c hc => by
      show updV d.v i _ (4 + c) = d.v (4 + c)
      have := List.mem_range.1 hc
      rw [updV_ne (by omega)]
    rw [e]
    exact f.rof
  · show (updC d.cs i [] j).length ≤ _
    by_cases e : j = i
    · subst e; rw [updC_eq]; simp
    · rw [updC_ne e]; exact s.sm j hj
  · show _ ∧ _ ∧ ∀ a, a < 11 → ¬ onId (updV d.v i (.slice none 0 0) a) j
    have hj' : paint d.o (d.v i) t j ≠ .no := hj
    by_cases on : onId (d.v i) j
    · have := s.sl.on hi' on
      refine ⟨this.1, this.2, fun a ha hc => ?_⟩
      by_cases e : a = i
      · subst e; rw [updV_eq] at hc; exact hc
      · rw [updV_ne e] at hc
        exact s.sl.ap i a hi' ha (Ne.symm e) j on hc
    · rw [paint_off on] at hj'
      have f := s.fz j hj'
      refine ⟨f.1, f.2.1, fun a ha hc => ?_⟩
      by_cases e : a = i
      · subst e; rw [updV_eq] at hc; exact hc
      · rw [updV_ne e] at hc; exact f.2.2 a ha hc
  · show RowsT h (paint d.o (d.v i) t) .inn (updC d.cs i [] 1) d.ins
    rw [updC_ne (by omega)]
    exact s.rIn.mono (fun _ => Tg.noConfusion) pf
  · show RowsT h (paint d.o (d.v i) t) .low (updC d.cs i [] 2) d.lows
    rw [updC_ne (by omega)]
    exact s.rLow.mono (fun _ => Tg.noConfusion) pf
  · show RetsT h (paint d.o (d.v i) t) (updC d.cs i [] 3) d.rets
    rw [updC_ne (by omega)]
    exact s.rRet.mono pf
  · show RowsT h (paint d.o (d.v i) t) (.rr d.rets.length) (updC d.cs i [] 9) d.cur
    rw [updC_ne (by omega)]
    exact s.rCur.mono (fun _ => Tg.noConfusion) pf
theorem MS.freeze9 {h0 h : AH} {q : Pl} {vns : Value} {d : MD} {t : Tg} (ok : q.OK h0.length) (s : MS h0 h q vns d) :
    MS h0 h q vns { d with v := updV d.v 9 (.slice none 0 0), cs := updC d.cs 9 [], o := paint d.o (d.v 9) t, cur := [] } ∧ OwnG 1 (fun j => paint d.o (d.v 9) t j = t) h (d.v 9) (d.cs 9).length (d.cs 9) ∧ (∀ j, d.o j ≠ .no → paint d.o (d.v 9) t j = d.o j ∧ h[j]? = h[j]?) := by
  have ok3 := ok.k
  have hi' : 9 < 11 := by omega
  have pf : ∀ j, d.o j ≠ .no → paint d.o (d.v 9) t j = d.o j ∧ h[j]? = h[j]? := fun j hj => ⟨paint_off ((s.fz j hj).2.2 9 hi'), rfl⟩
  refine ⟨⟨s.ex, ?_, s.sl.reset 9, s.lt, fun j hj => ?_, fun j hj => ?_, ?_, ?_, ?_, ?_⟩, (s.sl.own 9 hi').mono (fun j hj _ => paint_on hj) fun _ _ _ => rfl, pf⟩
  · have f := s.fx
    have em : mrow q (updV d.v 9 (.slice none 0 0)) = mrow q d.v := rfl
    refine ⟨f.r4, by rw [em]; exact f.r5, f.rx, f.rOf, f.lOf, f.bOf, f.rEn, f.lEn, ?_⟩
    have e : (List.range q.k).map (uOf (updV d.v 9 (.slice none 0 0))) = (List.range q.k).map (uOf d.v) := List.map_congr_left fun c hc => by
      show updV d.v 9 _ (4 + c) = d.v (4 + c)
      have := List.mem_range.1 hc
      rw [updV_ne (by omega)]
    rw [e]
    exact f.rof
  · show (updC d.cs 9 [] j).length ≤ _
    by_cases e : j = 9
    · subst e; rw [updC_eq]; simp
    · rw [updC_ne e]; exact s.sm j hj
  · show _ ∧ _ ∧ ∀ a, a < 11 → ¬ onId (updV d.v 9 (.slice none 0 0) a) j
    have hj' : paint d.o (d.v 9) t j ≠ .no := hj
    by_cases on : onId (d.v 9) j
    · have := s.sl.on hi' on
      refine ⟨this.1, this.2, fun a ha hc => ?_⟩
      by_cases e : a = 9
      · subst e; rw [updV_eq] at hc; exact hc
      · rw [updV_ne e] at hc
        exact s.sl.ap 9 a hi' ha (Ne.symm e) j on hc
    · rw [paint_off on] at hj'
      have f := s.fz j hj'
      refine ⟨f.1, f.2.1, fun a ha hc => ?_⟩
      by_cases e : a = 9
      · subst e; rw [updV_eq] at hc; exact hc
      · rw [updV_ne e] at hc; exact f.2.2 a ha hc
  · exact s.rIn.mono (fun _ => Tg.noConfusion) pf
  · exact s.rLow.mono (fun _ => Tg.noConfusion) pf
  · exact s.rRet.mono pf
  · exact RowsT.nil _ _ _
theorem appR {h0 h : AH} {q : Pl} {vns : Value} {d : MD} {r : List Int} {w : Value} {Q : List Value → Nat → Value → AH → Prop} (ok : q.OK h0.length) (s : MS h0 h q vns d) (hw : w = d.v 10) (hr : d.cs 10 = flat eI r) (hsm : (d.cs 9).length + 1 ≤ 100000)
    (k : ∀ h' d', MS h0 h' q vns d' → d'.at_ = d.at_ → (∀ i, i ≠ 9 → i ≠ 10 → d'.v i = d.v i ∧ d'.cs i = d.cs i) → d'.v 10 = .slice none 0 0 → d'.cs 10 = [] → d'.ol = d.ol → d'.el = d.el → d'.ins = d.ins → d'.lows = d.lows → d'.rets = d.rets → d'.cur = d.cur ++ [r] → ∀ a1 a2, Q a1 a2 (d'.v 9) h') :
    optW (bldSl 1 [(.slice none 0 0)] 1 [(0, w)]) fun c_10 =>
    newW none (.row c_10 true) h fun i_10 h_61 =>
    appSl 1 (d.v 9) (.slice (some ⟨i_10, 0, none⟩) 1 1) h_61 fun v200 h_62 => Q c_10 i_10 v200 h_62 := by
  subst hw
  have o0 := ok.h0; have o1 := ok.h1; have o2 := ok.h2; have o3 := ok.h3; have o4 := ok.h4; have o5 := ok.h5
  have ok3 := ok.k
  have hb := bigN
  obtain ⟨wa, wn, wd, ew⟩ := Sl.isSl (s.sl.own 10 (by omega)).sl
  obtain ⟨sf, own, _⟩ := s.freeze (i := 10) (t := .rr d.rets.length d.cur.length) ok (by omega) _ rfl
  have ecl : cellsL (d.v 10) = [d.v 10] := by rw [ew]; rfl
  have eoc : (cellsL (d.v 10)).all (·.oneCell') = true := by rw [ew]; rfl
  refine w_some (bldSl_one rfl (by decide) (by rw [ecl]; rfl) eoc) ?_
  rw [ecl]
  refine n_newv fun h1 x1 l1 g1 => ?_
  have s1 := sf.keepX ok x1
  have hlt := sf.lt
  refine SL.app (r := h.length) (v := updV d.v 10 (.slice none 0 0)) (cs := updC d.cs 10 []) s1.sl 9 (by omega) g1 s1.lt (fun i hi hh => by have := sf.sl.on hi hh; omega) (by show (d.cs 9).length + 1 < _; omega) fun v' h2 sl2 k2 l2 kk2 id2 => ?_
  have f2 := s1.fx.keep (h' := h2) ok k2
  have fzh : ∀ j, paint d.o (d.v 10) (.rr d.rets.length d.cur.length) j ≠ .no → paint d.o (d.v 10) (.rr d.rets.length d.cur.length) j = paint d.o (d.v 10) (.rr d.rets.length d.cur.length) j ∧ h2[j]? = h[j]? := fun j hj => ⟨rfl, (kk2 j (by have := (sf.fz j hj).2.1; omega) (sf.fz j hj).2.2).trans (x1.get j (sf.fz j hj).2.1)⟩
  have res : MS h0 h2 q vns { d with v := updV (updV d.v 10 (.slice none 0 0)) 9 v', cs := updC (updC d.cs 10 []) 9 (d.cs 9 ++ [d.v 10]), o := paint d.o (d.v 10) (.rr d.rets.length d.cur.length), cur := d.cur ++ [r] } := by
    refine ⟨⟨by have := s1.ex.len; omega, fun j hj => (k2 j (by omega)).trans (s1.ex.get j hj)⟩, ?_, sl2, by omega, fun j hj => ?_, fun j hj => ?_, ?_, ?_, ?_, ?_⟩
    · refine ⟨f2.r4, f2.r5, f2.rx, f2.rOf, f2.lOf, f2.bOf, f2.rEn, f2.lEn, ?_⟩
      have e : (List.range q.k).map (uOf (updV (updV d.v 10 (.slice none 0 0)) 9 v')) = (List.range q.k).map (uOf (updV d.v 10 (.slice none 0 0))) := List.map_congr_left fun c hc => by
        show updV (updV d.v 10 (.slice none 0 0)) 9 _ (4 + c) = updV d.v 10 (.slice none 0 0) (4 + c)
        have := List.mem_range.1 hc
        rw [updV_ne (by omega)]
      show h2[q.b2]? = some (.row ((List.range q.k).map (uOf (updV (updV d.v 10 (.slice none 0 0)) 9 v'))) true)
      rw [e]
      exact f2.rof
    · show (updC (updC d.cs 10 []) 9 (d.cs 9 ++ [d.v 10]) j).length ≤ _
      by_cases e : j = 9
      · subst e; rw [updC_eq]; simpa using hsm
      · rw [updC_ne e]; exact sf.sm j hj
    · have f := sf.fz j hj
      refine ⟨f.1, by omega, fun a ha => ?_⟩
      show ¬ onId (updV (updV d.v 10 (.slice none 0 0)) 9 v' a) j
      by_cases e : a = 9
      · subst e; rw [updV_eq]
        intro hc
        rcases id2 j hc with h | h
        · exact f.2.2 9 ha h
        · have := f.2.1; omega
      · rw [updV_ne e]; exact f.2.2 a ha
    · exact sf.rIn.mono (fun _ => Tg.noConfusion) fzh
    · exact sf.rLow.mono (fun _ => Tg.noConfusion) fzh
    · exact sf.rRet.mono fzh
    · have rc : RowsT h2 _ (.rr d.rets.length) (d.cs 9) d.cur := sf.rCur.mono (fun _ => Tg.noConfusion) fzh
      refine rc.snoc ?_
      have own' := own.mono (F' := fun j => paint d.o (d.v 10) (.rr d.rets.length d.cur.length) j = .rr d.rets.length d.cur.length) (h' := h2) (fun _ _ h => h) fun j _ hj => (fzh j (by rw [hj]; exact Tg.noConfusion)).2
      rw [hr, flat_eI_len] at own'
      exact own'
  have e9 : (updV (updV d.v 10 (.slice none 0 0)) 9 v') 9 = v' := updV_eq
  have := k h2 _ res rfl (fun i h9 h10 => ⟨by show updV (updV d.v 10 (.slice none 0 0)) 9 v' i = _; rw [updV_ne h9, updV_ne h10], by show updC (updC d.cs 10 []) 9 _ i = _; rw [updC_ne h9, updC_ne h10]⟩) rfl rfl rfl rfl rfl rfl rfl rfl [d.v 10] h.length
  exact this
end Go.Proofs.YtdlbiliolbdbmaaGreat.W
end

section
/- Top's laws, package fold: machines of numbers, the walk of Make: a state's lot is laid. Conditions: none. -/
namespace Go.Proofs.YtdlbiliolbdbmaaGreat.W
open Go Go.AM
set_option linter.unusedVariables false
set_option maxRecDepth 100000
structure AS (h hc : AH) (b2 : Nat) (v0 v : Nat → Value) (cs : Nat → List Value) : Prop where
  sl : SL hc b2 v cs
  len : h.length + 3 ≤ hc.length
  lt : b2 < h.length
  low : ∀ j, j ≤ b2 → hc[j]? = h[j]?
  old : ∀ j, j < h.length → (∀ i, i < 11 → ¬ onId (v0 i) j) → hc[j]? = h[j]?
  ids : ∀ i, i < 11 → ∀ j, onId (v i) j → onId (v0 i) j ∨ h.length + 3 ≤ j
  v0 : ∀ i, i < 11 → ∀ j, onId (v0 i) j → b2 < j ∧ j < h.length
theorem AS.step {h hc : AH} {b2 : Nat} {v0 v : Nat → Value} {cs : Nat → List Value} {x : Value} {a i : Nat} {w : Value} {Q : List Value → Nat → AH → Value → AH → Prop} (s : AS h hc b2 v0 v cs) (hw : w = v i) (hx : isSl x) (ha : a < 3) (hi : i < 11) (hsm : (cs i).length + 1 ≤ 100000)
    (k : ∀ h1 v' h2, AS h h2 b2 v0 (updV v i v') (updC cs i (cs i ++ [x])) → (∀ j, j ≤ b2 → h1[j]? = h[j]?) → ∀ a1 a2, Q a1 a2 h1 v' h2) :
    optW (bldSl 1 [(.slice none 0 0)] 1 [(0, x)]) fun c =>
    newW (some (h.length + a)) (.row c true) hc fun i1 h1 =>
    appSl 1 w (.slice (some ⟨i1, 0, none⟩) 1 1) h1 fun v' h2 => Q c i1 h1 v' h2 := by
  subst hw
  have hb := bigN
  obtain ⟨wa, wn, wd, rfl⟩ := hx
  have hlen := s.len; have hlt := s.lt
  refine w_some (bldSl_one rfl (by decide) rfl rfl) (n_slot ?_)
  have g1 : (hc.set (h.length + a) (.row (cellsL (.slice wa wn wd)) true))[h.length + a]? = some (.row [.slice wa wn wd] true) := get_set _ (by omega) _
  have k1 : ∀ j, j ≠ h.length + a → (hc.set (h.length + a) (.row (cellsL (.slice wa wn wd)) true))[j]? = hc[j]? := fun j hj => get_ne (Ne.symm hj) _
  have l1 : (hc.set (h.length + a) (.row (cellsL (.slice wa wn wd)) true)).length = hc.length := by simp
  have nid : ∀ i, i < 11 → ∀ j, onId (v i) j → j ≠ h.length + a := fun i hi j hj e => by
    rcases s.ids i hi j hj with h | h
    · have := s.v0 i hi j h; omega
    · omega
  have sl1 : SL (hc.set (h.length + a) (.row (cellsL (.slice wa wn wd)) true)) b2 v cs := ⟨fun i hi => (s.sl.own i hi).mono (fun _ _ h => h) fun j hj _ => k1 j (nid i hi j hj), s.sl.ap⟩
  have low1 : ∀ j, j ≤ b2 → (hc.set (h.length + a) (.row (cellsL (.slice wa wn wd)) true))[j]? = h[j]? := fun j hj => (k1 j (by omega)).trans (s.low j hj)
  refine SL.app (r := h.length + a) sl1 i hi g1 (by omega) (fun i hi hh => nid i hi _ hh rfl) (by omega) fun v' h2 sl2 k2 l2 kk2 id2 => ?_
  refine k _ v' h2 ⟨sl2, by omega, hlt, fun j hj => (k2 j hj).trans (low1 j hj), fun j hj hno => ?_, fun b hb j hj => ?_, s.v0⟩ low1 _ _
  · refine (kk2 j (by omega) fun b hb hc => ?_).trans ((k1 j (by omega)).trans (s.old j hj hno))
    rcases s.ids b hb j hc with h | h
    · exact hno b hb h
    · omega
  · by_cases e : b = i
    · subst e
      rw [updV_eq] at hj
      rcases id2 j hj with h | h
      · exact s.ids b hb j h
      · exact .inr (by omega)
    · rw [updV_ne e] at hj
      exact s.ids b hb j hj
theorem append3 {h0 h : AH} {q : Pl} {vns : Value} {d : MD} {l l2 : List Int} {e15 e16 e17 : Value} {Q : Value → Value → List Value → Nat → Value → Value → Value → List Value → Nat → Value → Value → Value → List Value → Nat → Value → Value → Value → Value → AH → Prop} (ok : q.OK h0.length) (s : MS h0 h q vns d) (he15 : e15 = d.v 7) (he16 : e16 = d.v 8) (he17 : e17 = d.v 9)
    (hl : d.cs 7 = flat eI l) (hl2 : d.cs 8 = flat eI l2) (h10 : d.v 10 = .slice none 0 0) (hin : d.ins.length = d.rets.length) (hlow : d.lows.length = d.rets.length) (hs : (d.cs 1).length + 1 ≤ 100000 ∧ (d.cs 2).length + 1 ≤ 100000 ∧ (d.cs 3).length + 1 ≤ 100000)
    (k : ∀ h' d', MS h0 h' q vns d' → d'.at_ = d.at_ → (∀ i, i = 0 ∨ 4 ≤ i ∧ i ≤ 6 → d'.v i = d.v i ∧ d'.cs i = d.cs i) → (∀ i, 7 ≤ i → i ≤ 9 → d'.v i = .slice none 0 0 ∧ d'.cs i = []) → d'.v 10 = d.v 10 → d'.cs 10 = d.cs 10 → d'.ol = d.ol → d'.el = d.el → d'.ins = d.ins ++ [l] → d'.lows = d.lows ++ [l2] → d'.rets = d.rets ++ [d.cur] → d'.cur = [] → ∀ a1 a2 a3 a4 a5 a6 a7 a8 a9 a10 a11 a12 a13 a14 a15 a16 a17 a18, Q a1 a2 a3 a4 a5 a6 a7 a8 a9 a10 a11 a12 a13 a14 a15 a16 a17 a18 h') :
    optW (pOff 5 (.pointer (some ⟨q.p5, 0, none⟩))) fun v201 =>
    optW (rdRow false 1 v201 (reserve 3 h)) fun v202 =>
    optW (bldSl 1 [(.slice none 0 0)] 1 [(0, e15)]) fun c_11 =>
    newW (some (h.length)) (.row c_11 true) (reserve 3 h) fun i_11 h_63 =>
    appSl 1 v202 (.slice (some ⟨i_11, 0, none⟩) 1 1) h_63 fun v205 h_64 =>
    optW (pOff 6 (.pointer (some ⟨q.p5, 0, none⟩))) fun v206 =>
    (∀ x ∈ ceOf 1 v206, vw x (h_63) = vw x (h_64)) ∧
    (∀ x ∈ ceOf 1 v206, vw x (reserve 3 h) = vw x (h_63)) ∧
    optW (rdRow false 1 v206 h_64) fun v207 =>
    optW (bldSl 1 [(.slice none 0 0)] 1 [(0, e16)]) fun c_12 =>
    newW (some (h.length + 1)) (.row c_12 true) h_64 fun i_12 h_65 =>
    appSl 1 v207 (.slice (some ⟨i_12, 0, none⟩) 1 1) h_65 fun v210 h_66 =>
    optW (pOff 7 (.pointer (some ⟨q.p5, 0, none⟩))) fun v211 =>
    (∀ x ∈ ceOf 1 v211, vw x (h_65) = vw x (h_66)) ∧
    (∀ x ∈ ceOf 1 v211, vw x (h_64) = vw x (h_65)) ∧
    (∀ x ∈ ceOf 1 v211, vw x (h_63) = vw x (h_64)) ∧
    (∀ x ∈ ceOf 1 v211, vw x (reserve 3 h) = vw x (h_63)) ∧
    optW (rdRow false 1 v211 h_66) fun v212 =>
    optW (bldSl 1 [(.slice none 0 0)] 1 [(0, e17)]) fun c_13 =>
    newW (some (h.length + 2)) (.row c_13 true) h_66 fun i_13 h_67 =>
    appSl 1 v212 (.slice (some ⟨i_13, 0, none⟩) 1 1) h_67 fun v215 h_68 =>
    optW (pOff 5 (.pointer (some ⟨q.p5, 0, none⟩))) fun v216 =>
    optW (pStore 1 v216 v205 h_68) fun h_69 =>
    optW (pOff 6 (.pointer (some ⟨q.p5, 0, none⟩))) fun v217 =>
    optW (pStore 1 v217 v210 h_69) fun h_70 =>
    optW (pOff 7 (.pointer (some ⟨q.p5, 0, none⟩))) fun v218 =>
    optW (pStore 1 v218 v215 h_70) fun h_71 => Q v201 v202 c_11 i_11 v205 v206 v207 c_12 i_12 v210 v211 v212 c_13 i_13 v215 v216 v217 v218 h_71 := by
  subst he15 he16 he17
  have o0 := ok.h0; have o1 := ok.h1; have o2 := ok.h2; have o3 := ok.h3; have o4 := ok.h4; have o5 := ok.h5
  have hb := bigN
  obtain ⟨fs7, own7, pf7⟩ := s.freeze (i := 7) (t := .inn d.rets.length) ok (by omega) _ rfl
  have is7 : isSl (d.v 7) := Sl.isSl (s.sl.own 7 (by omega)).sl
  have is8 : isSl (d.v 8) := Sl.isSl (s.sl.own 8 (by omega)).sl
  have is9 : isSl (d.v 9) := Sl.isSl (s.sl.own 9 (by omega)).sl
  obtain ⟨fs8, own8, pf8⟩ := fs7.freeze (i := 8) (t := .low d.rets.length) ok (by omega) _ rfl
  obtain ⟨fs9, own9, pf9⟩ := fs8.freeze9 (t := .ret d.rets.length) ok
  have e8 : updV d.v 7 (.slice none 0 0) 8 = d.v 8 := updV_ne (by omega)
  have e9 : updV (updV d.v 7 (.slice none 0 0)) 8 (.slice none 0 0) 9 = d.v 9 := by rw [updV_ne (by omega), updV_ne (by omega)]
  have c8 : updC d.cs 7 [] 8 = d.cs 8 := updC_ne (by omega)
  have c9 : updC (updC d.cs 7 []) 8 [] 9 = d.cs 9 := by rw [updC_ne (by omega), updC_ne (by omega)]
  have rc8 := fs8.rCur
  replace own8 : OwnG 1 (fun j => paint (paint d.o (d.v 7) (.inn d.rets.length)) (d.v 8) (.low d.rets.length) j = .low d.rets.length) h (d.v 8) (d.cs 8).length (d.cs 8) := own8
  replace own9 : OwnG 1 (fun j => paint (paint (paint d.o (d.v 7) (.inn d.rets.length)) (d.v 8) (.low d.rets.length)) (d.v 9) (.ret d.rets.length) j = .ret d.rets.length) h (d.v 9) (d.cs 9).length (d.cs 9) := own9
  replace pf9 : ∀ j, paint (paint d.o (d.v 7) (.inn d.rets.length)) (d.v 8) (.low d.rets.length) j ≠ .no → paint (paint (paint d.o (d.v 7) (.inn d.rets.length)) (d.v 8) (.low d.rets.length)) (d.v 9) (.ret d.rets.length) j = paint (paint d.o (d.v 7) (.inn d.rets.length)) (d.v 8) (.low d.rets.length) j ∧ h[j]? = h[j]? := pf9
  replace pf8 : ∀ j, paint d.o (d.v 7) (.inn d.rets.length) j ≠ .no → paint (paint d.o (d.v 7) (.inn d.rets.length)) (d.v 8) (.low d.rets.length) j = paint d.o (d.v 7) (.inn d.rets.length) j ∧ h[j]? = h[j]? := pf8
  replace rc8 : RowsT h (paint (paint d.o (d.v 7) (.inn d.rets.length)) (d.v 8) (.low d.rets.length)) (.rr d.rets.length) (d.cs 9) d.cur := rc8
  replace fs9 : MS h0 h q vns { d with v := updV (updV (updV d.v 7 (.slice none 0 0)) 8 (.slice none 0 0)) 9 (.slice none 0 0), cs := updC (updC (updC d.cs 7 []) 8 []) 9 [], o := paint (paint (paint d.o (d.v 7) (.inn d.rets.length)) (d.v 8) (.low d.rets.length)) (d.v 9) (.ret d.rets.length), cur := [] } := fs9
  have rc9 := rc8.mono (fun _ => Tg.noConfusion) pf9
  have own8' := own8.mono (F' := fun j => paint (paint (paint d.o (d.v 7) (.inn d.rets.length)) (d.v 8) (.low d.rets.length)) (d.v 9) (.ret d.rets.length) j = .low d.rets.length) (h' := h) (fun j _ hj => (pf9 j (by rw [hj]; exact Tg.noConfusion)).1.trans hj) fun _ _ _ => rfl
  have own7' := own7.mono (F' := fun j => paint (paint (paint d.o (d.v 7) (.inn d.rets.length)) (d.v 8) (.low d.rets.length)) (d.v 9) (.ret d.rets.length) j = .inn d.rets.length) (h' := h) (fun j _ hj => (pf9 j (by rw [(pf8 j (by rw [hj]; exact Tg.noConfusion)).1, hj]; exact Tg.noConfusion)).1.trans ((pf8 j (by rw [hj]; exact Tg.noConfusion)).1.trans hj)) fun _ _ _ => rfl
  clear own7 own8 pf7 pf8 pf9 rc8 fs7 fs8 e8 e9 c8 c9
  generalize paint (paint (paint d.o (d.v 7) (.inn d.rets.length)) (d.v 8) (.low d.rets.length)) (d.v 9) (.ret d.rets.length) = o' at *
  have hv : ∀ i, i ≤ 6 ∨ i = 10 → updV (updV (updV d.v 7 (.slice none 0 0)) 8 (.slice none 0 0)) 9 (.slice none 0 0) i = d.v i := fun i hi => by rw [updV_ne (by omega), updV_ne (by omega), updV_ne (by omega)]
  have hc : ∀ i, i ≤ 6 ∨ i = 10 → updC (updC (updC d.cs 7 []) 8 []) 9 [] i = d.cs i := fun i hi => by rw [updC_ne (by omega), updC_ne (by omega), updC_ne (by omega)]
  have hv' : ∀ i, 7 ≤ i → i ≤ 9 → updV (updV (updV d.v 7 (.slice none 0 0)) 8 (.slice none 0 0)) 9 (.slice none 0 0) i = .slice none 0 0 := fun i h1 h2 => by
    unfold updV
    by_cases a9 : i = 9
    · rw [if_pos a9]
    · rw [if_neg a9]
      by_cases a8 : i = 8
      · rw [if_pos a8]
      · rw [if_neg a8, if_pos (by omega)]
  have hc' : ∀ i, 7 ≤ i → i ≤ 9 → updC (updC (updC d.cs 7 []) 8 []) 9 [] i = [] := fun i h1 h2 => by
    unfold updC
    by_cases a9 : i = 9
    · rw [if_pos a9]
    · rw [if_neg a9]
      by_cases a8 : i = 8
      · rw [if_pos a8]
      · rw [if_neg a8, if_pos (by omega)]
  generalize updV (updV (updV d.v 7 (.slice none 0 0)) 8 (.slice none 0 0)) 9 (.slice none 0 0) = v0 at *
  generalize updC (updC (updC d.cs 7 []) 8 []) 9 [] = c0 at *
  have r5 : h[q.p5]? = some (.row (mrow q d.v) true) := s.fx.r5
  have hlt := s.lt
  have er : reserve 3 h = ((h ++ [.dead]) ++ [.dead]) ++ [.dead] := rfl
  have xr : Ex h (reserve 3 h) := by rw [er]; exact ((Ex.app _ _).trans (.app _ _)).trans (.app _ _)
  have lr : (reserve 3 h).length = h.length + 3 := by rw [er]; simp
  have as0 : AS h (reserve 3 h) q.b2 v0 v0 c0 := ⟨fs9.sl.ex xr, by omega, hlt, fun j hj => xr.get j (by omega), fun j hj _ => xr.get j hj, fun _ _ _ h => .inl h, fun i hi j hj => fs9.sl.on hi hj⟩
  have rr5 : (reserve 3 h)[q.p5]? = some (.row (mrow q d.v) true) := xr.some r5
  refine w_offP (w_rdP rr5 (v := d.v 1) rfl ?_)
  refine as0.step (a := 0) (i := 1) (hv 1 (by omega)).symm is7 (by omega) (by omega) (by rw [hc 1 (by omega)]; exact hs.1) fun h63 v205 h64 as1 low63 _ _ => ?_
  have r63 := (low63 q.p5 (by omega)).trans r5
  have r64 := (as1.low q.p5 (by omega)).trans r5
  refine w_offP ⟨idrow r63 r64, idrow rr5 r63, w_rdP r64 (v := d.v 2) rfl ?_⟩
  refine as1.step (a := 1) (i := 2) (by rw [updV_ne (by omega)]; exact (hv 2 (by omega)).symm) is8 (by omega) (by omega) (by rw [updC_ne (by omega), hc 2 (by omega)]; exact hs.2.1) fun h65 v210 h66 as2 low65 _ _ => ?_
  have r65 := (low65 q.p5 (by omega)).trans r5
  have r66 := (as2.low q.p5 (by omega)).trans r5
  refine w_offP ⟨idrow r65 r66, idrow r64 r65, idrow r63 r64, idrow rr5 r63, w_rdP r66 (v := d.v 3) rfl ?_⟩
  refine as2.step (a := 2) (i := 3) (by rw [updV_ne (by omega), updV_ne (by omega)]; exact (hv 3 (by omega)).symm) is9 (by omega) (by omega) (by rw [updC_ne (by omega), updC_ne (by omega), hc 3 (by omega)]; exact hs.2.2) fun h67 v215 h68 as3 low67 _ _ => ?_
  have r68 := (as3.low q.p5 (by omega)).trans r5
  have hl68 := lt_of_get r68
  have x1 : updV v0 1 v205 1 = v205 := updV_eq
  have sh205 : isSl v205 := by
    have := Sl.isSl (as1.sl.own 1 (by omega)).sl
    rw [updV_eq] at this
    exact this
  have sh210 : isSl v210 := by
    have := Sl.isSl (as2.sl.own 2 (by omega)).sl
    rw [updV_eq] at this
    exact this
  have sh215 : isSl v215 := by
    have := Sl.isSl (as3.sl.own 3 (by omega)).sl
    rw [updV_eq] at this
    exact this
  obtain ⟨a5, n5, d5, rfl⟩ := sh205
  obtain ⟨a6, n6, d6, rfl⟩ := sh210
  obtain ⟨a7, n7, d7, rfl⟩ := sh215
  refine w_offP (w_stP r68 (show 5 < 8 by omega) rfl rfl ?_)
  refine w_offP (w_stP (get_set _ hl68 _) (show 6 < 8 by omega) rfl rfl ?_)
  have g2 : ∀ o o', ((h68.set q.p5 o).set q.p5 o')[q.p5]? = some o' := fun o o' => get_set _ (by simpa using hl68) _
  refine w_offP (w_stP (g2 _ _) (show 7 < 8 by omega) rfl rfl ?_)
  have g3 : ∀ o o' o'', (((h68.set q.p5 o).set q.p5 o').set q.p5 o'')[q.p5]? = some o'' := fun o o' o'' => get_set _ (by simpa using hl68) _
  have n3 : ∀ o o' o'' j, j ≠ q.p5 → (((h68.set q.p5 o).set q.p5 o').set q.p5 o'')[j]? = h68[j]? := fun o o' o'' j hj => (get_ne (Ne.symm hj) _).trans ((get_ne (Ne.symm hj) _).trans (get_ne (Ne.symm hj) _))
  have l3 : ∀ o o' o'', (((h68.set q.p5 o).set q.p5 o').set q.p5 o'').length = h68.length := fun o o' o'' => by simp
  have fx := s.fx
  have vv0 : ∀ i, i = 0 ∨ 4 ≤ i → updV (updV (updV v0 1 (.slice a5 n5 d5)) 2 (.slice a6 n6 d6)) 3 (.slice a7 n7 d7) i = v0 i := fun i hi => by rw [updV_ne (by omega), updV_ne (by omega), updV_ne (by omega)]
  have cc0 : ∀ i, i = 0 ∨ 4 ≤ i → updC (updC (updC c0 1 (c0 1 ++ [d.v 7])) 2 (updC c0 1 (c0 1 ++ [d.v 7]) 2 ++ [d.v 8])) 3 (updC (updC c0 1 (c0 1 ++ [d.v 7])) 2 (updC c0 1 (c0 1 ++ [d.v 7]) 2 ++ [d.v 8]) 3 ++ [d.v 9]) i = c0 i := fun i hi => by rw [updC_ne (by omega), updC_ne (by omega), updC_ne (by omega)]
  have em : List.set (List.set (List.set (mrow q d.v) (0 + 5) (.slice a5 n5 d5)) (0 + 6) (.slice a6 n6 d6)) (0 + 7) (.slice a7 n7 d7) = mrow q (updV (updV (updV v0 1 (.slice a5 n5 d5)) 2 (.slice a6 n6 d6)) 3 (.slice a7 n7 d7)) := by
    have e0 := (vv0 0 (.inl rfl)).trans (hv 0 (by omega))
    have e3 : updV (updV (updV v0 1 (.slice a5 n5 d5)) 2 (.slice a6 n6 d6)) 3 (.slice a7 n7 d7) 3 = .slice a7 n7 d7 := updV_eq
    have e2 : updV (updV (updV v0 1 (.slice a5 n5 d5)) 2 (.slice a6 n6 d6)) 3 (.slice a7 n7 d7) 2 = .slice a6 n6 d6 := (updV_ne (by omega)).trans updV_eq
    have e1 : updV (updV (updV v0 1 (.slice a5 n5 d5)) 2 (.slice a6 n6 d6)) 3 (.slice a7 n7 d7) 1 = .slice a5 n5 d5 := (updV_ne (by omega)).trans ((updV_ne (by omega)).trans updV_eq)
    unfold mrow
    rw [e0, e1, e2, e3]
    rfl
  rw [em]
  have hcc1 : updC (updC (updC c0 1 (c0 1 ++ [d.v 7])) 2 (updC c0 1 (c0 1 ++ [d.v 7]) 2 ++ [d.v 8])) 3 (updC (updC c0 1 (c0 1 ++ [d.v 7])) 2 (updC c0 1 (c0 1 ++ [d.v 7]) 2 ++ [d.v 8]) 3 ++ [d.v 9]) 1 = d.cs 1 ++ [d.v 7] := by
    rw [updC_ne (by omega), updC_ne (by omega), updC_eq, hc 1 (by omega)]
  have hcc2 : updC (updC (updC c0 1 (c0 1 ++ [d.v 7])) 2 (updC c0 1 (c0 1 ++ [d.v 7]) 2 ++ [d.v 8])) 3 (updC (updC c0 1 (c0 1 ++ [d.v 7])) 2 (updC c0 1 (c0 1 ++ [d.v 7]) 2 ++ [d.v 8]) 3 ++ [d.v 9]) 2 = d.cs 2 ++ [d.v 8] := by
    rw [updC_ne (by omega), updC_eq, updC_ne (by omega), hc 2 (by omega)]
  have hcc3 : updC (updC (updC c0 1 (c0 1 ++ [d.v 7])) 2 (updC c0 1 (c0 1 ++ [d.v 7]) 2 ++ [d.v 8])) 3 (updC (updC c0 1 (c0 1 ++ [d.v 7])) 2 (updC c0 1 (c0 1 ++ [d.v 7]) 2 ++ [d.v 8]) 3 ++ [d.v 9]) 3 = d.cs 3 ++ [d.v 9] := by
    rw [updC_eq, updC_ne (by omega), updC_ne (by omega), hc 3 (by omega)]
  have sl3 := as3.sl
  have ids3 := as3.ids
  have old3 := as3.old
  have low3 := as3.low
  have len3 := as3.len
  clear as0 as1 as2 as3
  generalize updC (updC (updC c0 1 (c0 1 ++ [d.v 7])) 2 (updC c0 1 (c0 1 ++ [d.v 7]) 2 ++ [d.v 8])) 3 (updC (updC c0 1 (c0 1 ++ [d.v 7])) 2 (updC c0 1 (c0 1 ++ [d.v 7]) 2 ++ [d.v 8]) 3 ++ [d.v 9]) = c3 at *
  generalize updV (updV (updV v0 1 (.slice a5 n5 d5)) 2 (.slice a6 n6 d6)) 3 (.slice a7 n7 d7) = v3 at *
  generalize hH : ((h68.set q.p5 _).set q.p5 _).set q.p5 _ = h71
  have G5 : h71[q.p5]? = some (.row (mrow q v3) true) := by rw [← hH]; exact g3 _ _ _
  have N5 : ∀ j, j ≠ q.p5 → h71[j]? = h68[j]? := by rw [← hH]; exact fun j hj => n3 _ _ _ j hj
  have L5 : h71.length = h68.length := by rw [← hH]; exact l3 _ _ _
  clear hH g3 n3 l3 g2
  have frz : ∀ j, o' j ≠ .no → o' j = o' j ∧ h71[j]? = h[j]? := fun j hj => by
    have f := fs9.fz j hj
    exact ⟨rfl, (N5 j (by have := f.1; omega)).trans (old3 j f.2.1 f.2.2)⟩
  have r1 := fs9.rIn.mono (fun _ => Tg.noConfusion) frz
  have r2 := fs9.rLow.mono (fun _ => Tg.noConfusion) frz
  have r3 := fs9.rRet.mono frz
  replace r1 : RowsT h71 o' .inn (d.cs 1) d.ins := by rw [← hc 1 (by omega)]; exact r1
  replace r2 : RowsT h71 o' .low (d.cs 2) d.lows := by rw [← hc 2 (by omega)]; exact r2
  replace r3 : RetsT h71 o' (d.cs 3) d.rets := by rw [← hc 3 (by omega)]; exact r3
  have res : MS h0 h71 q vns { d with v := v3, cs := c3, o := o', ins := d.ins ++ [l], lows := d.lows ++ [l2], rets := d.rets ++ [d.cur], cur := [] } := by
    have lf : ∀ j, j ≤ q.b2 → j ≠ q.p5 → h71[j]? = h[j]? := fun j hj hne => (N5 j hne).trans (low3 j hj)
    refine ⟨⟨by have := s.ex.len; omega, fun j hj => (lf j (by omega) (by omega)).trans (s.ex.get j hj)⟩, ⟨(lf _ (by omega) (by omega)).trans fx.r4, G5, (lf _ (by omega) (by omega)).trans fx.rx, (lf _ (by omega) (by omega)).trans fx.rOf, fx.lOf, fx.bOf, (lf _ (by omega) (by omega)).trans fx.rEn, fx.lEn, ?_⟩, sl3.keep fun j hj _ => N5 j (by omega), by omega, fun j hj => ?_, fun j hj => ?_, ?_, ?_, ?_, ?_⟩
    · have e : (List.range q.k).map (uOf v3) = (List.range q.k).map (uOf d.v) := List.map_congr_left fun c hc => by
        show v3 (4 + c) = d.v (4 + c)
        have := List.mem_range.1 hc
        have := ok.k
        rw [vv0 _ (by omega), hv _ (by omega)]
      show h71[q.b2]? = some (.row ((List.range q.k).map (uOf v3)) true)
      rw [e]
      exact (lf _ (Nat.le_refl _) (by omega)).trans fx.rof
    · show (c3 j).length ≤ _
      by_cases e1 : j = 1
      · subst e1; rw [hcc1]; simpa using hs.1
      · by_cases e2 : j = 2
        · subst e2; rw [hcc2]; simpa using hs.2.1
        · by_cases e3 : j = 3
          · subst e3; rw [hcc3]; simpa using hs.2.2
          · rw [cc0 j (by omega)]; exact fs9.sm j hj
    · have f := fs9.fz j hj
      refine ⟨f.1, by have := f.2.1; omega, fun a ha hc => ?_⟩
      rcases ids3 a ha j hc with h | h
      · exact f.2.2 a ha h
      · have := f.2.1; omega
    · show RowsT h71 o' .inn (c3 1) (d.ins ++ [l])
      rw [hcc1]
      refine r1.snoc ?_
      rw [hl, flat_eI_len] at own7'
      rw [hin]
      exact own7'.mono (fun _ _ h => h) fun j _ hj => (frz j (by rw [hj]; exact Tg.noConfusion)).2
    · show RowsT h71 o' .low (c3 2) (d.lows ++ [l2])
      rw [hcc2]
      refine r2.snoc ?_
      rw [hl2, flat_eI_len] at own8'
      rw [hlow]
      exact own8'.mono (fun _ _ h => h) fun j _ hj => (frz j (by rw [hj]; exact Tg.noConfusion)).2
    · show RetsT h71 o' (c3 3) (d.rets ++ [d.cur])
      rw [hcc3]
      exact r3.snoc (own9.mono (fun _ _ h => h) fun j _ hj => (frz j (by rw [hj]; exact Tg.noConfusion)).2) (rc9.mono (fun _ => Tg.noConfusion) frz)
    · show RowsT h71 o' (.rr (d.rets ++ [d.cur]).length) (c3 9) []
      rw [cc0 9 (by omega), hc' 9 (by omega) (by omega)]
      exact RowsT.nil _ _ _
  exact k h71 _ res rfl (fun i hi => ⟨(vv0 i (by omega)).trans (hv i (by omega)), (cc0 i (by omega)).trans (hc i (by omega))⟩) (fun i h7 h9 => ⟨(vv0 i (by omega)).trans (hv' i h7 h9), (cc0 i (by omega)).trans (hc' i h7 h9)⟩) ((vv0 10 (by omega)).trans (hv 10 (by omega))) ((cc0 10 (by omega)).trans (hc 10 (by omega))) rfl rfl rfl rfl rfl rfl _ _ _ _ _ _ _ _ _ _ _ _ _ _ _ _ _ _
end Go.Proofs.YtdlbiliolbdbmaaGreat.W
end

section
/- Top's laws, package fold: machines of numbers, the walk of Make: what its loops keep. Conditions: none. -/
namespace Go.Proofs.YtdlbiliolbdbmaaGreat.W
open Go Go.AM
set_option linter.unusedVariables false
set_option maxRecDepth 100000
def Mem (ol : List Int) (n : Nat) (c x : Int) : Prop := 0 ≤ x ∧ x < (n : Int) ∧ ol[x.toNat]? = some c
def SetsOK (q : Pl) (d : MD) (p : Nat) : Prop := ∀ c, c < q.k → ∃ l : List Int, d.cs (4 + c) = flat eI l ∧ (∀ x ∈ l, Mem d.ol p c x) ∧ (c < p → l ≠ []) ∧ l.length ≤ p
def EntOK (q : Pl) (d : MD) (e : Nat) : Prop := ∀ c, c < e → ∃ x, d.el[c]? = some x ∧ Mem d.ol q.n c x
def FinOK (d : MD) (p : Nat) : Prop := ∃ bl : List Bool, d.cs 0 = bl.map .bool ∧ bl.length = p
structure PS where
  a : Int
  ol : List Int
  el : List Int
  fin : List Bool
  s : Nat → List Int
  ins : List (List Int)
  lows : List (List Int)
  rets : List (List (List Int))
structure Det (d : MD) (t : PS) : Prop where
  a : d.at_ = t.a
  ol : d.ol = t.ol
  el : d.el = t.el
  fin : d.cs 0 = t.fin.map .bool
  s : ∀ c, c < 3 → d.cs (4 + c) = flat eI (t.s c)
  ins : d.ins = t.ins
  lows : d.lows = t.lows
  rets : d.rets = t.rets
theorem flat_eI_inj {l m : List Int} (h : flat eI l = flat eI m) : l = m := by
  rw [flat_eI, flat_eI] at h
  exact (List.map_inj_right (fun a b e => by injection e)).1 h
def stA (ns : List Int) (p c : Nat) (s : PS) : PS := { s with a := s.a + 1, ol := s.ol.set p c, s := fun c' => if c' = c then s.s c' ++ [(p : Int)] else s.s c', fin := s.fin ++ [decide (gv ns s.a 3 = 0)] }
def st1 (ns : List Int) (k p : Nat) (s : PS) : PS := if (p : Int) < (k : Int) then stA ns p p s else stA ns p (gv ns s.a k).toNat { s with a := s.a + 1 }
def pick (ns l : List Int) (a : Int) : Int := l.getD (gv ns a (l.length : Nat)).toNat 0
def st2 (ns : List Int) (c : Nat) (s : PS) : PS := { s with a := s.a + 1, el := s.el.set c (pick ns (s.s c) s.a) }
structure L1 (h0 h : AH) (q : Pl) (vns : Value) (d : MD) (p : Nat) (a : Int) : Prop where
  ms : MS h0 h q vns d
  sets : SetsOK q d p
  fin : FinOK d p
  at0 : 0 ≤ d.at_
  at1 : d.at_ ≤ a
  ins : d.ins = []
  lows : d.lows = []
  rets : d.rets = []
  cur : d.cur = []
  tmp : ∀ i, 7 ≤ i → i < 11 → d.v i = .slice none 0 0 ∧ d.cs i = []
theorem L1.get {h0 h : AH} {q : Pl} {vns : Value} {ns : List Int} {n : Int} {d : MD} {p : Nat} {a : Int} {K : Value → AH → Prop} (ok : q.OK h0.length) (s : L1 h0 h q vns d p a) (hns : Ints h0 vns ns) (ha : a ≤ 100000) (hn : 0 < n ∧ n ≤ 1000000)
    (k : ∀ r h' d', 0 ≤ r → r < n → r = gv ns d.at_ n → d' = { d with at_ := d.at_ + 1 } → L1 h0 h' q vns d' p (a + 1) → K (.int .i64 r) h') : callW Tryz.prog 47 [.pointer (some ⟨q.px, 0, none⟩), .int .i64 n] h K := by
  have a0 := s.at0; have a1 := s.at1
  refine s.ms.get ok hns ⟨a0, by omega⟩ hn fun r h' r0 r1 rg s' _ _ => k r h' _ r0 r1 rg rfl ⟨s', s.sets, s.fin, by show 0 ≤ d.at_ + 1; omega, by show d.at_ + 1 ≤ a + 1; omega, s.ins, s.lows, s.rets, s.cur, s.tmp⟩
theorem flat_pos {l : List Int} {c : List Value} (h : c = flat eI l) : c.length = l.length := by rw [h, flat_eI_len]
theorem body1 {h0 h : AH} {q : Pl} {vns : Value} {ns : List Int} {d : MD} {p c : Nat} {a : Int} {Q : Value → Value → Value → Value → Value → List Value → Nat → Value → Value → Value → Value → Value → Value → List Value → Nat → Value → Value → AH → Prop} (ok : q.OK h0.length) (s : L1 h0 h q vns d p a) (hns : Ints h0 vns ns) (ha : a ≤ 100000) (hp : p < q.n) (hc : c < q.k) (hpc : p < q.k → c = p)
    (k : ∀ h' d', L1 h0 h' q vns d' (p + 1) (a + 1) → (∀ s, Det d s → Det d' (stA ns p c s)) → ∀ a1 a2 a3 a4 a5 a6 a7 a8 a9 a10 a11 a12 a13 a14 a15 a16 a17, Q a1 a2 a3 a4 a5 a6 a7 a8 a9 a10 a11 a12 a13 a14 a15 a16 a17 h') :
    optW (pOff 2 (.pointer (some ⟨q.p5, 0, none⟩))) fun v62 =>
    optW (rdRow false 1 v62 h) fun v63 =>
    optW (pIdxS 1 v63 (.int .i64 (p : Nat))) fun v66 =>
    optW (pStore 1 v66 (.int .i64 (c : Nat)) h) fun h_16 =>
    optW (pIdxS 1 (.slice (some ⟨q.b2, 0, none⟩) q.k q.k) (.int .i64 (c : Nat))) fun v71 =>
    optW (rdRow false 1 v71 h_16) fun v72 =>
    optW (bldSl 1 [(.int .i64 0)] 1 [(0, (.int .i64 (p : Nat)))]) fun c_3 =>
    newW none (.row c_3 true) h_16 fun i_3 h_17 =>
    appSl 1 v72 (.slice (some ⟨i_3, 0, none⟩) 1 1) h_17 fun v75 h_18 =>
    optW (pIdxS 1 (.slice (some ⟨q.b2, 0, none⟩) q.k q.k) (.int .i64 (c : Nat))) fun v76 =>
    optW (pStore 1 v76 v75 h_18) fun h_19 =>
    optW (pOff 4 (.pointer (some ⟨q.p5, 0, none⟩))) fun v77 =>
    optW (rdRow false 1 v77 (reserve 1 h_19)) fun v78 =>
    callW Tryz.prog 47 [.pointer (some ⟨q.px, 0, none⟩), (.int .i64 3)] (reserve 1 h_19) fun v80 h_20 =>
    (∀ x ∈ ceOf 1 v77, vw x (reserve 1 h_19) = vw x (h_20)) ∧
    optW (pBin Tryz.prog .eql 3 v80 (.int .i64 0)) fun v81 =>
    optW (bldSl 1 [(.bool false)] 1 [(0, v81)]) fun c_4 =>
    newW (some (h_19.length)) (.row c_4 true) h_20 fun i_4 h_21 =>
    appSl 1 v78 (.slice (some ⟨i_4, 0, none⟩) 1 1) h_21 fun v83 h_22 =>
    optW (pOff 4 (.pointer (some ⟨q.p5, 0, none⟩))) fun v84 =>
    optW (pStore 1 v84 v83 h_22) fun h_23 => Q v62 v63 v66 v71 v72 c_3 i_3 v75 v76 v77 v78 v80 v81 c_4 i_4 v83 v84 h_23 := by
  have ok3 := ok.k
  have okn := ok.n
  have a0 := s.at0; have a1 := s.at1
  have lOf := s.ms.fx.lOf
  obtain ⟨lc, hlc, hlc2, hlc3, hlc4⟩ := s.sets c hc
  obtain ⟨bl, hbl, hbl2⟩ := s.fin
  refine ofSet ok s.ms hp hc fun h1 s1 _ _ _ => ?_
  refine setsAdd ok s1 hc (by show (d.cs (4 + c)).length + 1 ≤ _; rw [flat_pos hlc]; omega) fun h2 v' s2 _ _ _ _ _ _ => ?_
  refine finAdd (d := { d with ol := d.ol.set p c, v := updV d.v (4 + c) v', cs := updC d.cs (4 + c) (d.cs (4 + c) ++ [.int .i64 (p : Nat)]) }) ok s2 hns ⟨a0, by show d.at_ ≤ _; omega⟩ (by show (updC d.cs (4 + c) _ 0).length + 1 ≤ _; rw [updC_ne (by omega), hbl, List.length_map]; omega) fun h3 v'' b hb s3 _ _ _ _ _ _ _ _ => ?_
  refine k h3 _ ⟨s3, fun c' hc' => ?_, ⟨bl ++ [b], ?_, by simp [hbl2]⟩, by show 0 ≤ d.at_ + 1; omega, by show d.at_ + 1 ≤ a + 1; omega, s.ins, s.lows, s.rets, s.cur, fun i h7 h11 => ?_⟩ (fun ps D => ?_) _ _ _ _ _ _ _ _ _ _ _ _ _ _ _ _ _
  · have st : ∀ x, Mem d.ol p c' x → Mem (d.ol.set p c) (p + 1) c' x := fun x hx => ⟨hx.1, by have := hx.2.1; omega, by rw [List.getElem?_set_ne (by have := hx.2.1; have := hx.1; omega)]; exact hx.2.2⟩
    by_cases e : c' = c
    · subst e
      refine ⟨lc ++ [(p : Int)], ?_, fun x hx => ?_, fun _ h => by simp at h, by simp; omega⟩
      · show updC (updC d.cs (4 + c') (d.cs (4 + c') ++ [.int .i64 (p : Nat)])) 0 _ (4 + c') = _
        rw [updC_ne (by omega), updC_eq, hlc, flat_snoc]
        rfl
      · rcases List.mem_append.1 hx with hx | hx
        · exact st x (hlc2 x hx)
        · have : x = (p : Int) := by simpa using hx
          subst this
          refine ⟨by omega, by omega, ?_⟩
          show (d.ol.set p _)[((p : Nat) : Int).toNat]? = _
          rw [Int.toNat_natCast, List.getElem?_set_self (by omega)]
    · obtain ⟨l, g1, g2, g3, g4⟩ := s.sets c' hc'
      refine ⟨l, ?_, fun x hx => st x (g2 x hx), fun hlt => g3 ?_, by omega⟩
      · show updC (updC d.cs (4 + c) (d.cs (4 + c) ++ [.int .i64 (p : Nat)])) 0 _ (4 + c') = _
        rw [updC_ne (by omega), updC_ne (by omega)]
        exact g1
      · have : c' ≠ p := fun e' => e (by rw [hpc (by omega)]; exact e')
        omega
  · show updC (updC d.cs (4 + c) (d.cs (4 + c) ++ [.int .i64 (p : Nat)])) 0 ((updC d.cs (4 + c) (d.cs (4 + c) ++ [.int .i64 (p : Nat)]) 0) ++ [.bool b]) 0 = _
    rw [updC_eq, updC_ne (by omega), hbl, List.map_append]
    rfl
  · have := s.tmp i h7 h11
    refine ⟨?_, ?_⟩
    · show updV (updV d.v (4 + c) v') 0 v'' i = _
      rw [updV_ne (by omega), updV_ne (by omega)]; exact this.1
    · show updC (updC d.cs (4 + c) (d.cs (4 + c) ++ [.int .i64 (p : Nat)])) 0 _ i = _
      rw [updC_ne (by omega), updC_ne (by omega)]; exact this.2
  · refine ⟨by show d.at_ + 1 = ps.a + 1; rw [D.a], by show d.ol.set p _ = ps.ol.set p _; rw [D.ol], D.el, ?_, fun c' hc' => ?_, D.ins, D.lows, D.rets⟩
    · show updC (updC d.cs (4 + c) (d.cs (4 + c) ++ [.int .i64 (p : Nat)])) 0 ((updC d.cs (4 + c) (d.cs (4 + c) ++ [.int .i64 (p : Nat)]) 0) ++ [.bool b]) 0 = (ps.fin ++ [decide (gv ns ps.a 3 = 0)]).map .bool
      rw [updC_eq, updC_ne (by omega), D.fin, List.map_append, hb]
      show _ ++ [Value.bool (decide (gv ns d.at_ 3 = 0))] = _
      rw [D.a]
      rfl
    · show updC (updC d.cs (4 + c) (d.cs (4 + c) ++ [.int .i64 (p : Nat)])) 0 _ (4 + c') = flat eI (if c' = c then ps.s c' ++ [(p : Int)] else ps.s c')
      rw [updC_ne (by omega)]
      by_cases e : c' = c
      · subst e
        rw [updC_eq, if_pos rfl, D.s c' hc', flat_snoc]
        rfl
      · rw [updC_ne (by omega), if_neg e]
        exact D.s c' hc'
theorem body2 {h0 h : AH} {q : Pl} {vns : Value} {ns : List Int} {d : MD} {c : Nat} {a : Int} {Q : Value → Value → Value → Value → Value → Value → Value → Value → Value → Value → Value → AH → Prop} (ok : q.OK h0.length) (s : L1 h0 h q vns d q.n a) (hns : Ints h0 vns ns) (ha : a ≤ 100000) (hc : c < q.k) (he : EntOK q d c)
    (k : ∀ h' d', L1 h0 h' q vns d' q.n (a + 1) → EntOK q d' (c + 1) → (∀ s, Det d s → Det d' (st2 ns c s)) → ∀ a1 a2 a3 a4 a5 a6 a7 a8 a9 a10 a11, Q a1 a2 a3 a4 a5 a6 a7 a8 a9 a10 a11 h') :
    optW (pOff 3 (.pointer (some ⟨q.p5, 0, none⟩))) fun v90 =>
    optW (rdRow false 1 v90 h) fun v91 =>
    optW (pIdxS 1 (.slice (some ⟨q.b2, 0, none⟩) q.k q.k) (.int .i64 (c : Nat))) fun v95 =>
    optW (rdRow false 1 v95 h) fun v96 =>
    optW (pIdxS 1 (.slice (some ⟨q.b2, 0, none⟩) q.k q.k) (.int .i64 (c : Nat))) fun v100 =>
    optW (rdRow false 1 v100 h) fun v101 =>
    optW (lenSl v101) fun v102 =>
    callW Tryz.prog 47 [.pointer (some ⟨q.px, 0, none⟩), v102] h fun v103 h_33 =>
    (∀ x ∈ ceOf 1 v95, vw x (h) = vw x (h_33)) ∧
    (∀ x ∈ ceOf 1 v90, vw x (h) = vw x (h_33)) ∧
    optW (pIdxS 1 v96 v103) fun v104 =>
    optW (rdRow false 1 v104 h_33) fun v105 =>
    optW (pIdxS 1 v91 (.int .i64 (c : Nat))) fun v106 =>
    optW (pStore 1 v106 v105 h_33) fun h_34 => Q v90 v91 v95 v96 v100 v101 v102 v103 v104 v105 v106 h_34 := by
  have o0 := ok.h0; have o1 := ok.h1; have o2 := ok.h2; have o3 := ok.h3; have o4 := ok.h4; have o5 := ok.h5
  have ok3 := ok.k
  have okn := ok.n
  have a0 := s.at0; have a1 := s.at1
  obtain ⟨l, hl, hm, hne, hll⟩ := s.sets c hc
  have hpos : 0 < l.length := List.length_pos_iff.2 (hne (by omega))
  refine w_offP (w_rdP s.ms.fx.r5 (v := .slice (some ⟨q.iEn, 0, none⟩) q.k q.k) rfl ?_)
  refine setRead s.ms hc ?_
  refine setRead s.ms hc ?_
  refine w_len (s.ms.ints (by omega) hl) ?_
  refine s.ms.get ok hns ⟨a0, by omega⟩ (by omega) fun r h1 r0 r1 rg s1 k1 l1 => ?_
  refine ⟨idrow s.ms.fx.rof s1.fx.rof, idrow s.ms.fx.r5 s1.fx.r5, ?_⟩
  obtain ⟨x, hx⟩ := getElem?_of_lt (l := l) (i := r.toNat) (by omega)
  refine w_idxT (enc := eI) eI_len (s1.ints (i := 4 + c) (by omega) hl) r0 hx fun pp hpp => w_rd1 hpp rfl ?_
  have lEn := s1.fx.lEn
  refine w_ix hc (w_stP s1.fx.rEn (by rw [flat_eI_len]; omega) rfl rfl ?_)
  rw [flat_eI_set]
  have hlt := lt_of_get s1.fx.rEn
  have hN : ∀ j, j ≠ q.iEn → (h1.set q.iEn (.row (flat eI (d.el.set c x)) true))[j]? = h1[j]? := fun j hj => get_ne (Ne.symm hj) _
  have mx := hm x (List.mem_of_getElem? hx)
  have s2 : MS h0 (h1.set q.iEn (.row (flat eI (d.el.set c x)) true)) q vns { d with at_ := d.at_ + 1, el := d.el.set c x } :=
    s1.setB (ol := d.ol) (el := d.el.set c x) ok (s1.ex.set (by omega) _) ⟨(hN _ (by omega)).trans s1.fx.r4, (hN _ (by omega)).trans s1.fx.r5, (hN _ (by omega)).trans s1.fx.rx, (hN _ (by omega)).trans s1.fx.rOf, s1.fx.lOf, s1.fx.bOf, get_set _ hlt _, by rw [List.length_set]; exact lEn, (hN _ (by omega)).trans s1.fx.rof⟩ (by simp) fun j hj => hN j (by omega)
  refine k _ _ ⟨s2, s.sets, s.fin, by show 0 ≤ d.at_ + 1; omega, by show d.at_ + 1 ≤ a + 1; omega, s.ins, s.lows, s.rets, s.cur, s.tmp⟩ (fun c' hc' => ?_) (fun ps D => ⟨by show d.at_ + 1 = ps.a + 1; rw [D.a], D.ol, ?_, D.fin, D.s, D.ins, D.lows, D.rets⟩) _ _ _ _ _ _ _ _ _ _ _
  rotate_left
  · show d.el.set c x = ps.el.set c (pick ns (ps.s c) ps.a)
    have el : l = ps.s c := flat_eI_inj (hl.symm.trans (D.s c (by omega)))
    have ex : x = pick ns (ps.s c) ps.a := by unfold pick; rw [← el, ← D.a, ← rg, List.getD_eq_getElem?_getD, hx]; rfl
    rw [← ex, D.el]
  show ∃ y, (d.el.set c x)[c']? = some y ∧ Mem d.ol q.n c' y
  have lE : d.el.length = q.k := lEn
  by_cases e : c' = c
  · subst e
    exact ⟨x, by rw [List.getElem?_set_self (by omega)], mx⟩
  · obtain ⟨y, y1, y2⟩ := he c' (by omega)
    exact ⟨y, by rw [List.getElem?_set_ne (Ne.symm e)]; exact y1, y2⟩
structure V3 (q : Pl) (d : MD) (p : Nat) : Prop where
  n1 : d.ins.length = p
  n2 : d.lows.length = p
  n3 : d.rets.length = p
  ins : ∀ (i : Nat) (l : List Int), d.ins[i]? = some l → ∃ c, d.ol[i]? = some c ∧ (l.length : Int) = q.pl ∧ ∀ x ∈ l, Mem d.ol q.n c x
  lows : ∀ (i : Nat) (l : List Int), d.lows[i]? = some l → ∃ c, d.ol[i]? = some c ∧ (l.length : Int) = (if c = 0 then q.cl else 0) ∧ ∀ x ∈ l, Mem d.ol q.n 0 x
  rets : ∀ (i : Nat) (r : List (List Int)), d.rets[i]? = some r → ∃ c, d.ol[i]? = some c ∧ (r.length : Int) = (if c = 0 then 0 else q.cl) ∧ ∀ w ∈ r, w.length = q.n ∧ ∀ (j : Nat) (x : Int), w[j]? = some x → ∃ c', d.ol[j]? = some c' ∧ Mem d.ol q.n c' x
structure L3 (h0 h : AH) (q : Pl) (vns : Value) (d : MD) (p : Nat) : Prop where
  ms : MS h0 h q vns d
  sets : SetsOK q d q.n
  fin : FinOK d q.n
  ent : EntOK q d q.k
  at0 : 0 ≤ d.at_
  at1 : d.at_ ≤ 100 + 100 * (p : Int)
  v3 : V3 q d p
  cur : d.cur = []
  tmp : ∀ i, 7 ≤ i → i < 11 → d.v i = .slice none 0 0 ∧ d.cs i = []
structure Ag (d d' : MD) : Prop where
  ol : d'.ol = d.ol
  el : d'.el = d.el
  ins : d'.ins = d.ins
  lows : d'.lows = d.lows
  rets : d'.rets = d.rets
  vc : ∀ i, i < 7 → d'.v i = d.v i ∧ d'.cs i = d.cs i
theorem Ag.refl (d : MD) : Ag d d := ⟨rfl, rfl, rfl, rfl, rfl, fun _ _ => ⟨rfl, rfl⟩⟩
theorem Ag.step {d d' : MD} (a : Ag d d') {i : Nat} {v' : Value} {c' : List Value} {x : Int} (hi : 7 ≤ i) : Ag d { d' with at_ := x, v := updV d'.v i v', cs := updC d'.cs i c' } :=
  ⟨a.ol, a.el, a.ins, a.lows, a.rets, fun j hj => ⟨by show updV d'.v i v' j = _; rw [updV_ne (by omega)]; exact (a.vc j hj).1, by show updC d'.cs i c' j = _; rw [updC_ne (by omega)]; exact (a.vc j hj).2⟩⟩
theorem res14 (e : Env) (h : AH) : resList Tryz.prog e h Tryz.f18.results.toList = (rdRow true 8 (e 4) h).map fun v => [v] := by
  have h1 : Tryz.f18.results.toList = [.cell 4 55] := by kernel_rfl
  have h2 : ∀ x, pLoad Tryz.prog 55 x h = rdRow true 8 x h := fun x => by kernel_rfl
  rw [h1]
  show (match pLoad Tryz.prog 55 (e 4) h with
    | some v => match resList Tryz.prog e h [] with
      | some vs => some (v :: vs)
      | none => none
    | none => none) = _
  rw [h2]
  cases rdRow true 8 (e 4) h <;> rfl
theorem makeEnd {E : Value → Env} {h0 h : AH} {q : Pl} {vns : Value} {d : MD} {K : Value → AH → Prop} (ok : q.OK h0.length) (s : L3 h0 h q vns d q.n) (hE : ∀ v, E v 4 = .pointer (some ⟨q.p4, 0, none⟩)) (k : ∀ h', Ex h0 h' → (∀ j, j ≠ q.p4 → h'[j]? = h[j]?) → K (.agg (mrow q d.v).toArray) h') :
    optW (rdRow true 8 (.pointer (some ⟨q.p5, 0, none⟩)) h) fun v219 =>
    optW (pStore 8 (.pointer (some ⟨q.p4, 0, none⟩)) v219 h) fun h_72 =>
    optW (resList Tryz.prog (E v219) h_72 Tryz.f18.results.toList) fun vs => K (resOf vs) h_72 := by
  have o0 := ok.h0; have o1 := ok.h1
  have fx := s.ms.fx
  obtain ⟨a1, n1, c1, e1⟩ := Sl.isSl (s.ms.sl.own 0 (by omega)).sl
  obtain ⟨a2, n2, c2, e2⟩ := Sl.isSl (s.ms.sl.own 1 (by omega)).sl
  obtain ⟨a3, n3, c3, e3⟩ := Sl.isSl (s.ms.sl.own 2 (by omega)).sl
  obtain ⟨a4, n4, c4, e4⟩ := Sl.isSl (s.ms.sl.own 3 (by omega)).sl
  have r5 := fx.r5
  have em : mrow q d.v = [.int .i64 q.pl, .int .i64 q.cl, .slice (some ⟨q.iOf, 0, none⟩) q.n q.n, .slice (some ⟨q.iEn, 0, none⟩) q.k q.k, .slice a1 n1 c1, .slice a2 n2 c2, .slice a3 n3 c3, .slice a4 n4 c4] := by
    unfold mrow
    rw [e1, e2, e3, e4]
  rw [em] at r5 k
  refine w_rdPA r5 (Nat.le_refl 8) ?_
  refine w_stPA fx.r4 rfl (Nat.le_refl 8) rfl ?_
  rw [res14]
  have hb := lt_of_get fx.r4
  refine w_some (v := [.agg #[.int .i64 q.pl, .int .i64 q.cl, .slice (some ⟨q.iOf, 0, none⟩) q.n q.n, .slice (some ⟨q.iEn, 0, none⟩) q.k q.k, .slice a1 n1 c1, .slice a2 n2 c2, .slice a3 n3 c3, .slice a4 n4 c4]]) ?_ ?_
  · rw [hE]
    have g := hopt (o := rdRow true 8 (.pointer (some ⟨q.p4, 0, none⟩)) _) (w_rdPA (get_set h hb (.row (spliceL z8 0 (cellsL (.agg (((([.int .i64 q.pl, .int .i64 q.cl, .slice (some ⟨q.iOf, 0, none⟩) q.n q.n, .slice (some ⟨q.iEn, 0, none⟩) q.k q.k, .slice a1 n1 c1, .slice a2 n2 c2, .slice a3 n3 c3, .slice a4 n4 c4] : List Value)).drop 0).take 8).toArray))) true)) (Nat.le_refl 8) rfl)
    rw [g]
    rfl
  · exact k _ (s.ms.ex.set (by omega) _) fun j hj => get_ne (Ne.symm hj) _
end Go.Proofs.YtdlbiliolbdbmaaGreat.W
end

section
/- Top's laws, package fold: machines of numbers, the walk of Make. Conditions: none. -/
namespace Go.Proofs.YtdlbiliolbdbmaaGreat.W
open Go Go.AM
set_option linter.unusedVariables false
set_option maxRecDepth 100000
structure E1 (q : Pl) (e : Env) : Prop where
  e4 : e 4 = .pointer (some ⟨q.p4, 0, none⟩)
  e5 : e 5 = .pointer (some ⟨q.p5, 0, none⟩)
  e6 : e 6 = .int .i64 (q.k : Nat)
  e7 : e 7 = .int .i64 (q.n : Nat)
  e8 : e 8 = .pointer (some ⟨q.px, 0, none⟩)
  e9 : e 9 = .slice (some ⟨q.b2, 0, none⟩) q.k q.k
theorem chainLow {h0 h : AH} {q : Pl} {vns : Value} {d : MD} {p j c : Nat} {A B : Value → Value → Value → Value → Value → Value → Value → Value → Value → Value → AH → Prop} (s : MS h0 h q vns d) (hp : p < q.n) (hc : d.ol[p]? = some (c : Int))
    (hA : (j : Int) < q.cl → c = 0 → ∀ a1 a2 a3 a4 a5 a6 a7 a8 a9 a10, A a1 a2 a3 a4 a5 a6 a7 a8 a9 a10 h) (hB : ((j : Int) < q.cl → c ≠ 0) → ∀ a1 a2 a3 a4 a5 a6 a7 a8 a9 a10, B a1 a2 a3 a4 a5 a6 a7 a8 a9 a10 h) :
    optW (pOff 1 (.pointer (some ⟨q.p5, 0, none⟩))) fun v137 =>
    optW (rdRow false 1 v137 h) fun v138 =>
    optW (pBin Tryz.prog .lss 3 (.int .i64 (j : Nat)) v138) fun v139 =>
    gopW (gB v139 true) (fun k =>
      optW (pOff 2 (.pointer (some ⟨q.p5, 0, none⟩))) fun v141_1 =>
      k v141_1 h) h fun v141 h_41 =>
    gopW (gB v139 true) (fun k_1 =>
      optW (rdRow false 1 v141 h_41) fun v142_1 =>
      k_1 v142_1 h_41) h_41 fun v142 h_42 =>
    gopW (gB v139 true) (fun k_2 =>
      k_2 (.int .i64 (p : Nat)) h_42) h_42 fun v143 h_43 =>
    gopW (gB v139 true) (fun k_3 =>
      optW (pIdxS 1 v142 v143) fun v144_1 =>
      k_3 v144_1 h_43) h_43 fun v144 h_44 =>
    gopW (gB v139 true) (fun k_4 =>
      optW (rdRow false 1 v144 h_44) fun v145_1 =>
      k_4 v145_1 h_44) h_44 fun v145 h_45 =>
    gopW (gB v139 true) (fun k_5 =>
      optW (pBin Tryz.prog .eql 3 v145 (.int .i64 0)) fun v146_1 =>
      k_5 v146_1 h_45) h_45 fun v146 h_46 =>
    optW (pPick v139 v146 (.bool false)) fun v147 =>
    condW v147 (A v137 v138 v139 v141 v142 v143 v144 v145 v146 v147 h_46) (B v137 v138 v139 v141 v142 v143 v144 v145 v146 v147 h_46) := by
  refine w_offP (w_rdP s.fx.r5 (v := .int .i64 q.cl) rfl (w_lss ?_))
  by_cases q1 : (j : Int) < q.cl
  · refine g_tt q1 (w_offP (g_tt q1 (w_rdP s.fx.r5 (v := .slice (some ⟨q.iOf, 0, none⟩) q.n q.n) rfl (g_tt q1 (g_tt q1 (w_ix hp (g_tt q1 (w_rdP s.fx.rOf (flat_eI_get hc) (g_tt q1 (w_eql (pk_tt q1 (c_dec (fun q2 => ?_) (fun q2 => ?_)))))))))))))
    · exact hA q1 (by omega) _ _ _ _ _ _ _ _ _ _
    · exact hB (fun _ => by omega) _ _ _ _ _ _ _ _ _ _
  · exact g_tf q1 (g_tf q1 (g_tf q1 (g_tf q1 (g_tf q1 (g_tf q1 (pk_ff q1 (c_f (hB (fun h => absurd h q1) _ _ _ _ _ _ _ _ _ _))))))))
theorem chainRet {h0 h : AH} {q : Pl} {vns : Value} {d : MD} {p j c : Nat} {A B : Value → Value → Value → Value → Value → Value → Value → Value → Value → Value → AH → Prop} (s : MS h0 h q vns d) (hp : p < q.n) (hc : d.ol[p]? = some (c : Int))
    (hA : (j : Int) < q.cl → c ≠ 0 → ∀ a1 a2 a3 a4 a5 a6 a7 a8 a9 a10, A a1 a2 a3 a4 a5 a6 a7 a8 a9 a10 h) (hB : ((j : Int) < q.cl → c = 0) → ∀ a1 a2 a3 a4 a5 a6 a7 a8 a9 a10, B a1 a2 a3 a4 a5 a6 a7 a8 a9 a10 h) :
    optW (pOff 1 (.pointer (some ⟨q.p5, 0, none⟩))) fun v137 =>
    optW (rdRow false 1 v137 h) fun v138 =>
    optW (pBin Tryz.prog .lss 3 (.int .i64 (j : Nat)) v138) fun v139 =>
    gopW (gB v139 true) (fun k =>
      optW (pOff 2 (.pointer (some ⟨q.p5, 0, none⟩))) fun v141_1 =>
      k v141_1 h) h fun v141 h_41 =>
    gopW (gB v139 true) (fun k_1 =>
      optW (rdRow false 1 v141 h_41) fun v142_1 =>
      k_1 v142_1 h_41) h_41 fun v142 h_42 =>
    gopW (gB v139 true) (fun k_2 =>
      k_2 (.int .i64 (p : Nat)) h_42) h_42 fun v143 h_43 =>
    gopW (gB v139 true) (fun k_3 =>
      optW (pIdxS 1 v142 v143) fun v144_1 =>
      k_3 v144_1 h_43) h_43 fun v144 h_44 =>
    gopW (gB v139 true) (fun k_4 =>
      optW (rdRow false 1 v144 h_44) fun v145_1 =>
      k_4 v145_1 h_44) h_44 fun v145 h_45 =>
    gopW (gB v139 true) (fun k_5 =>
      optW (pBin Tryz.prog .gtr 3 v145 (.int .i64 0)) fun v146_1 =>
      k_5 v146_1 h_45) h_45 fun v146 h_46 =>
    optW (pPick v139 v146 (.bool false)) fun v147 =>
    condW v147 (A v137 v138 v139 v141 v142 v143 v144 v145 v146 v147 h_46) (B v137 v138 v139 v141 v142 v143 v144 v145 v146 v147 h_46) := by
  refine w_offP (w_rdP s.fx.r5 (v := .int .i64 q.cl) rfl (w_lss ?_))
  by_cases q1 : (j : Int) < q.cl
  · refine g_tt q1 (w_offP (g_tt q1 (w_rdP s.fx.r5 (v := .slice (some ⟨q.iOf, 0, none⟩) q.n q.n) rfl (g_tt q1 (g_tt q1 (w_ix hp (g_tt q1 (w_rdP s.fx.rOf (flat_eI_get hc) (g_tt q1 (w_gtr (pk_tt q1 (c_dec (fun q2 => ?_) (fun q2 => ?_)))))))))))))
    · exact hA q1 (by omega) _ _ _ _ _ _ _ _ _ _
    · exact hB (fun _ => by omega) _ _ _ _ _ _ _ _ _ _
  · exact g_tf q1 (g_tf q1 (g_tf q1 (g_tf q1 (g_tf q1 (g_tf q1 (pk_ff q1 (c_f (hB (fun h => absurd h q1) _ _ _ _ _ _ _ _ _ _))))))))
theorem SetsOK.ag {q : Pl} {d d' : MD} {p : Nat} (ok3 : q.k ≤ 3) (s : SetsOK q d p) (a : Ag d d') : SetsOK q d' p := by
  intro c hc
  obtain ⟨l, h1, h2, h3, h4⟩ := s c hc
  exact ⟨l, by rw [(a.vc (4 + c) (by omega)).2]; exact h1, by rw [a.ol]; exact h2, h3, h4⟩
theorem V3.snoc {q : Pl} {d d' : MD} {p c : Nat} {l l2 : List Int} {r : List (List Int)} (v : V3 q d p) (eo : d'.ol = d.ol) (e1 : d'.ins = d.ins ++ [l]) (e2 : d'.lows = d.lows ++ [l2]) (e3 : d'.rets = d.rets ++ [r]) (hc : d.ol[p]? = some (c : Int))
    (h1 : (l.length : Int) = q.pl ∧ ∀ x ∈ l, Mem d.ol q.n c x) (h2 : (l2.length : Int) = (if (c : Int) = 0 then q.cl else 0) ∧ ∀ x ∈ l2, Mem d.ol q.n 0 x) (h3 : (r.length : Int) = (if (c : Int) = 0 then 0 else q.cl) ∧ ∀ w ∈ r, w.length = q.n ∧ ∀ (j : Nat) (x : Int), w[j]? = some x → ∃ c', d.ol[j]? = some c' ∧ Mem d.ol q.n c' x) : V3 q d' (p + 1) := by
  refine ⟨by rw [e1]; simp [v.n1], by rw [e2]; simp [v.n2], by rw [e3]; simp [v.n3], fun i w hw => ?_, fun i w hw => ?_, fun i w hw => ?_⟩
  · rw [e1] at hw
    rw [eo]
    rcases getElem?_snoc hw with hw | ⟨rfl, rfl⟩
    · exact v.ins i w hw
    · exact ⟨c, by rw [v.n1]; exact hc, h1⟩
  · rw [e2] at hw
    rw [eo]
    rcases getElem?_snoc hw with hw | ⟨rfl, rfl⟩
    · exact v.lows i w hw
    · exact ⟨c, by rw [v.n2]; exact hc, h2⟩
  · rw [e3] at hw
    rw [eo]
    rcases getElem?_snoc hw with hw | ⟨rfl, rfl⟩
    · exact v.rets i w hw
    · exact ⟨c, by rw [v.n3]; exact hc, h3⟩
def Z (d : MD) (i : Nat) : Prop := d.v i = .slice none 0 0 ∧ d.cs i = []
theorem Z.step {d : MD} {i j : Nat} {v' : Value} {c' : List Value} {x : Int} (z : Z d j) (hi : j ≠ i) : Z { d with at_ := x, v := updV d.v i v', cs := updC d.cs i c' } j :=
  ⟨by show updV d.v i v' j = _; rw [updV_ne hi]; exact z.1, by show updC d.cs i c' j = _; rw [updC_ne hi]; exact z.2⟩
structure L4 (h0 h : AH) (q : Pl) (vns : Value) (d d' : MD) (p c : Nat) (a : Int) (l l2 : List Int) : Prop where
  ms : MS h0 h q vns d'
  ag : Ag d d'
  at0 : 0 ≤ d'.at_
  at1 : d'.at_ ≤ 100 + 100 * (p : Int) + a
  c7 : d'.cs 7 = flat eI l
  c8 : d'.cs 8 = flat eI l2
  m7 : ∀ x ∈ l, Mem d.ol q.n c x
  m8 : ∀ x ∈ l2, Mem d.ol q.n 0 x
def picks (ns l : List Int) (a : Int) (n : Nat) : List Int := (List.range n).map fun i => pick ns l (a + (i : Nat))
def rowr (ns : List Int) (S : Nat → List Int) (ol : List Int) (a : Int) (n : Nat) : List Int := (List.range n).map fun j => pick ns (S (ol.getD j 0).toNat) (a + (j : Nat))
def rowsr (ns : List Int) (S : Nat → List Int) (ol : List Int) (a : Int) (n t : Nat) : List (List Int) := (List.range t).map fun i => rowr ns S ol (a + (i : Nat) * (n : Int)) n
theorem range_snoc {α : Type} (g : Nat → α) (d : Nat) : (List.range (d + 1)).map g = (List.range d).map g ++ [g d] := by rw [List.range_succ, List.map_append]; rfl
def st3 (ns : List Int) (n pl cl p : Nat) (s : PS) : PS :=
  { s with
    a := s.a + pl + (if s.ol.getD p 0 = 0 then cl else 0 : Nat) + (if s.ol.getD p 0 = 0 then 0 else cl : Nat) * (n : Int)
    ins := s.ins ++ [picks ns (s.s (s.ol.getD p 0).toNat) s.a pl]
    lows := s.lows ++ [picks ns (s.s (s.ol.getD p 0).toNat) (s.a + pl) (if s.ol.getD p 0 = 0 then cl else 0)]
    rets := s.rets ++ [rowsr ns s.s s.ol (s.a + pl + (if s.ol.getD p 0 = 0 then cl else 0 : Nat)) n (if s.ol.getD p 0 = 0 then 0 else cl)] }
def it1 (ns : List Int) (k : Nat) (s : PS) : Nat → PS
  | 0 => s
  | p + 1 => st1 ns k p (it1 ns k s p)
def it2 (ns : List Int) (s : PS) : Nat → PS
  | 0 => s
  | p + 1 => st2 ns p (it2 ns s p)
def it3 (ns : List Int) (n pl cl : Nat) (s : PS) : Nat → PS
  | 0 => s
  | p + 1 => st3 ns n pl cl p (it3 ns n pl cl s p)
def ps0 (n k : Nat) : PS := ⟨0, List.replicate n 0, List.replicate k 0, [], fun _ => [], [], [], []⟩
def psEnd (ns : List Int) (q : Pl) : PS := it3 ns q.n q.pl.toNat q.cl.toNat (it2 ns (it1 ns q.k (ps0 q.n q.k) q.n) q.k) q.n
theorem make14 {h : AH} {a0 : Int} {vns : Value} {ns : List Int} {K : Value → AH → Prop} (hns : Ints h vns ns)
    (k : ∀ h' q d hm, Pl.OK q h.length → QOf a0 q → Det d (psEnd ns q) → L3 h hm q vns d q.n → Ex h h' → (∀ j, j ≠ q.p4 → h'[j]? = hm[j]?) → K (.agg (mrow q d.v).toArray) h') : callW Tryz.prog 18 [.int .i64 a0, vns] h K := by
  refine c18 ?_
  unfold s18
  refine start14 hns fun q h13 ok qof x13 f13 sl13 lt13 v25 v27 v28 v29 v31 v32 v36 v37 v40 c i c1 i1 v46 v47 r2 => ?_
  have okk := ok.k; have okn := ok.n; have okp := ok.pl; have okc := ok.cl
  refine loopE_intro (fun m e h' => ∃ (p : Nat) (d : MD), m = q.n - p ∧ p ≤ q.n ∧ E1 q e ∧ e 10 = .int .i64 (p : Nat) ∧ L1 h h' q vns d p (2 * (p : Int)) ∧ Det d (it1 ns q.k (ps0 q.n q.k) p)) q.n
    ⟨0, ⟨0, wnil, fun _ => [], List.replicate q.n 0, List.replicate q.k 0, fun _ => .no, [], [], [], []⟩, rfl, Nat.zero_le _, ⟨rfl, rfl, rfl, rfl, rfl, rfl⟩, rfl, ⟨⟨x13, f13, sl13, lt13, fun _ _ => by simp, fun j hj => absurd rfl hj, RowsT.nil _ _ _, RowsT.nil _ _ _, RetsT.nil _ _, RowsT.nil _ _ _⟩, fun c _ => ⟨[], rfl, by simp, by omega, by simp⟩, ⟨[], rfl, rfl⟩, by show (0 : Int) ≤ 0; omega, by show (0 : Int) ≤ 2 * ((0 : Nat) : Int); omega, rfl, rfl, rfl, rfl, fun _ _ _ => ⟨rfl, rfl⟩⟩, ⟨rfl, rfl, rfl, rfl, fun _ _ => rfl, rfl, rfl, rfl⟩⟩ ?_
  rintro I m e h1 ⟨p, d, hm, hpn, E, e10, L, D⟩ ih
  rw [E.e5, E.e6, E.e7, E.e8, E.e9, e10]
  refine w_lss (c_dec (fun q1 => ?_) (fun q1 => ?_))
  · refine w_geq (c_dec (fun q2 => ?_) (fun q2 => ?_))
    · refine L.get ok hns (by omega) (by omega) fun r h2 d2 r0 r1 rg ed2 L2 => ?_
      obtain ⟨c, rfl⟩ : ∃ c : Nat, r = c := ⟨r.toNat, by omega⟩
      refine body1 ok L2 hns (by omega) (by omega) (by omega) (fun h => by omega) fun h3 d3 L3 D3 _ _ _ _ _ _ _ _ _ _ _ _ _ _ _ _ _ => ?_
      refine w_add (by omega) (by omega) ?_
      refine ih (q.n - (p + 1)) _ _ (by omega) ⟨p + 1, d3, rfl, by omega, ⟨E.e4, E.e5, E.e6, E.e7, E.e8, E.e9⟩, rfl, { L3 with at1 := by have := L3.at1; omega }, ?_⟩
      subst ed2
      show Det d3 (st1 ns q.k p (it1 ns q.k (ps0 q.n q.k) p))
      generalize it1 ns q.k (ps0 q.n q.k) p = s at D ⊢
      have := D3 { s with a := s.a + 1 } ⟨by show d.at_ + 1 = s.a + 1; rw [D.a], D.ol, D.el, D.fin, D.s, D.ins, D.lows, D.rets⟩
      unfold st1
      rw [if_neg (by omega), ← D.a, ← rg, Int.toNat_natCast, D.a]
      exact this
    · refine body1 ok L hns (by omega) (by omega) (by omega) (fun _ => rfl) fun h3 d3 L3 D3 _ _ _ _ _ _ _ _ _ _ _ _ _ _ _ _ _ => ?_
      refine w_add (by omega) (by omega) ?_
      refine ih (q.n - (p + 1)) _ _ (by omega) ⟨p + 1, d3, rfl, by omega, ⟨E.e4, E.e5, E.e6, E.e7, E.e8, E.e9⟩, rfl, { L3 with at1 := by have := L3.at1; omega }, ?_⟩
      have := D3 _ D
      show Det d3 (st1 ns q.k p _)
      unfold st1
      rw [if_pos (by omega)]
      exact this
  have hpe : p = q.n := by omega
  subst hpe
  have D0 := D
  refine loopE_intro (fun m e h' => ∃ (c : Nat) (d : MD), m = q.k - c ∧ c ≤ q.k ∧ E1 q e ∧ e 12 = .int .i64 (c : Nat) ∧ L1 h h' q vns d q.n (2 * (q.n : Int) + c) ∧ EntOK q d c ∧ Det d (it2 ns (it1 ns q.k (ps0 q.n q.k) q.n) c)) q.k
    ⟨0, d, rfl, Nat.zero_le _, ⟨E.e4, E.e5, E.e6, E.e7, E.e8, E.e9⟩, rfl, { L with at1 := by have := L.at1; omega }, fun c hc => by omega, D0⟩ ?_
  clear D0 D ih E L e10 q1 hm hpn
  clear d e h1 m I
  rintro I m e h1 ⟨c, d, hm, hpn, E, e12, L, he, D⟩ ih
  rw [E.e5, E.e6, E.e8, E.e9, e12]
  refine w_lss (c_dec (fun q1 => ?_) (fun q1 => ?_))
  · refine body2 ok L hns (by omega) (by omega) he fun h3 d3 L3 he3 D3 _ _ _ _ _ _ _ _ _ _ _ => ?_
    refine w_add (by omega) (by omega) ?_
    exact ih (q.k - (c + 1)) _ _ (by omega) ⟨c + 1, d3, rfl, by omega, ⟨E.e4, E.e5, E.e6, E.e7, E.e8, E.e9⟩, rfl, { L3 with at1 := by have := L3.at1; omega }, he3, D3 _ D⟩
  have hpe : c = q.k := by omega
  subst hpe
  refine loopE_intro (fun m e h' => ∃ (p : Nat) (d : MD), m = q.n - p ∧ p ≤ q.n ∧ E1 q e ∧ e 13 = .int .i64 (p : Nat) ∧ L3 h h' q vns d p ∧ Det d (it3 ns q.n q.pl.toNat q.cl.toNat (it2 ns (it1 ns q.k (ps0 q.n q.k) q.n) q.k) p)) q.n
    ⟨0, d, rfl, Nat.zero_le _, ⟨E.e4, E.e5, E.e6, E.e7, E.e8, E.e9⟩, rfl, ⟨L.ms, L.sets, L.fin, he, L.at0, by have := L.at1; omega, ⟨by rw [L.ins]; rfl, by rw [L.lows]; rfl, by rw [L.rets]; rfl, fun i l hl => by rw [L.ins] at hl; simp at hl, fun i l hl => by rw [L.lows] at hl; simp at hl, fun i l hl => by rw [L.rets] at hl; simp at hl⟩, L.cur, L.tmp⟩, D⟩ ?_
  clear D ih E L e12 q1 hm hpn he
  clear d e h1 m I
  rintro I m e h1 ⟨p, d, hm, hpn, E, e13, L, D⟩ ih
  rw [E.e4, E.e5, E.e7, E.e9, e13]
  refine w_lss (c_dec (fun q1 => ?_) (fun q1 => ?_))
  · refine ofRead L.ms (by omega) fun c hc hol _ _ _ => setRead L.ms hc ?_
    have at1 := L.at1
    generalize hS : it3 ns q.n q.pl.toNat q.cl.toNat (it2 ns (it1 ns q.k (ps0 q.n q.k) q.n) q.k) p = S at D
    obtain ⟨lc, hlc, hmc, hnc, hllc⟩ := L.sets c hc
    have elc : lc = S.s c := flat_eI_inj (hlc.symm.trans (D.s c (by omega)))
    have eol : d.ol.getD p 0 = (c : Int) := by rw [List.getD_eq_getElem?_getD, hol]; rfl
    have eola : ∀ {j : Nat} {c' : Nat}, d.ol[j]? = some (c' : Int) → (S.ol.getD j 0).toNat = c' := fun {j c'} hj => by rw [← D.ol, List.getD_eq_getElem?_getD, hj]; rfl
    refine loopE_intro (fun m e h' => ∃ (i : Nat) (d' : MD) (l : List Int), m = 10 - i ∧ (i : Int) ≤ q.pl ∧ E1 q e ∧ e 13 = .int .i64 (p : Nat) ∧ e 14 = d.v (4 + c) ∧ e 15 = d'.v 7 ∧ e 16 = .slice none 0 0 ∧ e 17 = .slice none 0 0 ∧ e 18 = .int .i64 (i : Nat) ∧ L4 h h' q vns d d' p c i l [] ∧ l.length = i ∧ Z d' 8 ∧ Z d' 9 ∧ Z d' 10 ∧ d'.cur = [] ∧ l = picks ns lc d.at_ i ∧ d'.at_ = d.at_ + i) 10
      ⟨0, d, [], rfl, by omega, ⟨E.e4, E.e5, E.e6, E.e7, E.e8, E.e9⟩, e13, rfl, (L.tmp 7 (by omega) (by omega)).1.symm, rfl, rfl, rfl, ⟨L.ms, Ag.refl _, L.at0, by omega, (L.tmp 7 (by omega) (by omega)).2, (L.tmp 8 (by omega) (by omega)).2, by simp, by simp⟩, rfl, L.tmp 8 (by omega) (by omega), L.tmp 9 (by omega) (by omega), L.tmp 10 (by omega) (by omega), L.cur, rfl, by omega⟩ ?_
    rintro I3 m3 e3 h3 ⟨i, d3, l, hm3, hi, E3, f13, f14, f15, f16, f17, f18, M4, hli, z8, z9, z10, hcur, hpk, hat⟩ ih3
    rw [E3.e5, E3.e8, f14, f15, f18]
    have sets3 := L.sets.ag okk.2 M4.ag
    refine w_offP (w_rdP M4.ms.fx.r5 (v := .int .i64 q.pl) rfl (w_lss (c_dec (fun q2 => ?_) (fun q2 => ?_))))
    · refine pickApp (l := lc) ok M4.ms hns ⟨M4.at0, by have := M4.at1; omega⟩ hc (M4.ag.vc (4 + c) (by omega)).1.symm (by rw [(M4.ag.vc (4 + c) (by omega)).2]; exact hlc) (hnc (by omega)) (.inl rfl) (by rw [M4.c7, flat_eI_len]; omega) fun h4 v' x hx exx ms4 _ _ _ _ _ _ => ?_
      refine w_add (by omega) (by omega) ?_
      refine ih3 (10 - (i + 1)) _ _ (by omega) ⟨i + 1, { d3 with at_ := d3.at_ + 1, v := updV d3.v 7 v', cs := updC d3.cs 7 (d3.cs 7 ++ [.int .i64 x]) }, l ++ [x], rfl, by omega, ⟨E3.e4, E3.e5, E3.e6, E3.e7, E3.e8, E3.e9⟩, f13, f14, rfl, f16, f17, rfl, ⟨ms4, M4.ag.step (by omega), by show 0 ≤ d3.at_ + 1; have := M4.at0; omega, by show d3.at_ + 1 ≤ _; have := M4.at1; omega, ?_, ?_, ?_, by simp⟩, by simp [hli], z8.step (by omega), z9.step (by omega), z10.step (by omega), hcur, by rw [hpk, exx, hat]; exact (range_snoc _ i).symm, by show d3.at_ + 1 = _; omega⟩
      · show updC d3.cs 7 (d3.cs 7 ++ [.int .i64 x]) 7 = _
        rw [updC_eq, M4.c7, flat_snoc]; rfl
      · exact (z8.step (by omega)).2
      · intro y hy
        rcases List.mem_append.1 hy with hy | hy
        · exact M4.m7 y hy
        · have : y = x := by simpa using hy
          subst this
          exact hmc _ hx
    have hi' : (i : Int) = q.pl := by omega
    refine loopE_intro (fun m e h' => ∃ (j : Nat) (d' : MD) (l2 : List Int), m = 10 - j ∧ (j : Int) ≤ q.cl ∧ (c ≠ 0 → j = 0) ∧ E1 q e ∧ e 13 = .int .i64 (p : Nat) ∧ e 14 = d.v (4 + c) ∧ e 15 = d'.v 7 ∧ e 16 = d'.v 8 ∧ e 17 = .slice none 0 0 ∧ e 19 = .int .i64 (j : Nat) ∧ L4 h h' q vns d d' p c (2 + (j : Int)) l l2 ∧ l2.length = j ∧ Z d' 9 ∧ Z d' 10 ∧ d'.cur = [] ∧ l2 = picks ns lc (d.at_ + q.pl) j ∧ d'.at_ = d.at_ + q.pl + j) 10
      ⟨0, d3, [], rfl, by omega, fun _ => rfl, ⟨E3.e4, E3.e5, E3.e6, E3.e7, E3.e8, E3.e9⟩, f13, f14, f15, f16.trans z8.1.symm, f17, rfl, { M4 with at1 := by have := M4.at1; omega }, rfl, z9, z10, hcur, rfl, by omega⟩ ?_
    clear hat sets3 ih3 E3 f13 f14 f15 f16 f17 f18 M4 z8 z9 z10 hcur q2 hm3 hi
    clear d3 e3 h3 m3 I3
    rintro I3 m3 e3 h3 ⟨j, d3, l2, hm3, hj, hcj, E3, f13, f14, f15, f16, f17, f19, M4, hlj, z9, z10, hcur, hpk2, hat⟩ ih3
    rw [E3.e5, E3.e8, f13, f14, f16, f19]
    refine chainLow M4.ms (by omega) (by rw [M4.ag.ol]; exact hol) (fun q2 q3 _ _ _ _ _ _ _ _ _ _ => ?_) (fun q2 _ _ _ _ _ _ _ _ _ _ => ?_)
    · refine pickApp (l := lc) ok M4.ms hns ⟨M4.at0, by have := M4.at1; omega⟩ hc (M4.ag.vc (4 + c) (by omega)).1.symm (by rw [(M4.ag.vc (4 + c) (by omega)).2]; exact hlc) (hnc (by omega)) (.inr (.inl rfl)) (by rw [M4.c8, flat_eI_len]; omega) fun h4 v' x hx exx ms4 _ _ _ _ _ _ => ?_
      refine w_add (by omega) (by omega) ?_
      refine ih3 (10 - (j + 1)) _ _ (by omega) ⟨j + 1, { d3 with at_ := d3.at_ + 1, v := updV d3.v 8 v', cs := updC d3.cs 8 (d3.cs 8 ++ [.int .i64 x]) }, l2 ++ [x], rfl, by omega, fun h => absurd q3 h, ⟨E3.e4, E3.e5, E3.e6, E3.e7, E3.e8, E3.e9⟩, f13, f14, f15.trans (show d3.v 7 = updV d3.v 8 v' 7 from (updV_ne (by omega)).symm), rfl, f17, rfl, ⟨ms4, M4.ag.step (by omega), by show 0 ≤ d3.at_ + 1; have := M4.at0; omega, by show d3.at_ + 1 ≤ _; have := M4.at1; omega, ?_, ?_, M4.m7, ?_⟩, by simp [hlj], z9.step (by omega), z10.step (by omega), hcur, by rw [hpk2, exx, hat]; exact (range_snoc _ j).symm, by show d3.at_ + 1 = _; omega⟩
      · show updC d3.cs 8 (d3.cs 8 ++ [.int .i64 x]) 7 = _
        rw [updC_ne (by omega)]; exact M4.c7
      · show updC d3.cs 8 (d3.cs 8 ++ [.int .i64 x]) 8 = _
        rw [updC_eq, M4.c8, flat_snoc]; rfl
      · intro y hy
        rcases List.mem_append.1 hy with hy | hy
        · exact M4.m8 y hy
        · have : y = x := by simpa using hy
          subst this
          have := hmc _ hx
          rw [q3] at this
          exact this
    have hj' : (j : Int) = if (c : Int) = 0 then q.cl else 0 := by
      by_cases e0 : c = 0
      · rw [if_pos (by omega)]
        have : ¬ (j : Int) < q.cl := fun h => q2 h e0
        omega
      · rw [if_neg (by omega), hcj e0]; rfl
    have jc : (j : Int) ≤ 2 := by omega
    refine loopE_intro (fun m e h' => ∃ (t : Nat) (d' : MD), m = 10 - t ∧ (t : Int) ≤ q.cl ∧ (c = 0 → t = 0) ∧ E1 q e ∧ e 13 = .int .i64 (p : Nat) ∧ e 15 = d'.v 7 ∧ e 16 = d'.v 8 ∧ e 17 = d'.v 9 ∧ e 20 = .int .i64 (t : Nat) ∧ L4 h h' q vns d d' p c (4 + 10 * (t : Int)) l l2 ∧ d'.cur.length = t ∧ (∀ w ∈ d'.cur, w.length = q.n ∧ ∀ (j : Nat) (x : Int), w[j]? = some x → ∃ c', d.ol[j]? = some c' ∧ Mem d.ol q.n c' x) ∧ Z d' 10 ∧ d'.cur = rowsr ns S.s S.ol (d.at_ + q.pl + j) q.n t ∧ d'.at_ = d.at_ + q.pl + j + (t : Int) * (q.n : Int)) 10
      ⟨0, d3, rfl, by omega, fun _ => rfl, ⟨E3.e4, E3.e5, E3.e6, E3.e7, E3.e8, E3.e9⟩, f13, f15, f16, f17.trans z9.1.symm, rfl, { M4 with at1 := by have := M4.at1; omega }, by rw [hcur]; rfl, by rw [hcur]; simp, z10, by rw [hcur]; rfl, by rw [hat]; simp⟩ ?_
    clear hat ih3 E3 f13 f14 f15 f16 f17 f19 M4 z9 z10 hcur q2 hm3 hj hcj
    clear d3 e3 h3 m3 I3
    rintro I3 m3 e3 h3 ⟨t, d3, hm3, ht, hct, E3, f13, f15, f16, f17, f20, M4, hlt, hrows, z10, hrw, hat⟩ ih3
    rw [E3.e5, f13, f15, f16, f20]
    refine chainRet M4.ms (by omega) (by rw [M4.ag.ol]; exact hol) (fun q2 q3 _ _ _ _ _ _ _ _ _ _ => ?_) (fun q2 _ _ _ _ _ _ _ _ _ _ => ?_)
    · refine loopE_intro (fun m e h' => ∃ (s : Nat) (d' : MD) (r : List Int), m = q.n - s ∧ s ≤ q.n ∧ E1 q e ∧ e 13 = .int .i64 (p : Nat) ∧ e 15 = d'.v 7 ∧ e 16 = d'.v 8 ∧ e 17 = d'.v 9 ∧ e 20 = .int .i64 (t : Nat) ∧ e 21 = d'.v 10 ∧ e 22 = .int .i64 (s : Nat) ∧ L4 h h' q vns d d' p c (4 + 10 * (t : Int) + s) l l2 ∧ d'.cur.length = t ∧ (∀ w ∈ d'.cur, w.length = q.n ∧ ∀ (j : Nat) (x : Int), w[j]? = some x → ∃ c', d.ol[j]? = some c' ∧ Mem d.ol q.n c' x) ∧ d'.cs 10 = flat eI r ∧ r.length = s ∧ (∀ (j : Nat) (x : Int), r[j]? = some x → ∃ c', d.ol[j]? = some c' ∧ Mem d.ol q.n c' x) ∧ d'.cur = rowsr ns S.s S.ol (d.at_ + q.pl + j) q.n t ∧ r = rowr ns S.s S.ol (d.at_ + q.pl + j + (t : Int) * (q.n : Int)) s ∧ d'.at_ = d.at_ + q.pl + j + (t : Int) * (q.n : Int) + s) q.n
        ⟨0, d3, [], rfl, Nat.zero_le _, ⟨E3.e4, E3.e5, E3.e6, E3.e7, E3.e8, E3.e9⟩, f13, f15, f16, f17, f20, z10.1.symm, rfl, { M4 with at1 := by have := M4.at1; omega }, hlt, hrows, z10.2, rfl, by simp, hrw, rfl, by rw [hat]; simp⟩ ?_
      clear hrw hat E3 f13 f15 f16 f17 f20 M4 hlt hrows z10
      clear d3 e3 h3
      rintro I6 m6 e6 h6 ⟨s, d6, r, hm6, hs, E6, f13, f15, f16, f17, f20, f21, f22, L6, hlt, hrows, hr, hrs, hrm, hrw, hrr, hat⟩ ih6
      rw [E6.e5, E6.e7, E6.e8, E6.e9, f17, f20, f21, f22]
      refine w_lss (c_dec (fun q4 => ?_) (fun q4 => ?_))
      · refine ofRead L6.ms (by omega) fun c' hc' hol' _ _ _ => setRead L6.ms hc' ?_
        obtain ⟨ls, gs1, gs2, gs3, gs4⟩ := (L.sets.ag okk.2 L6.ag) c' hc'
        refine pickApp (l := ls) ok L6.ms hns ⟨L6.at0, by have := L6.at1; omega⟩ hc' rfl gs1 (gs3 (by omega)) (.inr (.inr rfl)) (by rw [hr, flat_eI_len]; omega) fun h7 v' x hx exx ms7 _ _ _ _ _ _ => ?_
        refine w_add (by omega) (by omega) ?_
        refine ih6 (q.n - (s + 1)) _ _ (by omega) ⟨s + 1, { d6 with at_ := d6.at_ + 1, v := updV d6.v 10 v', cs := updC d6.cs 10 (d6.cs 10 ++ [.int .i64 x]) }, r ++ [x], rfl, by omega, ⟨E6.e4, E6.e5, E6.e6, E6.e7, E6.e8, E6.e9⟩, f13, f15.trans (show d6.v 7 = updV d6.v 10 v' 7 from (updV_ne (by omega)).symm), f16.trans (show d6.v 8 = updV d6.v 10 v' 8 from (updV_ne (by omega)).symm), f17.trans (show d6.v 9 = updV d6.v 10 v' 9 from (updV_ne (by omega)).symm), f20, rfl, rfl, ⟨ms7, L6.ag.step (by omega), by show 0 ≤ d6.at_ + 1; have := L6.at0; omega, by show d6.at_ + 1 ≤ _; have := L6.at1; omega, ?_, ?_, L6.m7, L6.m8⟩, hlt, hrows, ?_, by simp [hrs], ?_, hrw, ?_, by show d6.at_ + 1 = _; omega⟩
        · show updC d6.cs 10 (d6.cs 10 ++ [.int .i64 x]) 7 = _
          rw [updC_ne (by omega)]; exact L6.c7
        · show updC d6.cs 10 (d6.cs 10 ++ [.int .i64 x]) 8 = _
          rw [updC_ne (by omega)]; exact L6.c8
        · show updC d6.cs 10 (d6.cs 10 ++ [.int .i64 x]) 10 = _
          rw [updC_eq, hr, flat_snoc]; rfl
        · intro a y hy
          rcases getElem?_snoc hy with hy | ⟨rfl, rfl⟩
          · exact hrm a y hy
          · rw [L6.ag.ol] at hol'
            refine ⟨c', by rw [hrs]; exact hol', ?_⟩
            have := gs2 _ hx
            rw [L6.ag.ol] at this
            exact this
        · have hol2 := hol'
          rw [L6.ag.ol] at hol2
          have e1 : ls = S.s c' := flat_eI_inj (gs1.symm.trans ((L6.ag.vc (4 + c') (by omega)).2.trans (D.s c' (by omega))))
          have e2 : x = pick ns (S.s (S.ol.getD s 0).toNat) (d.at_ + q.pl + j + (t : Int) * (q.n : Int) + (s : Nat)) := by
            rw [eola hol2, ← e1, exx, hat]; rfl
          rw [hrr, e2]
          exact (range_snoc _ s).symm
      · refine appR (r := r) ok L6.ms rfl hr (by rw [L6.ms.rCur.1, hlt]; omega) fun h7 d7 ms7 g1 g2 g3 g4 g5 g6 g7 g8 g9 g10 _ _ => ?_
        refine w_add (by omega) (by omega) ?_
        refine ih3 (10 - (t + 1)) _ _ (by omega) ⟨t + 1, d7, rfl, by omega, fun h => absurd h q3, ⟨E6.e4, E6.e5, E6.e6, E6.e7, E6.e8, E6.e9⟩, f13, f15.trans (g2 7 (by omega) (by omega)).1.symm, f16.trans (g2 8 (by omega) (by omega)).1.symm, rfl, rfl, ⟨ms7, ⟨g5.trans L6.ag.ol, g6.trans L6.ag.el, g7.trans L6.ag.ins, g8.trans L6.ag.lows, g9.trans L6.ag.rets, fun i hi => ⟨(g2 i (by omega) (by omega)).1.trans (L6.ag.vc i hi).1, (g2 i (by omega) (by omega)).2.trans (L6.ag.vc i hi).2⟩⟩, by rw [g1]; exact L6.at0, by rw [g1]; have := L6.at1; omega, (g2 7 (by omega) (by omega)).2.trans L6.c7, (g2 8 (by omega) (by omega)).2.trans L6.c8, L6.m7, L6.m8⟩, by rw [g10]; simp [hlt], ?_, ⟨g3, g4⟩, ?_, ?_⟩
        rotate_left
        · rw [g10, hrw, hrr]
          have es : s = q.n := by omega
          rw [es]
          exact (range_snoc _ t).symm
        · rw [g1, hat]
          have es : s = q.n := by omega
          have em : ((t + 1 : Nat) : Int) * (q.n : Int) = (t : Int) * (q.n : Int) + (q.n : Int) := by rw [Int.natCast_add, Int.add_mul]; simp
          rw [es, em]; omega
        rw [g10]
        intro w hw
        rcases List.mem_append.1 hw with hw | hw
        · exact hrows w hw
        · have : w = r := by simpa using hw
          subst this
          exact ⟨by omega, hrm⟩
    · have ht' : (t : Int) = if (c : Int) = 0 then 0 else q.cl := by
        by_cases e0 : c = 0
        · rw [if_pos (by omega), hct e0]; rfl
        · rw [if_neg (by omega)]
          have : ¬ (t : Int) < q.cl := fun h => e0 (q2 h)
          omega
      have e1 := M4.ms.rIn.1
      have e2 := M4.ms.rLow.1
      have e3' := M4.ms.rRet.1
      have n1 := L.v3.n1; have n2 := L.v3.n2; have n3 := L.v3.n3
      rw [f17]
      refine append3 ok M4.ms rfl rfl rfl M4.c7 M4.c8 z10.1 (by rw [M4.ag.ins, M4.ag.rets]; omega) (by rw [M4.ag.lows, M4.ag.rets]; omega) ⟨by rw [e1, M4.ag.ins]; omega, by rw [e2, M4.ag.lows]; omega, by rw [e3', M4.ag.rets]; omega⟩ fun h7 d7 ms7 g1 g2 g3 g4 g5 g6 g7 g8 g9 g10 g11 _ _ _ _ _ _ _ _ _ _ _ _ _ _ _ _ _ _ => ?_
      refine w_add (by omega) (by omega) ?_
      have agc : ∀ i, i = 0 ∨ 4 ≤ i ∧ i ≤ 6 → d7.cs i = d.cs i := fun i hi => (g2 i hi).2.trans (M4.ag.vc i (by omega)).2
      have ol7 : d7.ol = d.ol := g6.trans M4.ag.ol
      refine ih (q.n - (p + 1)) _ _ (by omega) ⟨p + 1, d7, rfl, by omega, ⟨E3.e4, E3.e5, E3.e6, E3.e7, E3.e8, E3.e9⟩, rfl, ⟨ms7, fun c2 hc2 => ?_, ?_, fun c2 hc2 => ?_, by rw [g1]; exact M4.at0, by rw [g1]; have := M4.at1; omega, L.v3.snoc (c := c) (l := l) (l2 := l2) (r := d3.cur) ol7 (by rw [g8, M4.ag.ins]) (by rw [g9, M4.ag.lows]) (by rw [g10, M4.ag.rets]) hol ⟨by rw [hli]; exact hi', M4.m7⟩ ⟨by rw [hlj]; exact hj', M4.m8⟩ ⟨by rw [hlt]; exact ht', hrows⟩, g11, fun i h7 h11 => ?_⟩, ?_⟩
      · obtain ⟨l', a1, a2, a3, a4⟩ := L.sets c2 hc2
        exact ⟨l', by rw [agc _ (by omega)]; exact a1, by rw [ol7]; exact a2, a3, a4⟩
      · obtain ⟨bl, b1, b2⟩ := L.fin
        exact ⟨bl, by rw [agc 0 (by omega)]; exact b1, b2⟩
      · obtain ⟨x, x1, x2⟩ := L.ent c2 hc2
        exact ⟨x, by rw [g7, M4.ag.el]; exact x1, by rw [ol7]; exact x2⟩
      · by_cases e10 : i = 10
        · subst e10
          exact ⟨g4.trans z10.1, g5.trans z10.2⟩
        · exact g3 i h7 (by omega)
      · have eS : S.ol.getD p 0 = (c : Int) := by rw [← D.ol]; exact eol
        have ei : i = q.pl.toNat := by omega
        have ej : j = (if (c : Int) = 0 then q.cl.toNat else 0) := by
          by_cases e0 : (c : Int) = 0
          · rw [if_pos e0] at hj' ⊢; omega
          · rw [if_neg e0] at hj' ⊢; omega
        have et : t = (if (c : Int) = 0 then 0 else q.cl.toNat) := by
          by_cases e0 : (c : Int) = 0
          · rw [if_pos e0] at ht' ⊢; omega
          · rw [if_neg e0] at ht' ⊢; omega
        have epl : q.pl = (i : Int) := hi'.symm
        rw [epl] at hat hpk2 hrw
        show Det d7 (st3 ns q.n q.pl.toNat q.cl.toNat p (it3 ns q.n q.pl.toNat q.cl.toNat (it2 ns (it1 ns q.k (ps0 q.n q.k) q.n) q.k) p))
        rw [hS]
        refine ⟨?_, ol7.trans D.ol, g7.trans (M4.ag.el.trans D.el), ?_, fun c2 hc2 => ?_, ?_, ?_, ?_⟩
        · show d7.at_ = S.a + (q.pl.toNat : Nat) + (if S.ol.getD p 0 = 0 then q.cl.toNat else 0 : Nat) + (if S.ol.getD p 0 = 0 then 0 else q.cl.toNat : Nat) * (q.n : Int)
          rw [eS, ← ei, ← ej, ← et, g1, hat, D.a]
        · rw [agc 0 (by omega)]; exact D.fin
        · rw [agc _ (by omega)]; exact D.s c2 hc2
        · show d7.ins = S.ins ++ [picks ns (S.s (S.ol.getD p 0).toNat) S.a q.pl.toNat]
          rw [g8, M4.ag.ins, D.ins, eS, ← ei, Int.toNat_natCast, ← elc, ← D.a, hpk]
        · show d7.lows = S.lows ++ [picks ns (S.s (S.ol.getD p 0).toNat) (S.a + (q.pl.toNat : Nat)) (if S.ol.getD p 0 = 0 then q.cl.toNat else 0)]
          rw [g9, M4.ag.lows, D.lows, eS, ← ei, ← ej, Int.toNat_natCast, ← elc, ← D.a, hpk2]
        · show d7.rets = S.rets ++ [rowsr ns S.s S.ol (S.a + (q.pl.toNat : Nat) + (if S.ol.getD p 0 = 0 then q.cl.toNat else 0 : Nat)) q.n (if S.ol.getD p 0 = 0 then 0 else q.cl.toNat)]
          rw [g10, M4.ag.rets, D.rets, hrw, eS, ← ei, ← ej, ← et, ← D.a]
  · have hpe : p = q.n := by omega
    subst hpe
    exact makeEnd ok L (fun v => E.e4) fun h' x' k' => k h' q d h1 ok qof D L x' k'
end Go.Proofs.YtdlbiliolbdbmaaGreat.W
end

section
/- Top's laws, package fold: machines of modules, as they lie; the code's Check: its rows. Conditions: none. -/
namespace Go.Proofs.YtdlbiliolbdbmaaGreat.W
open Go Go.AM
set_option linter.unusedVariables false
set_option maxRecDepth 100000
structure Mo where
  pl : Int
  cl : Int
  Of : List Int
  En : List Int
  Fi : List Bool
  In : List (List Int)
  Low : List (List Int)
  Ret : List (List (List Int))
def RowsR (h : AH) (v : Value) (ls : List (List Int)) : Prop := ∃ vals : List Value, Sl 1 h v ls.length vals ∧ ∀ (i : Nat) (l : List Int), ls[i]? = some l → ∃ w, vals[i]? = some w ∧ Ints h w l
def RetsR (h : AH) (v : Value) (rs : List (List (List Int))) : Prop := ∃ vals : List Value, Sl 1 h v rs.length vals ∧ ∀ (i : Nat) (r : List (List Int)), rs[i]? = some r → ∃ w, vals[i]? = some w ∧ RowsR h w r
theorem RowsR.ex {h h' : AH} {v : Value} {ls : List (List Int)} (r : RowsR h v ls) (x : Ex h h') : RowsR h' v ls := by
  obtain ⟨vals, h1, h2⟩ := r
  exact ⟨vals, h1.ex x, fun i l hl => by obtain ⟨w, a, b⟩ := h2 i l hl; exact ⟨w, a, Sl.ex b x⟩⟩
theorem RetsR.ex {h h' : AH} {v : Value} {ls : List (List (List Int))} (r : RetsR h v ls) (x : Ex h h') : RetsR h' v ls := by
  obtain ⟨vals, h1, h2⟩ := r
  exact ⟨vals, h1.ex x, fun i l hl => by obtain ⟨w, a, b⟩ := h2 i l hl; exact ⟨w, a, b.ex x⟩⟩
structure MoV where
  vo : Option Addr × Nat × Nat
  ve : Option Addr × Nat × Nat
  vf : Option Addr × Nat × Nat
  vi : Option Addr × Nat × Nat
  vl : Option Addr × Nat × Nat
  vr : Option Addr × Nat × Nat
def sv (x : Option Addr × Nat × Nat) : Value := .slice x.1 x.2.1 x.2.2
def moRow (u : MoV) (m : Mo) : List Value := [.int .i64 m.pl, .int .i64 m.cl, sv u.vo, sv u.ve, sv u.vf, sv u.vi, sv u.vl, sv u.vr]
structure MoH (h : AH) (u : MoV) (m : Mo) : Prop where
  of : Ints h (sv u.vo) m.Of
  en : Ints h (sv u.ve) m.En
  fi : SlT 1 eBo h (sv u.vf) m.Fi
  inn : RowsR h (sv u.vi) m.In
  low : RowsR h (sv u.vl) m.Low
  ret : RetsR h (sv u.vr) m.Ret
  szO : m.Of.length ≤ 1000
  szE : m.En.length ≤ 1000
  szI : ∀ l ∈ m.In, l.length ≤ 1000
  szL : ∀ l ∈ m.Low, l.length ≤ 1000
  szR : ∀ r ∈ m.Ret, r.length ≤ 1000 ∧ ∀ l ∈ r, l.length ≤ 1000
theorem MoH.ex {h h' : AH} {u : MoV} {m : Mo} (r : MoH h u m) (x : Ex h h') : MoH h' u m :=
  ⟨Sl.ex r.of x, Sl.ex r.en x, Sl.ex r.fi x, r.inn.ex x, r.low.ex x, r.ret.ex x, r.szO, r.szE, r.szI, r.szL, r.szR⟩
theorem hist_same {b : Array Nat} {j k : Nat} {xs : List AM.Loc} {h : AH} {K : Prop} (kk : K) : histC b j xs ((k, h, h) :: []) K := hist_all kk (by simp)
theorem read_nil {b : Array Nat} {j : Nat} {hb ha : AH} {K : Prop} (kk : K) : readC b j hb ha [] K := kk
theorem read_same {b : Array Nat} {j : Nat} {h : AH} {S : ST} {K : Prop} (kk : K) : readC b j h h S K := read_all kk (fun _ _ _ _ => rfl)
theorem dec_iff {p q : Prop} [Decidable p] [Decidable q] (h : p ↔ q) : Value.bool (decide p) = Value.bool (decide q) := by rw [decide_eq_decide.2 h]
theorem within31 {a n : Int} {h : AH} {K : Value → AH → Prop} (k : K (.bool (decide (0 ≤ a ∧ a < n))) h) : callW Tryz.prog 93 [.int .i64 a, .int .i64 n] h K := by
  refine c93 ?_
  unfold s93
  refine w_geq ?_
  by_cases q : 0 ≤ a
  · refine g_tt q (g_tt q (g_tt q (w_lss (pk_tt q ?_))))
    rw [dec_iff (p := a < n) (q := 0 ≤ a ∧ a < n) ⟨fun h => ⟨q, h⟩, fun h => h.2⟩]
    exact k
  · refine g_tf q (g_tf q (g_tf q (pk_ff q ?_)))
    have : decide (0 ≤ a ∧ a < n) = false := decide_eq_false fun h => q h.1
    rw [this] at k
    exact k
theorem row32 {R : AH → AH → Prop} (rr : ∀ h, R h h) (rt : ∀ {a b c}, R a b → R b c → R a c) (rx : ∀ {a b}, R a b → Ex a b) {h : AH} {v f : Value} {l : List Int} {long : Int} {may : Nat → Int → Prop} {K : Value → AH → Prop} (hl : Ints h v l) (sz : l.length ≤ 1000)
    (hf : ∀ (k : Nat) p hc (K' : Value → AH → Prop), l[k]? = some p → R h hc → (∀ b hd, R hc hd → (b = true ↔ may k p) → K' (.bool b) hd) → callV (callW Tryz.prog) f [.int .i64 (k : Nat), .int .i64 p] hc K')
    (k : ∀ b h', R h h' → (b = true ↔ (l.length : Int) = long ∧ ∀ (k : Nat) p, l[k]? = some p → may k p) → K (.bool b) h') : callW Tryz.prog 94 [v, .int .i64 long, f] h K := by
  refine c94 ?_
  unfold s94
  refine w_len hl ?_
  refine loopE_intro (fun m e h' => ∃ i : Nat, i ≤ l.length ∧ m = l.length - i ∧ e 0 = v ∧ e 1 = .int .i64 long ∧ e 2 = f ∧ e 9 = v ∧ e 10 = .int .i64 (l.length : Nat) ∧ e 11 = .int .i64 (i : Nat) ∧ R h h' ∧ ∀ (k : Nat) p, k < i → l[k]? = some p → may k p) l.length
    ⟨0, Nat.zero_le _, rfl, rfl, rfl, rfl, rfl, rfl, rfl, rr h, fun k p hk => by omega⟩ ?_
  rintro I m e h1 ⟨i, hi, hm, e0, e1, e2, e9, e10, e11, r1, hall⟩ ih
  rw [e0, e1, e2, e9, e10, e11]
  refine w_lss (c_dec (fun q1 => ?_) (fun q1 => ?_))
  · obtain ⟨x, hx⟩ := getElem?_of_lt (l := l) (i := i) (by omega)
    refine w_idxN eI_len (hl.ex (rx r1)) hx fun p hp => w_rd1 hp rfl ?_
    refine hf i x h1 _ hx r1 fun b h2 r2 hb => ?_
    cases b with
    | true =>
      refine w_notb (c_f (w_add (by omega) (by omega) ?_))
      refine ih (l.length - (i + 1)) _ _ (by omega) ⟨i + 1, by omega, rfl, e0, e1, e2, e9, e10, rfl, rt r1 r2, fun k p hk hp => ?_⟩
      by_cases e : k = i
      · subst e
        rw [hx] at hp
        cases hp
        exact hb.1 rfl
      · exact hall k p (by omega) hp
    | false =>
      refine w_notb (c_t ?_)
      exact k false h2 (rt r1 r2) ⟨fun h => (by cases h), fun h => (by have := hb.2 (h.2 i x hx); cases this)⟩
  · refine w_len (hl.ex (rx r1)) (w_eql ?_)
    refine k _ h1 r1 ⟨fun h => ⟨by simpa using h, fun k p hp => hall k p (by have := (List.getElem?_eq_some_iff.1 hp).1; omega) hp⟩, fun h => by simpa using h.1⟩
theorem cls33 {h : AH} {b : Nat} {u : MoV} {m : Mo} {w : Bool} {k : Nat} {x : Int} {K : Value → AH → Prop} (g : h[b]? = some (.row (moRow u m) w)) (mh : MoH h u m)
    (kk : ∀ c, (c = true ↔ 0 ≤ x ∧ x < (m.En.length : Int)) → K (.bool c) h) : callV (callW Tryz.prog) (.func (.func 95) #[] #[.pointer (some ⟨b, 0, none⟩)]) [.int .i64 (k : Nat), .int .i64 x] h K := by
  show callW Tryz.prog 95 [.int .i64 (k : Nat), .int .i64 x, .pointer (some ⟨b, 0, none⟩)] h K
  refine c95 ?_
  unfold s95
  refine w_offP (w_rdP g (v := sv u.ve) rfl (w_len mh.en (within31 ?_)))
  exact kk _ (by simp)
theorem cls34 {h : AH} {b bn : Nat} {u : MoV} {m : Mo} {w w' : Bool} {k : Nat} {x : Int} {K : Value → AH → Prop} (g : h[b]? = some (.row (moRow u m) w)) (gn : h[bn]? = some (.row [.int .i64 (m.Of.length : Nat)] w')) (mh : MoH h u m)
    (kk : ∀ c, (c = true ↔ Mem m.Of m.Of.length k x) → K (.bool c) h) : callV (callW Tryz.prog) (.func (.func 96) #[] #[.pointer (some ⟨bn, 0, none⟩), .pointer (some ⟨b, 0, none⟩)]) [.int .i64 (k : Nat), .int .i64 x] h K := by
  show callW Tryz.prog 96 [.int .i64 (k : Nat), .int .i64 x, .pointer (some ⟨bn, 0, none⟩), .pointer (some ⟨b, 0, none⟩)] h K
  refine c96 ?_
  unfold s96
  refine w_rdP gn (v := .int .i64 (m.Of.length : Nat)) rfl (within31 ?_)
  by_cases q : 0 ≤ x ∧ x < ((m.Of.length : Nat) : Int)
  · obtain ⟨c, hc⟩ := getElem?_of_lt (l := m.Of) (i := x.toNat) (by omega)
    have of := mh.of
    refine g_tt q (w_offP (g_tt q (w_rdP g (v := sv u.vo) rfl (g_tt q (g_tt q (w_idxT eI_len of q.1 hc fun p hp => g_tt q (w_rd1 hp rfl (g_tt q (g_tt q (w_eql (pk_tt q ?_)))))))))))
    refine kk _ ⟨fun h => ⟨q.1, q.2, ?_⟩, fun h => ?_⟩
    · rw [hc]
      have := of_decide_eq_true h
      rw [this]
    · have := h.2.2
      rw [hc] at this
      cases this
      exact decide_eq_true rfl
  · refine g_tf q (g_tf q (g_tf q (g_tf q (g_tf q (g_tf q (g_tf q (pk_ff q ?_)))))))
    exact kk _ ⟨fun h => (by cases h), fun h => absurd ⟨h.1, h.2.1⟩ q⟩
theorem cls35 {h : AH} {b bn bp p : Nat} {c : Int} {u : MoV} {m : Mo} {w w' w'' : Bool} {k : Nat} {x : Int} {K : Value → AH → Prop} (g : h[b]? = some (.row (moRow u m) w)) (gn : h[bn]? = some (.row [.int .i64 (m.Of.length : Nat)] w')) (gp : h[bp]? = some (.row [.int .i64 (p : Nat)] w'')) (hp : m.Of[p]? = some c) (mh : MoH h u m)
    (kk : ∀ r, (r = true ↔ Mem m.Of m.Of.length c x) → K (.bool r) h) : callV (callW Tryz.prog) (.func (.func 97) #[] #[.pointer (some ⟨bn, 0, none⟩), .pointer (some ⟨b, 0, none⟩), .pointer (some ⟨bp, 0, none⟩)]) [.int .i64 (k : Nat), .int .i64 x] h K := by
  show callW Tryz.prog 97 [.int .i64 (k : Nat), .int .i64 x, .pointer (some ⟨bn, 0, none⟩), .pointer (some ⟨b, 0, none⟩), .pointer (some ⟨bp, 0, none⟩)] h K
  refine c97 ?_
  unfold s97
  refine w_rdP gn (v := .int .i64 (m.Of.length : Nat)) rfl (within31 ?_)
  by_cases q : 0 ≤ x ∧ x < ((m.Of.length : Nat) : Int)
  · obtain ⟨d, hd⟩ := getElem?_of_lt (l := m.Of) (i := x.toNat) (by omega)
    have of := mh.of
    refine gd_tt q (w_offP (gd_tt q (hist_same (w_rdP g (v := sv u.vo) rfl (gd_tt q (gd_tt q (w_idxT eI_len of q.1 hd fun z hz => gd_tt q (hist_same (w_rd1 hz rfl ?_)))))))))
    refine gd_tt q (w_offP (gd_tt q (hist_same (w_rdP g (v := sv u.vo) rfl (gd_tt q (hist_same (w_rdP gp (v := .int .i64 (p : Nat)) rfl (gd_tt q (w_idxN eI_len of hp fun z hz => gd_tt q (hist_same (w_rd1 hz rfl (gd_tt q (w_eql (pk_tt q ?_))))))))))))))
    refine kk _ ⟨fun h => ⟨q.1, q.2, ?_⟩, fun h => ?_⟩
    · rw [hd]
      have := of_decide_eq_true h
      rw [this]
    · have := h.2.2
      rw [hd] at this
      cases this
      exact decide_eq_true rfl
  · refine gd_tf q (gd_tf q (gd_tf q (gd_tf q (gd_tf q (gd_tf q (gd_tf q (gd_tf q (gd_tf q (gd_tf q (gd_tf q (pk_ff q ?_)))))))))))
    exact kk _ ⟨fun h => (by cases h), fun h => absurd ⟨h.1, h.2.1⟩ q⟩
theorem cls49 {h : AH} {b bk : Nat} {c : Int} {u : MoV} {m : Mo} {w w' : Bool} {a0 : Value} {x : Int} {K : Value → AH → Prop} (g : h[b]? = some (.row (moRow u m) w)) (gk : h[bk]? = some (.row [.int .i64 c] w')) (mh : MoH h u m)
    (kk : ∀ r, (r = true ↔ Mem m.Of m.Of.length c x) → K (.bool r) h) : callV (callW Tryz.prog) (.func (.func 145) #[] #[.pointer (some ⟨b, 0, none⟩), .pointer (some ⟨bk, 0, none⟩)]) [a0, .int .i64 x] h K := by
  show callW Tryz.prog 145 [a0, .int .i64 x, .pointer (some ⟨b, 0, none⟩), .pointer (some ⟨bk, 0, none⟩)] h K
  refine c145 ?_
  unfold s145
  have of := mh.of
  refine w_offP (w_rdP g (v := sv u.vo) rfl (w_len of (within31 ?_)))
  by_cases q : 0 ≤ x ∧ x < ((m.Of.length : Nat) : Int)
  · obtain ⟨d, hd⟩ := getElem?_of_lt (l := m.Of) (i := x.toNat) (by omega)
    refine gd_tt q (w_offP (gd_tt q (hist_same (w_rdP g (v := sv u.vo) rfl (gd_tt q (gd_tt q (w_idxT eI_len of q.1 hd fun z hz => gd_tt q (hist_same (w_rd1 hz rfl ?_)))))))))
    refine gd_tt q (hist_same (w_rdP gk (v := .int .i64 c) rfl (gd_tt q (w_eql (pk_tt q ?_)))))
    refine kk _ ⟨fun h => ⟨q.1, q.2, ?_⟩, fun h => ?_⟩
    · rw [hd]
      have := of_decide_eq_true h
      rw [this]
    · have := h.2.2
      rw [hd] at this
      cases this
      exact decide_eq_true rfl
  · refine gd_tf q (gd_tf q (gd_tf q (gd_tf q (gd_tf q (gd_tf q (gd_tf q (pk_ff q ?_)))))))
    exact kk _ ⟨fun h => (by cases h), fun h => absurd ⟨h.1, h.2.1⟩ q⟩
theorem cls48 {h : AH} {b : Nat} {c : Int} {K : Value → AH → Prop} (kk : ∀ h', Ex h h' → h'[h.length]? = some (.row [.int .i64 c] true) → K (.func (.func 145) #[] #[.pointer (some ⟨b, 0, none⟩), .pointer (some ⟨h.length, 0, none⟩)]) h') : callV (callW Tryz.prog) (.func (.func 144) #[] #[.pointer (some ⟨b, 0, none⟩)]) [.int .i64 c] h K := by
  show callW Tryz.prog 144 [.int .i64 c, .pointer (some ⟨b, 0, none⟩)] h K
  refine c144 ?_
  unfold s144
  exact n_boxv rfl fun h' x' l' g' => kk h' x' g'
end Go.Proofs.YtdlbiliolbdbmaaGreat.W
end
