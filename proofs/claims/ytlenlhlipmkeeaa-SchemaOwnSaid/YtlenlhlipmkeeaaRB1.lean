/- Parts of a proof, joined by a program. Conditions: none. -/
import Derived.Test.YtlenlhlipmkeeaaRA0
import Derived.Test.YtlenlhlipmkeeaaRB0
import Derived.Test.YtlenlhlipmkeeaaRS0

section
/- Schema's laws: models made of numbers. Conditions: none. -/
namespace Go.Proofs.Ytlenlhlipmkeeaa.W
open Go Go.AM SchM
set_option linter.unusedVariables false
set_option maxRecDepth 100000
abbrev ptr (X : Nat) : Value := .pointer (some ⟨X, 0, none⟩)
structure MkH (hb h : AH) (X : Nat) (nm : List W) (ns : List Int) (v0 v1 : Value) (a : Nat) : Prop where
  row : h[X]? = some (.row [v0, v1, .int .i64 a] true)
  n0 : SlT 1 eS hb v0 nm
  n1 : Ints hb v1 ns
  x : Ex hb h
  X : hb.length ≤ X
theorem MkH.ex {hb h h' : AH} {X : Nat} {nm : List W} {ns : List Int} {v0 v1 : Value} {a : Nat} (m : MkH hb h X nm ns v0 v1 a) (x : Ex h h') : MkH hb h' X nm ns v0 v1 a := ⟨x.some m.row, m.n0, m.n1, m.x.trans x, m.X⟩
theorem MkH.lt {hb h : AH} {X : Nat} {nm : List W} {ns : List Int} {v0 v1 : Value} {a : Nat} (m : MkH hb h X nm ns v0 v1 a) : X < h.length := lt_of_get m.row
theorem MkH.setNew {hb h : AH} {X i : Nat} {nm : List W} {ns : List Int} {v0 v1 : Value} {a : Nat} (m : MkH hb h X nm ns v0 v1 a) (hi : X < i) (o : AObj) : MkH hb (h.set i o) X nm ns v0 v1 a :=
  ⟨(get_ne (by omega) _).trans m.row, m.n0, m.n1, m.x.set (by have := m.X; omega) _, m.X⟩
theorem nx30 {hb h : AH} {X : Nat} {nm : List W} {ns : List Int} {v0 v1 : Value} {a : Nat} {n : Int} {K : Value → AH → Prop} (m : MkH hb h X nm ns v0 v1 a) (ha : a ≤ 100000000000) (hn : 0 < n ∧ n ≤ 1000000000000)
    (k : ∀ h', Chg (At X) h (At X) h' → h'.length = h.length → MkH hb h' X nm ns v0 v1 (nxA ns a) → K (.int .i64 (nx ns a n)) h') : callW Try.prog 30 [.pointer (some ⟨X, 0, none⟩), .int .i64 n] h K := by
  refine c30 ?_
  unfold s30
  have g := m.row
  have lt := m.lt
  refine w_nilc (w_offP (w_rdP g (v := .int .i64 a) rfl (w_nilc (w_offP (w_rdP g (v := v1) rfl (w_len (m.n1.ex m.x) (w_geq ?_)))))))
  refine c_dec (fun q => ?_) (fun q => ?_)
  · have e1 : nx ns a n = 0 := by unfold nx; rw [List.getElem?_eq_none (by omega)]
    have e2 : nxA ns a = a := by unfold nxA; rw [if_neg (by omega)]
    have := k h (Chg.refl _ _) rfl (by rw [e2]; exact m)
    rw [e1] at this
    exact this
  · refine w_nilc (w_offP (w_rdP g (v := .int .i64 a) rfl (w_add (by omega) (by omega) (w_nilc (w_offP (w_stP g (by show 0 + 2 < 3; decide) rfl rfl ?_))))))
    have g1 : (h.set X (.row ([v0, v1, .int .i64 a].set (0 + 2) (.int .i64 ((a : Int) + 1))) true))[X]? = some (.row [v0, v1, .int .i64 ((a : Int) + 1)] true) := get_set _ lt _
    have c1 : Chg (At X) h (At X) (h.set X (.row ([v0, v1, .int .i64 a].set (0 + 2) (.int .i64 ((a : Int) + 1))) true)) := ⟨by rw [List.length_set]; exact Nat.le_refl _, fun j _ hj => get_ne (fun e => hj e.symm) _, fun j hj => .inl hj⟩
    have l1 : (h.set X (.row ([v0, v1, .int .i64 a].set (0 + 2) (.int .i64 ((a : Int) + 1))) true)).length = h.length := List.length_set ..
    have x1 : Ex hb (h.set X (.row ([v0, v1, .int .i64 a].set (0 + 2) (.int .i64 ((a : Int) + 1))) true)) := m.x.set m.X _
    generalize h.set X _ = h1 at *
    refine w_nilc (w_offP (w_rdP g1 (v := v1) rfl (w_nilc (w_offP (w_rdP g1 (v := .int .i64 ((a : Int) + 1)) rfl (w_sub (by omega) (by omega) ?_))))))
    have ea : ((a : Int) + 1 - 1) = (a : Nat) := by omega
    rw [ea]
    obtain ⟨z, hz⟩ := getElem?_of_lt (l := ns) (i := a) (by omega)
    refine w_idxN (enc := eI) eI_len (m.n1.ex x1) hz fun pp hpp => w_rd1 hpp rfl ?_
    refine within15 _ _ _ _ hn.1 (by omega) ?_
    have e1 : nx ns a n = z % n := by unfold nx; rw [hz]
    have e2 : nxA ns a = a + 1 := by unfold nxA; rw [if_pos (by omega)]
    have := k h1 c1 l1 (by rw [e2]; exact ⟨g1, m.n0, m.n1, x1, m.X⟩)
    rw [e1] at this
    exact this
abbrev MGw (b : Nat) (h : AH) (F : Nat → Prop) (m : Mdl) (v : Value) : Prop := MH h (fun j => Gd b h F j ∧ Wr h j) m v
theorem MGw.chg {b : Nat} {h h' : AH} {F F' : Nat → Prop} {m : Mdl} {v : Value} (x : MGw b h F m v) (c : Chg F h F' h') : MGw b h' F' m v := MH.mono (fun j g => ⟨(Gd.chg c j g.1).1, (Gd.chg c j g.1).2, g.2.keep (Gd.chg c j g.1).1⟩) m v x
theorem MGw.ex {b : Nat} {h h' : AH} {F : Nat → Prop} {m : Mdl} {v : Value} (x : MGw b h F m v) (c : Ex h h') : MGw b h' F m v := x.chg (Chg.ex c)
theorem MGw.low {b b' : Nat} {h : AH} {F : Nat → Prop} {m : Mdl} {v : Value} (x : MGw b' h F m v) (hb : b ≤ b') : MGw b h F m v := MH.mono (fun j g => ⟨rfl, ⟨Nat.le_trans hb g.1.1, g.1.2⟩, g.2⟩) m v x
theorem MGw.setNew {b : Nat} {h : AH} {F : Nat → Prop} {m : Mdl} {v : Value} {i : Nat} (x : MGw b h F m v) (hi : ¬ Gd b h F i) (o : AObj) : MGw b (h.set i o) F m v :=
  MH.mono (fun j g => ⟨get_ne (fun e => hi (by rw [e]; exact g.1)) _, ⟨g.1.1, by rw [List.length_set]; exact g.1.2.1, g.1.2.2.1, g.2.keep (get_ne (fun e => hi (by rw [e]; exact g.1)) _)⟩, g.2.keep (get_ne (fun e => hi (by rw [e]; exact g.1)) _)⟩) m v x
theorem MH.rowN {h : AH} {G : Nat → Prop} {k : Int} {l : List Mdl} {cs : List Value} {i cap : Nat} (hml : ML h G l cs) (gi : h[i]? = some (.row cs true)) (Gi : G i) (hc : cap < openCap ∧ l.length ≤ cap ∨ cap = openCap + 3) : MH h G (.mk k [] l) (.agg #[.int .i64 k, .string (bs []), .slice (some ⟨i, 0, none⟩) l.length cap]) := by
  have hl := ML.len l cs hml
  unfold MH
  refine ⟨some ⟨i, 0, none⟩, cap, cs, rfl, ⟨hl, .inr ⟨i, 0, cap, rfl, hc, .inr ⟨cs, true, gi, by omega, by rw [List.drop_zero, ← hl, List.take_length]⟩⟩⟩, fun j hj => by have : i = j := hj; rw [← this]; exact Gi, hml⟩
theorem bld32 (k1 k2 : Int) (n1 n2 : W) (a1 a2 : Option Addr) (l1 l2 c1 c2 : Nat) : bldSl 3 [(.int .i64 0), (.string (bs [])), (.slice none 0 0)] 2 [(0, .agg #[.int .i64 k1, .string (bs n1), .slice a1 l1 c1]), (1, .agg #[.int .i64 k2, .string (bs n2), .slice a2 l2 c2])] = some [.int .i64 k1, .string (bs n1), .slice a1 l1 c1, .int .i64 k2, .string (bs n2), .slice a2 l2 c2] := by kernel_rfl
set_option maxHeartbeats 1000000 in
theorem mk31 {hb : AH} {X : Nat} {nm : List W} {ns : List Int} {v0 v1 : Value} (hnm : 0 < nm.length ∧ nm.length ≤ 100) : ∀ (d : Nat) (h : AH) (a : Nat) (K : Value → AH → Prop), MkH hb h X nm ns v0 v1 a → a + 4 ^ (d + 1) ≤ 1000000 → d ≤ 100 →
    (∀ v h', Chg (At X) h (At X) h' → MkH hb h' X nm ns v0 v1 (gen nm ns d a).2 → MGw h.length h' (At X) (gen nm ns d a).1 v → K v h') → callW Try.prog 31 [.pointer (some ⟨X, 0, none⟩), .int .i64 (d : Nat)] h K := by
  intro d
  induction d using Nat.strongRecOn with
  | ind d ih =>
  intro h a K m ha hd k
  refine c31 ?_
  unfold s31
  have p4 : 4 ≤ 4 ^ (d + 1) := by
    have := Nat.pow_le_pow_right (n := 4) (by decide) (show 1 ≤ d + 1 by omega)
    simpa using this
  refine n_rowv fun h1 x1 l1 g1 => ?_
  have ltX := m.lt
  have a0 := nxA_le ns a
  have k14 := nx_in ns a (show (0 : Int) < 14 by decide)
  refine nx30 (m.ex x1) (by omega) (by decide) fun h2 c2 l2 m2 => ?_
  obtain ⟨kk, hkk⟩ : ∃ kk : Int, kk = if d = 0 then nx ns a 14 % 6 else nx ns a 14 := ⟨_, rfl⟩
  have kk0 : 0 ≤ kk ∧ kk < 14 := by
    rw [hkk]
    split <;> omega
  have glow : kk < 6 → gen nm ns d a = leaf nm ns kk (nxA ns a) := by
    intro q
    cases d with
    | zero => rw [hkk, if_pos rfl]; rfl
    | succ d =>
      rw [if_neg (by omega)] at hkk
      rw [hkk] at q ⊢
      rw [gen, if_neg (by omega), if_neg (by omega)]
  have fin : ∀ (E : Env) (h' : AH) (v : Value) (m' : Mdl) (a' : Nat), E 4 = .pointer (some ⟨h.length, 0, none⟩) → Chg (At X) h1 (At X) h' → MkH hb h' X nm ns v0 v1 a' → MGw h1.length h' (At X) m' v → gen nm ns d a = (m', a') →
      optW (pStore 3 (.pointer (some ⟨h.length, 0, none⟩)) v h') fun h'' => optW (resList Try.prog E h'' Try.f31.results.toList) fun vs => K (resOf vs) h'' := fun E h' v m' a' hE c mk mv hg => by
    have g' : h'[h.length]? = some (.row [(.int .i64 0), (.string (bs [])), (.slice none 0 0)] true) := (c.get _ (by omega) (fun e => by have : h.length = X := e; omega)).trans g1
    refine endM (n := 4) (by kernel_rfl) hE g' rfl mv.shape fun o => ?_
    refine k v _ (((Chg.ex x1).trans c).setNew (Nat.le_refl _) o) ?_ ?_
    · rw [hg]; exact mk.setNew ltX o
    · rw [hg]; exact (mv.setNew (fun hg => by have := hg.1; omega) o).low (by omega)
  have fin2 : ∀ (E : Env) (kd : Int) (w : W) (a' : Nat) (h' : AH), E 4 = .pointer (some ⟨h.length, 0, none⟩) → Chg (At X) h1 (At X) h' → MkH hb h' X nm ns v0 v1 a' → gen nm ns d a = (.mk kd w [], a') →
      optW (pStore 3 (.pointer (some ⟨h.length, 0, none⟩)) (.agg #[.int .i64 kd, .string (bs w), .slice none 0 0]) h') fun h'' => optW (resList Try.prog E h'' Try.f31.results.toList) fun vs => K (resOf vs) h'' := fun E kd w a' h' hE c mk hg => fin E h' _ _ a' hE c mk (MH.leaf _ _ kd w) hg
  refine joinE_intro (fun e h' => e 0 = .pointer (some ⟨X, 0, none⟩) ∧ e 1 = .int .i64 (d : Nat) ∧ e 4 = .pointer (some ⟨h.length, 0, none⟩) ∧ e 5 = .int .i64 kk ∧ h2 = h') ?_ ?_
  case refine_2 =>
    intro J hJ
    refine w_leq (c_dec (fun q => ?_) (fun q => ?_))
    · refine w_rem (by decide) k14.1 (hJ _ _ ⟨rfl, rfl, rfl, ?_, rfl⟩)
      rw [hkk, if_pos (by omega)]
      rfl
    · refine hJ _ _ ⟨rfl, rfl, rfl, ?_, rfl⟩
      rw [hkk, if_neg (by omega)]
      rfl
  rintro e h' ⟨e0, e1, e4, e5, rfl⟩
  refine joinE_intro (fun e h' => e 0 = .pointer (some ⟨X, 0, none⟩) ∧ e 4 = .pointer (some ⟨h.length, 0, none⟩) ∧ h2 = h' ∧ gen nm ns d a = (.mk 4 (nm.getD (nx ns (nxA ns a) nm.length).toNat []) [], nxA ns (nxA ns a))) ?_ ?_
  case refine_1 =>
    rintro e h' ⟨e0, e4, rfl, hg⟩
    rw [e0, e4]
    have n0 := m2.n0.ex m2.x
    refine w_nilc (w_offP (w_rdP m2.row (v := v0) rfl (w_nilc (w_offP (w_rdP m2.row (v := v0) rfl (w_len n0 ?_))))))
    refine nx30 m2 (by omega) (by omega) fun h5 c5 l5 m5 => ?_
    refine ⟨idcell m2.row m5.row rfl rfl, ?_⟩
    have ni := nx_in ns (nxA ns a) (show (0 : Int) < (nm.length : Nat) by omega)
    obtain ⟨w, hw⟩ := getElem?_of_lt (l := nm) (i := (nx ns (nxA ns a) nm.length).toNat) (by omega)
    have hwd : nm.getD (nx ns (nxA ns a) nm.length).toNat [] = w := by rw [List.getD_eq_getElem?_getD, hw]; rfl
    rw [hwd] at hg
    refine w_idxT (enc := eS) eS_len (m2.n0.ex m5.x) ni.1 hw fun pp hpp => w_rd1 hpp rfl ?_
    refine w_some (v := .agg #[.int .i64 4, .string (bs w), .slice none 0 0]) rfl ?_
    exact fin2 _ 4 w _ h5 e4 (c2.trans c5) m5 hg
  intro J1 hJ1
  rw [e5]
  refine w_eql (c_dec (fun q0 => ?_) (fun q0 => ?_))
  · refine w_some (v := .agg #[.int .i64 1, .string (bs []), .slice none 0 0]) rfl ?_
    rw [e4]
    refine fin2 _ 1 [] _ h2 e4 c2 m2 ?_
    rw [glow (by omega), q0]
    rfl
  refine w_eql (c_dec (fun q1 => ?_) (fun q1 => ?_))
  · refine w_some (v := .agg #[.int .i64 2, .string (bs []), .slice none 0 0]) rfl ?_
    rw [e4]
    refine fin2 _ 2 [] _ h2 e4 c2 m2 ?_
    rw [glow (by omega), q1]
    rfl
  refine w_eql (c_dec (fun q2 => ?_) (fun q2 => ?_))
  · refine w_some (v := .agg #[.int .i64 3, .string (bs []), .slice none 0 0]) rfl ?_
    rw [e4]
    refine fin2 _ 3 [] _ h2 e4 c2 m2 ?_
    rw [glow (by omega), q2]
    rfl
  refine joinE_intro (fun e h' => e 0 = .pointer (some ⟨X, 0, none⟩) ∧ e 1 = .int .i64 (d : Nat) ∧ e 4 = .pointer (some ⟨h.length, 0, none⟩) ∧ e 5 = .int .i64 kk ∧ e 13 = .int .i64 kk ∧ e 23 = .bool (decide (6 ≤ kk ∧ kk ≤ 10)) ∧ h2 = h') ?_ ?_
  case refine_2 =>
    intro J hJ
    refine w_eql (c_dec (fun q6 => hJ _ _ ⟨e0, e1, e4, e5, rfl, congrArg Value.bool (decide_eq_decide.2 ⟨fun _ => by omega, fun _ => by omega⟩), rfl⟩) (fun q6 => ?_))
    refine w_eql (c_dec (fun q7 => hJ _ _ ⟨e0, e1, e4, e5, rfl, congrArg Value.bool (decide_eq_decide.2 ⟨fun _ => by omega, fun _ => by omega⟩), rfl⟩) (fun q7 => ?_))
    refine w_eql (c_dec (fun q8 => hJ _ _ ⟨e0, e1, e4, e5, rfl, congrArg Value.bool (decide_eq_decide.2 ⟨fun _ => by omega, fun _ => by omega⟩), rfl⟩) (fun q8 => ?_))
    refine w_eql (c_dec (fun q9 => hJ _ _ ⟨e0, e1, e4, e5, rfl, congrArg Value.bool (decide_eq_decide.2 ⟨fun _ => by omega, fun _ => by omega⟩), rfl⟩) (fun q9 => ?_))
    exact w_eql (hJ _ _ ⟨e0, e1, e4, e5, rfl, congrArg Value.bool (decide_eq_decide.2 ⟨fun _ => by omega, fun _ => by omega⟩), rfl⟩)
  clear e0 e1 e4 e5 e
  rintro e h' ⟨e0, e1, e4, e5, e13, e23, rfl⟩
  rw [e23]
  have dd : 6 ≤ kk → ∃ d', d = d' + 1 := by
    intro q
    cases d with
    | zero => rw [hkk, if_pos rfl] at q; omega
    | succ d => exact ⟨d, rfl⟩
  refine c_dec (fun q => ?_) (fun q => ?_)
  · obtain ⟨d, rfl⟩ := dd q.1
    rw [if_neg (by omega)] at hkk
    have pw : 4 ^ (d + 1 + 1) = 4 * 4 ^ (d + 1) := by rw [Nat.pow_succ]; omega
    have p5 : 4 ≤ 4 ^ (d + 1) := by
      have := Nat.pow_le_pow_right (n := 4) (by decide) (show 1 ≤ d + 1 by omega)
      simpa using this
    have ed : ((d + 1 : Nat) : Int) - 1 = (d : Nat) := by omega
    have s1 := gen_le nm ns d (nxA ns a)
    have s2 := gen_le nm ns d (gen nm ns d (nxA ns a)).2
    have s3 := nxA_le ns (gen nm ns d (gen nm ns d (nxA ns a)).2).2
    rw [e0, e1, e4, e5]
    refine w_sub (by omega) (by omega) ?_
    rw [ed]
    refine ih d (by omega) _ _ _ m2 (by omega) (by omega) fun v32 h11 c11 m11 g11 => ?_
    refine w_sub (by omega) (by omega) ?_
    rw [ed]
    refine ih d (by omega) _ _ _ m11 (by omega) (by omega) fun v36 h12 c12 m12 g12 => ?_
    have hgen : gen nm ns (d + 1) a = if nx ns (gen nm ns d (gen nm ns d (nxA ns a)).2).2 3 = 0 then
        (.mk (5 + kk % 2) [] [(gen nm ns d (nxA ns a)).1, (gen nm ns d (gen nm ns d (nxA ns a)).2).1, (gen nm ns d (nxA ns (gen nm ns d (gen nm ns d (nxA ns a)).2).2)).1],
          (gen nm ns d (nxA ns (gen nm ns d (gen nm ns d (nxA ns a)).2).2)).2)
      else (.mk (5 + kk % 2) [] [(gen nm ns d (nxA ns a)).1, (gen nm ns d (gen nm ns d (nxA ns a)).2).1], nxA ns (gen nm ns d (gen nm ns d (nxA ns a)).2).2) := by
      rw [hkk] at q ⊢
      rw [gen, if_pos q]
    generalize gen nm ns d (nxA ns a) = A1 at *
    generalize gen nm ns d A1.2 = A2 at *
    obtain ⟨k1, n1, a1, l1', c1, rfl⟩ := g11.shape
    obtain ⟨k2, n2, a2, l2', c2', rfl⟩ := g12.shape
    refine w_some (bld32 k1 k2 n1 n2 a1 a2 l1' l2' c1 c2') ?_
    refine n_newv fun h13 x13 l13 g13 => ?_
    refine nx30 (m12.ex x13) (by omega) (by decide) fun h14 c14 l14 m14 => ?_
    have cA := ((c2.trans c11).trans c12).trans ((Chg.ex x13).trans c14)
    have lA := c2.len
    have lB := c11.len
    have lC := c12.len
    have G1 : MGw h1.length h14 (At X) A1.1 _ := (((g11.chg c12).ex x13).chg c14).low (by omega)
    have G2 : MGw h1.length h14 (At X) A2.1 _ := ((g12.ex x13).chg c14).low (by omega)
    have g14 := (c14.get h12.length (by omega) (fun e => by have : h12.length = X := e; omega)).trans g13
    refine w_eql (c_dec (fun q3 => ?_) (fun q3 => ?_))
    · rw [if_pos q3] at hgen
      have s4 := gen_le nm ns d (nxA ns A2.2)
      refine w_sub (by omega) (by omega) ?_
      rw [ed]
      refine ih d (by omega) _ _ _ m14 (by omega) (by omega) fun v45 h15 c15 m15 g15 => ?_
      generalize gen nm ns d (nxA ns A2.2) = A3 at *
      obtain ⟨k3, n3, a3, l3', c3', rfl⟩ := g15.shape
      refine w_some (bldSl_one (v := .agg #[.int .i64 k3, .string (bs n3), .slice a3 l3' c3']) rfl (by decide) rfl rfl) ?_
      refine n_newv fun h16 x16 l16 g16 => ?_
      have lD := c15.len
      have g15' := x16.some ((c15.get h12.length (by omega) (fun e => by have : h12.length = X := e; omega)).trans g14)
      refine app_lit (n := 2) g15' rfl (by decide) (by decide) g16 rfl ?_
      refine w_rem (by decide) kk0.1 (w_add (by omega) (by omega) ?_)
      refine w_some (v := .agg #[.int .i64 (5 + kk % 2), .string (bs []), .slice (some ⟨h16.length, 0, none⟩) (2 + 1) (openCap + 3)]) rfl ?_
      refine fin _ _ _ _ _ e4 (cA.trans (c15.trans ((Chg.ex x16).trans (Chg.ex (.app _ _))))) ((m15.ex x16).ex (.app _ _)) ?_ hgen
      refine MH.rowN (l := [A1.1, A2.1, A3.1]) ?_ (get_new _ _) ⟨⟨by omega, by simp, fun e => by have : h16.length = X := e; omega, _, (get_new _ _)⟩, _, (get_new _ _)⟩ (.inr rfl)
      have G1' := ((G1.chg c15).ex x16).ex (.app _ [AObj.row ([.int .i64 k1, .string (bs n1), .slice a1 l1' c1, .int .i64 k2, .string (bs n2), .slice a2 l2' c2'] ++ [.int .i64 k3, .string (bs n3), .slice a3 l3' c3']) true])
      have G2' := ((G2.chg c15).ex x16).ex (.app _ [AObj.row ([.int .i64 k1, .string (bs n1), .slice a1 l1' c1, .int .i64 k2, .string (bs n2), .slice a2 l2' c2'] ++ [.int .i64 k3, .string (bs n3), .slice a3 l3' c3']) true])
      have G3' := ((g15.low (b := h1.length) (by omega)).ex x16).ex (.app _ [AObj.row ([.int .i64 k1, .string (bs n1), .slice a1 l1' c1, .int .i64 k2, .string (bs n2), .slice a2 l2' c2'] ++ [.int .i64 k3, .string (bs n3), .slice a3 l3' c3']) true])
      unfold ML
      refine ⟨_, _, _, _, rfl, G1', ?_⟩
      unfold ML
      refine ⟨_, _, _, _, rfl, G2', ?_⟩
      unfold ML
      refine ⟨_, _, _, _, rfl, G3', ?_⟩
      unfold ML
      rfl
    · rw [if_neg q3] at hgen
      refine w_rem (by decide) kk0.1 (w_add (by omega) (by omega) ?_)
      refine w_some (v := .agg #[.int .i64 (5 + kk % 2), .string (bs []), .slice (some ⟨h12.length, 0, none⟩) 2 2]) rfl ?_
      refine fin _ _ _ _ _ e4 cA m14 ?_ hgen
      refine MH.rowN (l := [A1.1, A2.1]) ?_ g14 ⟨⟨by omega, by omega, fun e => by have : h12.length = X := e; omega, _, g14⟩, _, g14⟩ (.inl ⟨by decide, Nat.le_refl _⟩)
      unfold ML
      refine ⟨_, _, _, _, rfl, G1, ?_⟩
      unfold ML
      refine ⟨_, _, _, _, rfl, G2, ?_⟩
      unfold ML
      rfl
  · have rp : ∀ (E : Value → Value → Value → Value → Nat → Value → Env), (∀ a b c d e f, E a b c d e f 4 = .pointer (some ⟨h.length, 0, none⟩)) → 11 ≤ kk →
        callW Try.prog 30 [.pointer (some ⟨X, 0, none⟩), (.int .i64 3)] h2 fun v58 h_20 =>
        optW (pBin Try.prog .add 3 (.int .i64 7) v58) fun v59 =>
        optW (pBin Try.prog .sub 3 (.int .i64 (d : Nat)) (.int .i64 1)) fun v62 =>
        callW Try.prog 31 [.pointer (some ⟨X, 0, none⟩), v62] h_20 fun v63 h_21 =>
        optW (bldSl 3 [(.int .i64 0), (.string (bs [])), (.slice none 0 0)] 1 [(0, v63)]) fun c_2 =>
        newW none (.row c_2 true) h_21 fun i_2 h_22 =>
        optW (bld [(.int .i64 0), (.string (bs [])), (.slice none 0 0)] [(0, 1), (1, 1), (2, 1)] [(0, v59), (2, (.slice (some ⟨i_2, 0, none⟩) 1 1))]) fun v65 =>
        optW (pStore 3 (.pointer (some ⟨h.length, 0, none⟩)) v65 h_22) fun h_23 =>
        optW (resList Try.prog (E v58 v59 v62 v63 i_2 v65) h_23 Try.f31.results.toList) fun vs => K (resOf vs) h_23 := by
      intro E hE q
      obtain ⟨d, rfl⟩ := dd (by omega)
      rw [if_neg (by omega)] at hkk
      have pw : 4 ^ (d + 1 + 1) = 4 * 4 ^ (d + 1) := by rw [Nat.pow_succ]; omega
      have p5 : 4 ≤ 4 ^ (d + 1) := by
        have := Nat.pow_le_pow_right (n := 4) (by decide) (show 1 ≤ d + 1 by omega)
        simpa using this
      have ed : ((d + 1 : Nat) : Int) - 1 = (d : Nat) := by omega
      have n3 := nx_in ns (nxA ns a) (show (0 : Int) < 3 by decide)
      have a1 := nxA_le ns (nxA ns a)
      refine nx30 m2 (by omega) (by decide) fun h20 c20 l20 m20 => ?_
      refine w_add (by omega) (by omega) (w_sub (by omega) (by omega) ?_)
      rw [ed]
      refine ih d (by omega) _ _ _ m20 (by omega) (by omega) fun v63 h21 c21 m21 g21 => ?_
      have hgen : gen nm ns (d + 1) a = (.mk (7 + nx ns (nxA ns a) 3) [] [(gen nm ns d (nxA ns (nxA ns a))).1], (gen nm ns d (nxA ns (nxA ns a))).2) := by
        rw [hkk] at q
        rw [gen, if_neg (by omega), if_pos q]
      generalize gen nm ns d (nxA ns (nxA ns a)) = A1 at *
      obtain ⟨k1, n1, a1', l1', c1, rfl⟩ := g21.shape
      refine w_some (bldSl_one (v := .agg #[.int .i64 k1, .string (bs n1), .slice a1' l1' c1]) rfl (by decide) rfl rfl) ?_
      refine n_newv fun h22 x22 l22 g22 => ?_
      refine w_some (v := .agg #[.int .i64 (7 + nx ns (nxA ns a) 3), .string (bs []), .slice (some ⟨h21.length, 0, none⟩) 1 1]) rfl ?_
      have lA := c2.len
      have lB := c20.len
      have lC := c21.len
      refine fin _ _ _ _ _ (hE _ _ _ _ _ _) (c2.trans (c20.trans (c21.trans (Chg.ex x22)))) (m21.ex x22) ?_ hgen
      exact MH.one ((g21.ex x22).low (by omega)) g22 ⟨⟨by omega, by omega, fun e => by have : h21.length = X := e; omega, _, g22⟩, _, g22⟩
    rw [e0, e1, e4, e13]
    refine w_eql (c_dec (fun r1 => c_tt r1 (rp _ (fun _ _ _ _ _ _ => e4) (by omega))) (fun r1 => ?_))
    refine w_eql (c_dec (fun r2 => c_tt r2 (rp _ (fun _ _ _ _ _ _ => e4) (by omega))) (fun r2 => ?_))
    refine w_eql (c_dec (fun r3 => rp _ (fun _ _ _ _ _ _ => e4) (by omega)) (fun r3 => ?_))
    refine hJ1 _ _ ⟨e0, e4, rfl, ?_⟩
    rw [glow (by omega)]
    unfold leaf
    rw [if_neg q0, if_neg q1, if_neg q2]
end Go.Proofs.Ytlenlhlipmkeeaa.W
end

section
/- Schema's laws: Make: a schema of numbers. Conditions: none. -/
namespace Go.Proofs.Ytlenlhlipmkeeaa.W
open Go Go.AM SchM
set_option linter.unusedVariables false
set_option maxRecDepth 100000
def SH (h : AH) (b : Nat) (x : W × List (W × Mdl)) (v : Value) : Prop :=
  ∃ a c cs, v = .agg #[.string (bs x.1), .slice a x.2.length c] ∧ Sl 4 h (.slice a x.2.length c) x.2.length cs ∧ (∀ j, onId (.slice a x.2.length c) j → (b ≤ j ∧ j < h.length) ∧ Wr h j) ∧ EL h (fun j => (b ≤ j ∧ j < h.length) ∧ Wr h j) x.2 cs
theorem SH.ex {h h' : AH} {b : Nat} {x : W × List (W × Mdl)} {v : Value} (s : SH h b x v) (e : Ex h h') : SH h' b x v := by
  obtain ⟨a, c, cs, ev, sl, on, el⟩ := s
  exact ⟨a, c, cs, ev, sl.ex e, fun j hj => ⟨⟨(on j hj).1.1, e.lt (on j hj).1.2⟩, (on j hj).2.keep (e.get j (on j hj).1.2)⟩, EL.mono (fun j hj => ⟨e.get j hj.1.2, ⟨hj.1.1, e.lt hj.1.2⟩, hj.2.keep (e.get j hj.1.2)⟩) _ _ el⟩
theorem bld5 : bldSl 1 [(.string (bs []))] 5 [(0, (.string (bs [97]))), (1, (.string (bs [98, 98]))), (2, (.string (bs [99]))), (3, (.string (bs [122, 122, 122, 122, 122, 122, 122, 122]))), (4, (.string (bs [116, 101, 120, 116, 115])))] = some (flat eS five) := by kernel_rfl
theorem optW_so {α : Type} {v : α} {K : α → Prop} : optW (some v) K = K v := rfl
theorem strsAt {h : AH} {l : List W} {n i : Nat} (hg : h[i]? = some (.row (flat eS l) true)) (hn : n = l.length) (hl : l.length < 100) : SlT 1 eS h (.slice (some ⟨i, 0, none⟩) n n) l := by
  subst hn
  refine ⟨flat_length eS_len l, .inr ⟨i, 0, _, rfl, .inl ⟨?_, Nat.le_refl _⟩, .inr ⟨_, true, hg, ?_, ?_⟩⟩⟩
  · have : (100 : Nat) < openCap := by decide
    omega
  · rw [flat_length eS_len]; omega
  · rw [List.drop_zero, ← flat_length eS_len l, List.take_length]
theorem res14 (e : Env) (h : AH) : resList Try.prog e h Try.f14.results.toList = (rdRow true 2 (e 6) h).map fun v => [v] := by
  have h1 : Try.f14.results.toList = [.cell 6 27] := by kernel_rfl
  have h2 : ∀ x, pLoad Try.prog 27 x h = rdRow true 2 x h := fun x => by kernel_rfl
  rw [h1]
  show (match pLoad Try.prog 27 (e 6) h with
    | some v => match resList Try.prog e h [] with
      | some vs => some (v :: vs)
      | none => none
    | none => none) = _
  rw [h2]
  cases rdRow true 2 (e 6) h <;> rfl
structure LEw (b : Nat) (h : AH) (F : Nat → Prop) (v : Value) (l : List (W × Mdl)) : Prop where
  ex : ∃ cs, OwnG 4 (Gd b h F) h v l.length cs ∧ EL h (fun j => (Gd b h F j ∧ Wr h j) ∧ ¬ onId v j) l cs
theorem LEw.chg {b : Nat} {h h' : AH} {F F' : Nat → Prop} {v : Value} {l : List (W × Mdl)} (x : LEw b h F v l) (c : Chg F h F' h') : LEw b h' F' v l := by
  obtain ⟨cs, g, r⟩ := x.ex
  exact ⟨cs, g.mono (fun j _ hj => (Gd.chg c j hj).2) fun j _ hj => (Gd.chg c j hj).1, EL.mono (fun j hj => ⟨(Gd.chg c j hj.1.1).1, ⟨(Gd.chg c j hj.1.1).2, hj.1.2.keep (Gd.chg c j hj.1.1).1⟩, hj.2⟩) l cs r⟩
theorem LEw.on {b : Nat} {h : AH} {F : Nat → Prop} {v : Value} {l : List (W × Mdl)} (x : LEw b h F v l) {j : Nat} (hj : onId v j) : Gd b h F j := by
  obtain ⟨cs, g, r⟩ := x.ex
  exact (g.on hj).1
set_option maxHeartbeats 1000000 in
theorem make14 {h : AH} {v1 : Value} {ns : List Int} {size : Int} {d : Nat} {K : Value → AH → Prop} (hns : Ints h v1 ns) (hd : d ≤ 6) (k : ∀ v h', Ex h h' → SH h' h.length (make size ns d) v → K v h') : callW Try.prog 14 [.int .i64 size, v1, .int .i64 (d : Nat)] h K := by
  refine c14 ?_
  unfold s14
  have z0 := Int.emod_nonneg size (show (5 : Int) ≠ 0 by decide)
  have z1 := Int.emod_lt_of_pos size (show (0 : Int) < 5 by decide)
  have nl := namesOf_len size
  refine n_rowv fun h1 x1 l1 g1 => ?_
  rw [bld5, optW_so]
  refine n_newv fun h2 x2 l2 g2 => ?_
  refine within15 _ _ _ _ (by decide) (by decide) ?_
  refine w_add (by omega) (by omega) ?_
  have ej : (1 : Int) + size % 5 = ((1 + (size % 5).toNat : Nat) : Int) := by omega
  rw [ej]
  refine w_sliceT (enc := eS) eS_len (i := 0) (j := 1 + (size % 5).toNat) (strsAt g2 rfl (by decide)) (by omega) (by show _ ≤ 5; omega) (.inl ⟨rfl, rfl⟩) (.inr ⟨_, rfl⟩) fun v14 s14 on14 => ?_
  have enm : (five.drop 0).take (1 + (size % 5).toNat - 0) = namesOf size := by rw [List.drop_zero, Nat.sub_zero]; rfl
  rw [enm] at s14
  have hns2 := hns.ex (x1.trans x2)
  obtain ⟨a14, n14, c14, rfl⟩ := s14.isSl
  obtain ⟨a1, n1, c1, rfl⟩ := hns2.isSl
  refine w_some (v := .agg #[.slice a14 n14 c14, .slice a1 n1 c1, .int .i64 0]) rfl ?_
  refine n_boxv rfl fun h4 x4 l4 g4 => ?_
  have g4' : h4[h2.length]? = some (.row [.slice a14 n14 c14, .slice a1 n1 c1, .int .i64 ((0 : Nat) : Int)] true) := g4
  obtain ⟨nm, hnm⟩ : ∃ nm, nm = namesOf size := ⟨_, rfl⟩
  rw [← hnm] at s14 nl
  have hnl : 0 < nm.length ∧ nm.length ≤ 100 := by omega
  have m4 : MkH h2 h4 h2.length nm ns (.slice a14 n14 c14) (.slice a1 n1 c1) 0 := ⟨g4', s14, hns2, x4, Nat.le_refl _⟩
  have xr := Ex.res h4
  have mr := m4.ex xr
  have ni := nx_in ns 0 (show (0 : Int) < (nm.length : Nat) by omega)
  refine w_nilc (w_offP (w_rdP mr.row (v := .slice a14 n14 c14) rfl (w_nilc (w_offP (w_rdP mr.row (v := .slice a14 n14 c14) rfl (w_len (s14.ex mr.x) ?_))))))
  refine nx30 mr (by omega) (by omega) fun h5 c5 l5 m5 => ?_
  refine ⟨idcell mr.row m5.row rfl rfl, ?_⟩
  obtain ⟨root, hro⟩ := getElem?_of_lt (l := nm) (i := (nx ns 0 nm.length).toNat) (by omega)
  refine w_idxT (enc := eS) eS_len (s14.ex m5.x) ni.1 hro fun pp hpp => w_rd1 hpp rfl ?_
  refine w_some (v := .agg #[.string (bs root), .slice none 0 0]) rfl ?_
  refine n_slot ?_
  have lr : (reserve 1 h4).length = h4.length + 1 := by rw [reserve_one]; simp
  have l5' : h5.length = h4.length + 1 := by rw [l5, lr]
  have m6 := m5.setNew (i := h4.length) (by omega) (.row [(.string (bs [])), (.slice none 0 0)] true)
  have g6 : (h5.set h4.length (.row [(.string (bs [])), (.slice none 0 0)] true))[h4.length]? = some (.row [(.string (bs [])), (.slice none 0 0)] true) := get_set _ (by omega) _
  have T6 : (h5.set h4.length (.row [(.string (bs [])), (.slice none 0 0)] true))[h.length]? = some (.row zS true) := by
    rw [get_ne (by omega)]
    exact (c5.get _ (by omega) (fun e => by have : h.length = h2.length := e; omega)).trans ((x2.trans (x4.trans xr)).some g1)
  have x6 : Ex h (h5.set h4.length (.row [(.string (bs [])), (.slice none 0 0)] true)) := (c5.toEx (x1.trans (x2.trans (x4.trans xr))) fun j hj => by have : j = h2.length := hj; omega).set (by omega) _
  have l6 : (h5.set h4.length (.row [(.string (bs [])), (.slice none 0 0)] true)).length = h4.length + 1 := by rw [List.length_set, l5']
  generalize h5.set h4.length (.row [(.string (bs [])), (.slice none 0 0)] true) = h6 at *
  refine w_stPA g6 rfl (Nat.le_refl 2) rfl ?_
  have g7 : (h6.set h4.length (.row (spliceL [(.string (bs [])), (.slice none 0 0)] 0 (cellsL (.agg #[.string (bs root), .slice none 0 0]))) true))[h4.length]? = some (.row [.string (bs root), .slice none 0 0] true) := get_set _ (lt_of_get g6) _
  have m7 := m6.setNew (i := h4.length) (by omega) (.row (spliceL [(.string (bs [])), (.slice none 0 0)] 0 (cellsL (.agg #[.string (bs root), .slice none 0 0]))) true)
  have T7 := (get_ne (h := h6) (i := h4.length) (j := h.length) (by omega) (.row (spliceL [(.string (bs [])), (.slice none 0 0)] 0 (cellsL (.agg #[.string (bs root), .slice none 0 0]))) true)).trans T6
  have x7 := x6.set (i := h4.length) (by omega) (.row (spliceL [(.string (bs [])), (.slice none 0 0)] 0 (cellsL (.agg #[.string (bs root), .slice none 0 0]))) true)
  have l7 : (h6.set h4.length (.row (spliceL [(.string (bs [])), (.slice none 0 0)] 0 (cellsL (.agg #[.string (bs root), .slice none 0 0]))) true)).length = h4.length + 1 := by rw [List.length_set, l6]
  generalize h6.set h4.length (.row (spliceL [(.string (bs [])), (.slice none 0 0)] 0 (cellsL (.agg #[.string (bs root), .slice none 0 0]))) true) = h7 at *
  clear g6 m6 T6 x6 l6 h6
  have hmake : make size ns d = (root, (genS nm ns d (nxA ns 0) nm.length).1) := by
    unfold make
    rw [← hnm, List.getD_eq_getElem?_getD, hro]
    rfl
  generalize ha0 : nxA ns 0 = a0 at *
  have ha0' : a0 ≤ 1 := by rw [← ha0]; exact (nxA_le ns 0).2
  have pw : 4 ^ (d + 1) ≤ 16384 := Nat.le_trans (Nat.pow_le_pow_right (by decide) (show d + 1 ≤ 7 by omega)) (by decide)
  have hLE : LEw h7.length h7 (At h2.length) (.slice none 0 0) (genS nm ns d a0 0).1 := ⟨⟨[], OwnG.nil _ _ _, rfl⟩⟩
  have m7' : MkH h2 h7 h2.length nm ns (.slice a14 n14 c14) (.slice a1 n1 c1) (genS nm ns d a0 0).2 := m7
  refine loopE_intro (fun m e h' => ∃ (i : Nat) (vl : Value), i ≤ nm.length ∧ m = nm.length - i ∧ e 2 = .int .i64 (d : Nat) ∧ e 6 = .pointer (some ⟨h.length, 0, none⟩) ∧ e 7 = .pointer (some ⟨h2.length, 0, none⟩) ∧ e 8 = .pointer (some ⟨h4.length, 0, none⟩) ∧ e 9 = .int .i64 (i : Nat) ∧
      MkH h2 h' h2.length nm ns (.slice a14 n14 c14) (.slice a1 n1 c1) (genS nm ns d a0 i).2 ∧ h'[h.length]? = some (.row zS true) ∧ h'[h4.length]? = some (.row [.string (bs root), vl] true) ∧ LEw h7.length h' (At h2.length) vl (genS nm ns d a0 i).1 ∧ Ex h h' ∧ h7.length ≤ h'.length) nm.length
    ⟨0, _, Nat.zero_le _, rfl, rfl, rfl, rfl, rfl, rfl, m7', T7, g7, hLE, x7, Nat.le_refl _⟩ ?_
  rintro I m e0 h' ⟨i, vl, hi, hm, e2, e6, e7, e8, e9, mk, T, g, L, x, hl⟩ ih
  rw [e2, e6, e7, e8, e9]
  refine w_nilc (w_offP (w_rdP mk.row (v := .slice a14 n14 c14) rfl (w_len (s14.ex mk.x) (w_lss ?_))))
  refine c_dec (fun q => ?_) (fun q => ?_)
  · obtain ⟨w, hw⟩ := getElem?_of_lt (l := nm) (i := i) (by omega)
    have xr := Ex.res h'
    have mr := mk.ex xr
    refine w_offP (w_rdP (xr.some g) (v := vl) rfl (w_nilc (w_offP (w_rdP mr.row (v := .slice a14 n14 c14) rfl ?_))))
    refine w_idxN (enc := eS) eS_len s14 hw fun pp hpp => w_rd1 (hpp.ex mr.x) rfl ?_
    have hle := genS_le nm ns d a0 i
    have hmul : i * 4 ^ (d + 1) ≤ 10 * 16384 := Nat.mul_le_mul (by omega) pw
    refine mk31 hnl d _ _ _ mr (by omega) (by omega) fun v52 h9 c9 m9 g9 => ?_
    have lS := lt_of_get g
    refine ⟨PtrTo.ids hpp mr.x m9.x, idcell mr.row m9.row rfl rfl, ptr_id (c9.get _ (xr.lt lS) (fun e => by have : h4.length = h2.length := e; omega)), ?_⟩
    obtain ⟨k', n', a', ll, cc, rfl⟩ := g9.shape
    refine w_some (v := .agg #[.string (bs w), .int .i64 k', .string (bs n'), .slice a' ll cc]) rfl ?_
    refine w_some (bldSl_one (v := .agg #[.string (bs w), .int .i64 k', .string (bs n'), .slice a' ll cc]) rfl (by decide) rfl rfl) ?_
    refine n_slot ?_
    have lr : (reserve 1 h').length = h'.length + 1 := by rw [reserve_one]; simp
    have l9 := c9.len
    have ltX := mk.lt
    have c10 := ((Chg.ex (F := At h2.length) xr).trans c9).setNew (i := h'.length) (Nat.le_refl _) (.row [.string (bs w), .int .i64 k', .string (bs n'), .slice a' ll cc] true)
    have m10 := m9.setNew (i := h'.length) (by omega) (.row [.string (bs w), .int .i64 k', .string (bs n'), .slice a' ll cc] true)
    have G10 := g9.setNew (i := h'.length) (fun hg => by have := hg.1; omega) (.row [.string (bs w), .int .i64 k', .string (bs n'), .slice a' ll cc] true)
    have g10 : (h9.set h'.length (.row [.string (bs w), .int .i64 k', .string (bs n'), .slice a' ll cc] true))[h'.length]? = some (.row [.string (bs w), .int .i64 k', .string (bs n'), .slice a' ll cc] true) := get_set _ (by omega) _
    have l10 : (h9.set h'.length (.row [.string (bs w), .int .i64 k', .string (bs n'), .slice a' ll cc] true)).length = h9.length := List.length_set ..
    show appSl 4 vl _ (h9.set h'.length (.row [.string (bs w), .int .i64 k', .string (bs n'), .slice a' ll cc] true)) _
    generalize h9.set h'.length (.row [.string (bs w), .int .i64 k', .string (bs n'), .slice a' ll cc] true) = h10 at *
    obtain ⟨cs, o10, el10⟩ := (L.chg c10).ex
    have lvl : ∀ j, onId vl j → h7.length ≤ j ∧ j < h'.length := fun j hj => ⟨(L.on hj).1, (L.on hj).2.1⟩
    have len1 := genS_len nm ns d a0 i
    refine appSl_of ?_
    refine app_g (by decide) o10 (srcL_new (n := 1) (s := 4) g10 (by decide) rfl) rfl (by have := bigR3; omega) fun v' h15 a1 a2 a3 a4 => ?_
    have nS : ¬ onId vl h4.length := fun hon => by have := lvl _ hon; omega
    have gS10 : h10[h4.length]? = some (.row [.string (bs root), vl] true) := (c10.get _ lS (fun e => by have : h4.length = h2.length := e; omega)).trans g
    have gS := (a3 _ (lt_of_get gS10) nS).trans gS10
    obtain ⟨sa, sn, sc, rfl⟩ := Sl.isSl a1.sl
    refine w_offP (w_stP gS (by show 0 + 1 < 2; decide) rfl rfl ?_)
    have l16 : (h15.set h4.length (.row ([Value.string (bs root), vl].set (0 + 1) (.slice sa sn sc)) true)).length = h15.length := List.length_set ..
    have n16 : ∀ j, j ≠ h4.length → (h15.set h4.length (.row ([Value.string (bs root), vl].set (0 + 1) (.slice sa sn sc)) true))[j]? = h15[j]? := fun j hj => get_ne (Ne.symm hj) _
    have g16 : (h15.set h4.length (.row ([Value.string (bs root), vl].set (0 + 1) (.slice sa sn sc)) true))[h4.length]? = some (.row [.string (bs root), .slice sa sn sc] true) := get_set _ (lt_of_get gS) _
    generalize h15.set h4.length (.row ([Value.string (bs root), vl].set (0 + 1) (.slice sa sn sc)) true) = h16 at *
    have same : ∀ j, j < h10.length → ¬ onId vl j → j ≠ h4.length → h16[j]? = h10[j]? := fun j hj hn hS => (n16 j hS).trans (a3 j hj hn)
    refine w_add (by omega) (by omega) ?_
    have c10l := c10.len
    have hwd : nm.getD i [] = w := by rw [List.getD_eq_getElem?_getD, hw]; rfl
    have eG : genS nm ns d a0 (i + 1) = ((genS nm ns d a0 i).1 ++ [(w, (gen nm ns d (genS nm ns d a0 i).2).1)], (gen nm ns d (genS nm ns d a0 i).2).2) := by
      show ((genS nm ns d a0 i).1 ++ [(nm.getD i [], _)], _) = _
      rw [hwd]
    have up : ∀ j, (Gd h7.length h10 (At h2.length) j ∧ Wr h10 j) ∧ ¬ onId vl j → h16[j]? = h10[j]? ∧ (Gd h7.length h16 (At h2.length) j ∧ Wr h16 j) ∧ ¬ onId (.slice sa sn sc) j := fun j hj => ⟨same j hj.1.1.2.1 hj.2 (fun e => by have := hj.1.1.1; omega), ⟨⟨hj.1.1.1, by have := hj.1.1.2.1; omega, hj.1.1.2.2.1, hj.1.2.keep (same j hj.1.1.2.1 hj.2 (fun e => by have := hj.1.1.1; omega))⟩, hj.1.2.keep (same j hj.1.1.2.1 hj.2 (fun e => by have := hj.1.1.1; omega))⟩, fun hon => (a4 j hon).elim hj.2 fun e => by have := hj.1.1.2.1; omega⟩
    refine ih (nm.length - (i + 1)) _ _ (by omega) ⟨i + 1, .slice sa sn sc, by omega, rfl, e2, e6, e7, e8, rfl, ?_, ?_, g16, ?_, ?_, by omega⟩
    · rw [eG]
      refine ⟨(same _ (by omega) (fun hon => by have := lvl _ hon; omega) (by omega)).trans m10.row, m10.n0, m10.n1, ⟨by have := m10.x.len; omega, fun j hj => ?_⟩, Nat.le_refl _⟩
      exact (same j (by omega) (fun hon => by have := lvl _ hon; omega) (by omega)).trans (m10.x.get j hj)
    · exact (same _ (by omega) (fun hon => by have := lvl _ hon; omega) (by omega)).trans ((c10.get _ (lt_of_get T) (fun e => by have : h.length = h2.length := e; omega)).trans T)
    · rw [eG]
      refine ⟨⟨cs ++ [.string (bs w), .int .i64 k', .string (bs n'), .slice a' ll cc], ?_, ?_⟩⟩
      · have elm : ((genS nm ns d a0 i).1 ++ [(w, (gen nm ns d (genS nm ns d a0 i).2).1)]).length = (genS nm ns d a0 i).1.length + 1 := by simp
        show OwnG 4 _ h16 (.slice sa sn sc) ((genS nm ns d a0 i).1 ++ [(w, (gen nm ns d (genS nm ns d a0 i).2).1)]).length _
        rw [elm]
        refine a1.mono (fun j hj hF => ?_) fun j hj hF => ?_
        · have hj' := (a1.on hj).2
          rcases hF with hF | rfl
          · exact ⟨hF.1, by omega, hF.2.2.1, (ownG_wr a1 hj).keep (n16 j fun e => by have := hF.1; omega)⟩
          · exact ⟨by omega, by omega, fun e => by have : h10.length = h2.length := e; omega, (ownG_wr a1 hj).keep (n16 _ fun e => by omega)⟩
        · refine n16 j fun e => ?_
          rcases hF with hF | rfl
          · have := hF.1; omega
          · omega
      · refine EL.snoc (e := (w, _)) (MH.mono (fun j gj => up j ⟨⟨⟨?_, gj.1.2⟩, gj.2⟩, fun hon => ?_⟩) _ _ G10) _ cs (EL.mono up _ cs el10)
        · have := gj.1.1; omega
        · have := lvl j hon; have := gj.1.1; omega
    · refine ⟨by have := x.len; omega, fun j hj => ?_⟩
      have hx := x.len
      exact ((same j (by omega) (fun hon => by have := lvl _ hon; omega) (by omega)).trans (c10.get j (by omega) (fun e => by have : j = h2.length := e; omega))).trans (x.get j hj)
  · have ei : i = nm.length := by omega
    subst ei
    obtain ⟨cs, o, el⟩ := L.ex
    obtain ⟨sa', sc', rfl⟩ := Sl.shape o.sl
    refine w_rdPA g (Nat.le_refl 2) ?_
    refine w_stPA T rfl (Nat.le_refl 2) rfl ?_
    have gT : (h'.set h.length (.row (spliceL zS 0 (cellsL (.agg #[.string (bs root), .slice sa' (genS nm ns d a0 nm.length).1.length sc']))) true))[h.length]? = some (.row [.string (bs root), .slice sa' (genS nm ns d a0 nm.length).1.length sc'] true) := get_set _ (lt_of_get T) _
    rw [res14]
    refine w_some (v := [Value.agg #[.string (bs root), .slice sa' (genS nm ns d a0 nm.length).1.length sc']]) ?_ (show K (.agg #[.string (bs root), .slice sa' (genS nm ns d a0 nm.length).1.length sc']) _ from ?_)
    · have e := hopt (o := rdRow true 2 (.pointer (some ⟨h.length, 0, none⟩)) _) (w_rdPA gT (Nat.le_refl 2) rfl)
      show (rdRow true 2 (e0 6) _).map _ = _
      rw [e6]
      exact congrArg (Option.map fun v => [v]) e
    · refine k _ _ (x.set (Nat.le_refl _) _) ?_
      rw [hmake]
      have hon : ∀ j, onId (.slice sa' (genS nm ns d a0 nm.length).1.length sc') j → h7.length ≤ j ∧ j < h'.length := fun j hj => ⟨(L.on hj).1, (L.on hj).2.1⟩
      have kp : ∀ (o : AObj) (j : Nat), h7.length ≤ j → (h'.set h.length o)[j]? = h'[j]? := fun o j hj => get_ne (by omega) _
      refine ⟨sa', sc', cs, rfl, Sl.keepOn o.sl fun j hj => kp _ j (hon j hj).1, fun j hj => ⟨?_, (ownG_wr o hj).keep (kp _ j (hon j hj).1)⟩, EL.mono (fun j hj => ⟨kp _ j hj.1.1.1, ⟨by have := hj.1.1.1; omega, by rw [List.length_set]; exact hj.1.1.2.1⟩, hj.1.2.keep (kp _ j hj.1.1.1)⟩) _ _ el⟩
      have := hon j hj
      rw [List.length_set]
      omega
end Go.Proofs.Ytlenlhlipmkeeaa.W
end

section
/- Schema's laws: rows of truths, joined, copied. Conditions: none. -/
namespace Go.Proofs.Ytlenlhlipmkeeaa.W
open Go Go.AM SchM
set_option linter.unusedVariables false
set_option maxRecDepth 100000
structure BR (h : AH) (i n : Nat) (v : Value) (P : Nat → Prop) : Prop where
  ex : ∃ cap bl, v = .slice (some ⟨i, 0, none⟩) (n + 1) cap ∧ (cap < openCap ∧ n + 1 ≤ cap ∨ cap = openCap + 1) ∧ h[i]? = some (.row (flat eBo bl) true) ∧ bl.length = n + 1 ∧ ∀ j, bl[j]? = some true ↔ P j
section
variable {h h' : AH} {i n : Nat} {v : Value} {P Q : Nat → Prop}
theorem BR.keep (b : BR h i n v P) (e : h'[i]? = h[i]?) : BR h' i n v P := by
  obtain ⟨cap, bl, h1, h2, h3, h4⟩ := b.ex
  exact ⟨cap, bl, h1, h2, e.trans h3, h4⟩
theorem BR.congr (b : BR h i n v P) (e : ∀ j, P j ↔ Q j) : BR h i n v Q := by
  obtain ⟨cap, bl, h1, h2, h3, h4, h5⟩ := b.ex
  exact ⟨cap, bl, h1, h2, h3, h4, fun j => (h5 j).trans (e j)⟩
theorem BR.lt (b : BR h i n v P) : i < h.length := by
  obtain ⟨cap, bl, h1, h2, h3, h4, h5⟩ := b.ex
  exact lt_of_get h3
theorem BR.le (b : BR h i n v P) {j : Nat} (hj : P j) : j ≤ n := by
  obtain ⟨cap, bl, h1, h2, h3, h4, h5⟩ := b.ex
  have := get_lt ((h5 j).2 hj)
  omega
theorem BR.len (b : BR h i n v P) {K : Value → Prop} (k : K (.int .i64 ((n + 1 : Nat) : Int))) : optW (lenSl v) K := by
  obtain ⟨cap, bl, rfl, h2⟩ := b.ex
  exact k
theorem ix1 {i n cap j : Nat} {K : Value → Prop} (hj : j < n) (k : K (.pointer (some ⟨i, j, none⟩))) : optW (pIdxS 1 (.slice (some ⟨i, 0, none⟩) n cap) (.int .i64 (j : Nat))) K := by
  refine w_some (v := .pointer (some ⟨i, j, none⟩)) ?_ k
  show (if 0 ≤ ((j : Nat) : Int) ∧ ((j : Nat) : Int) < (n : Int) then some (Value.pointer (some ⟨i, 0 + ((j : Nat) : Int).toNat * 1, none⟩)) else none) = _
  rw [if_pos (by omega)]
  simp
theorem flat_eBo_get : ∀ (bl : List Bool) (j : Nat), (flat eBo bl)[j]? = (bl[j]?).map Value.bool
  | [], j => by simp [flat]
  | b :: bl, 0 => rfl
  | b :: bl, j + 1 => by
    show (flat eBo bl)[j]? = _
    rw [flat_eBo_get bl j]
    rfl
theorem flat_eBo_set : ∀ (bl : List Bool) (j : Nat) (c : Bool), (flat eBo bl).set j (.bool c) = flat eBo (bl.set j c)
  | [], j, c => by simp [flat]
  | b :: bl, 0, c => rfl
  | b :: bl, j + 1, c => congrArg (Value.bool b :: ·) (flat_eBo_set bl j c)
theorem BR.rd (b : BR h i n v P) {j : Nat} (hj : j ≤ n) {K : Value → Value → Prop} (k : ∀ c : Bool, (c = true ↔ P j) → K (.pointer (some ⟨i, j, none⟩)) (.bool c)) : optW (pIdxS 1 v (.int .i64 (j : Nat))) fun p => optW (rdRow false 1 p h) fun x => K p x := by
  obtain ⟨cap, bl, rfl, h2, h3, h4, h5⟩ := b.ex
  refine ix1 (by omega) ?_
  obtain ⟨c, hc⟩ := getElem?_of_lt (l := bl) (i := j) (by omega)
  refine w_rdP h3 (v := .bool c) (by rw [flat_eBo_get, hc]; rfl) (k c ?_)
  rw [← h5 j, hc]
  simp
theorem BR.st (b : BR h i n v P) {j : Nat} (hj : j ≤ n) {c : Bool} {K : Value → AH → Prop} (k : ∀ h', Exx i h h' → h'.length = h.length → BR h' i n v (fun x => (x = j ∧ c = true) ∨ (x ≠ j ∧ P x)) → K (.pointer (some ⟨i, j, none⟩)) h') : optW (pIdxS 1 v (.int .i64 (j : Nat))) fun p => optW (pStore 1 p (.bool c) h) fun h' => K p h' := by
  obtain ⟨cap, bl, rfl, h2, h3, h4, h5⟩ := b.ex
  refine ix1 (by omega) ?_
  refine w_stP h3 (by rw [flat_length eBo_len]; omega) rfl rfl ?_
  refine k _ ⟨by simp, fun x hx hxi => get_ne (Ne.symm hxi) _⟩ (by simp) ⟨cap, bl.set j c, rfl, h2, by rw [get_set _ (lt_of_get h3), flat_eBo_set], by simpa using h4, fun x => ?_⟩
  by_cases e : j = x
  · subst e
    rw [List.getElem?_set_self (by omega)]
    simp
  · rw [List.getElem?_set_ne e, h5 x]
    have : x ≠ j := fun h => e h.symm
    simp [this]
end
theorem repL_no (k : Nat) : repL [.bool false] k = flat eBo (List.replicate k false) := by
  induction k with
  | zero => rfl
  | succ k ih =>
    show [.bool false] ++ repL [.bool false] k = _
    rw [ih]
    rfl
theorem bigRoom : (100000000001 : Nat) < room40 := by decide
theorem bigOpen : (100000000001 : Nat) < openCap := by decide
abbrev rdr (root L ws : Value) (M : Nat) : AObj := .row [root, L, ws, .map (some M)] true
theorem row66 {h : AH} {r n M : Nat} {root L : Value} {a : Option Addr} {c : Nat} {K : Value → AH → Prop} (g : h[r]? = some (rdr root L (.slice a n c) M)) (hn : n ≤ 100000000000)
    (k : ∀ v h', Ex h h' → h'.length = h.length + 1 → BR h' h.length n v (fun _ => False) → K v h') : callW Try.prog 66 [.pointer (some ⟨r, 0, none⟩)] h K := by
  refine c66 ?_
  unfold s66
  refine w_nilc (w_offP (w_rdP g (v := .slice a n c) rfl (w_lenSl (w_add (by omega) (by omega) ?_))))
  have := bigRoom
  have := bigOpen
  refine w_some (v := (n + 1, n + 1, repL [.bool false] (n + 1))) ?_ ?_
  · unfold mkSl
    dsimp only
    rw [if_pos ⟨by omega, by omega, by omega, by decide, rfl⟩]
    have : ((n : Int) + 1).toNat = n + 1 := by omega
    rw [this]
  · refine n_newv fun h1 x1 l1 g1 => ?_
    refine k _ h1 x1 l1 ⟨n + 1, List.replicate (n + 1) false, rfl, .inl ⟨by omega, Nat.le_refl _⟩, by rw [g1, repL_no], by simp, fun j => ?_⟩
    simp [List.getElem?_replicate]
set_option maxHeartbeats 1000000 in
theorem join83 {h : AH} {i i' n : Nat} {v v' : Value} {P Q : Nat → Prop} {K : Value → AH → Prop} (b : BR h i n v P) (b' : BR h i' n v' Q) (hi : i ≠ i') (hn : n ≤ 100000000000)
    (k : ∀ h', Exx i h h' → h'.length = h.length → BR h' i n v (fun j => P j ∨ Q j) → K (.tuple #[]) h') : callW Try.prog 83 [v, v'] h K := by
  refine c83 ?_
  unfold s83
  refine b'.len ?_
  refine loopE_intro (fun m e h1 => ∃ j : Nat, j ≤ n + 1 ∧ m = n + 1 - j ∧ e 0 = v ∧ e 6 = v' ∧ e 7 = .int .i64 ((n + 1 : Nat) : Int) ∧ e 8 = .int .i64 (j : Nat) ∧ Exx i h h1 ∧ h1.length = h.length ∧ BR h1 i n v (fun x => P x ∨ (x < j ∧ Q x))) (n + 1)
    ⟨0, Nat.zero_le _, rfl, rfl, rfl, rfl, rfl, .refl _ _, rfl, b.congr fun x => by simp⟩ ?_
  rintro I m e h1 ⟨j, hj, hm, e0, e6, e7, e8, x1, l1, b1⟩ ih
  rw [e0, e6, e7, e8]
  refine w_lss (c_dec (fun q => ?_) (fun q => ?_))
  · have b2 : BR h1 i' n v' Q := b'.keep (x1.get _ b'.lt (Ne.symm hi))
    refine b2.rd (by omega) fun c hc => ?_
    refine b1.rd (by omega) fun d hd => ?_
    cases d with
    | true =>
      refine gc_ft (pk_t ?_)
      refine b1.st (by omega) fun h2 x2 l2 b3 => w_add (by omega) (by omega) (ih (n + 1 - (j + 1)) _ _ (by omega) ⟨j + 1, by omega, rfl, e0, e6, e7, rfl, x1.trans x2, l2.trans l1, b3.congr fun x => ?_⟩)
      have hd : P j ∨ j < j ∧ Q j := hd.1 rfl
      have hd : P j := hd.elim id fun h => by omega
      by_cases e : x = j
      · subst e; simp [hd]
      · simp [e]
        constructor
        · rintro (h | ⟨h1, h2⟩)
          · exact .inl h
          · exact .inr ⟨by omega, h2⟩
        · rintro (h | ⟨h1, h2⟩)
          · exact .inl h
          · exact .inr ⟨by omega, h2⟩
    | false =>
      refine gc_ff (pk_f ?_)
      refine b1.st (by omega) fun h2 x2 l2 b3 => w_add (by omega) (by omega) (ih (n + 1 - (j + 1)) _ _ (by omega) ⟨j + 1, by omega, rfl, e0, e6, e7, rfl, x1.trans x2, l2.trans l1, b3.congr fun x => ?_⟩)
      have hd : ¬ (P j ∨ j < j ∧ Q j) := fun h => by cases hd.2 h
      have hd : ¬ P j := fun h => hd (.inl h)
      by_cases e : x = j
      · subst e; simp [hd, hc]
      · simp [e]
        constructor
        · rintro (h | ⟨h1, h2⟩)
          · exact .inl h
          · exact .inr ⟨by omega, h2⟩
        · rintro (h | ⟨h1, h2⟩)
          · exact .inl h
          · exact .inr ⟨by omega, h2⟩
  · exact k h1 x1 l1 (b1.congr fun x => ⟨fun h => h.imp id fun h => h.2, fun h => h.imp id fun h => ⟨by have := b'.le h; omega, h⟩⟩)
theorem clone84 {h : AH} {i n : Nat} {v : Value} {P : Nat → Prop} {K : Value → AH → Prop} (b : BR h i n v P) (hn : n ≤ 100000000000)
    (k : ∀ v' j h', Ex h h' → h.length ≤ j → j < h'.length → BR h' j n v' P → K v' h') : callW Try.prog 84 [v] h K := by
  obtain ⟨cap, bl, rfl, h2, h3, h4, h5⟩ := b.ex
  refine c84 ?_
  unfold s84
  have ht : Try.prog.underlying 52 = some (.slice 4) := by kernel_rfl
  refine w_slnil ht (c_f ?_)
  have hb : bldSl 1 [(.bool false)] 0 [] = some [] := by kernel_rfl
  refine w_some hb ?_
  refine n_new ?_
  have hx : Ex h (h ++ [AObj.row [] true]) := .app _ _
  have hsrc : srcL 1 (.slice (some ⟨i, 0, none⟩) (n + 1) cap) (h ++ [AObj.row [] true]) = some (n + 1, flat eBo bl) := by
    refine srcL_sl (by decide) ⟨by rw [flat_length eBo_len]; omega, .inr ⟨i, 0, cap, rfl, h2, .inr ⟨_, true, hx.some h3, by rw [flat_length eBo_len]; omega, ?_⟩⟩⟩
    rw [List.drop_zero, List.take_of_length_le (by rw [flat_length eBo_len]; omega)]
  have := bigRoom
  have hap : pAppS 1 (.slice (some ⟨h.length, 0, none⟩) 0 0) (.slice (some ⟨i, 0, none⟩) (n + 1) cap) (h ++ [AObj.row [] true]) = some (.slice (some ⟨(h ++ [AObj.row [] true]).length, 0, none⟩) (0 + (n + 1)) (openCap + 1), (h ++ [AObj.row [] true]) ++ [AObj.row ([] ++ flat eBo bl) true]) := by
    unfold pAppS
    simp only [hsrc]
    rw [if_pos (by omega), if_pos (by decide)]
    simp only [pAppEx]
    rw [if_neg (by omega), Nat.zero_mul]
    simp [firstL]
  refine appSl_of (.inl ?_)
  rw [hap]
  refine k _ (h ++ [AObj.row [] true]).length _ (hx.trans (.app _ _)) hx.len (by simp) ⟨openCap + 1, bl, by rw [Nat.zero_add], .inr rfl, ?_, h4, h5⟩
  rw [List.nil_append]
  exact get_new _ _
end Go.Proofs.Ytlenlhlipmkeeaa.W
end

section
/- Schema's laws: the document's tables of truths: one table or another, one behind another. Conditions: none. -/
namespace Go.Proofs.Ytlenlhlipmkeeaa.W
open Go Go.AM SchM
set_option linter.unusedVariables false
set_option maxRecDepth 100000
theorem read_dep {b : Array Nat} {j : Nat} {hb ha : AH} {S : ST} {K : Prop} (hd : (S.map (·.1)).all (fun i => !(free b i j && Nat.blt i j)) = true) (k : K) : readC b j hb ha S K := by
  refine readC_iff.2 ⟨fun y hy hf => ?_, k⟩
  have := List.all_eq_true.1 hd y.1 (List.mem_map_of_mem hy)
  rw [hf] at this
  exact absurd this Bool.false_ne_true
structure MT (h : AH) (lo n : Nat) (v : Value) (P : Nat → Nat → Prop) : Prop where
  ex : ∃ i vals, v = .slice (some ⟨i, 0, none⟩) (n + 1) (n + 1) ∧ lo ≤ i ∧ h[i]? = some (.row vals true) ∧ vals.length = n + 1 ∧ ∀ j, j ≤ n → ∃ ij vj, vals[j]? = some vj ∧ lo ≤ ij ∧ BR h ij n vj (P j)
structure CU (h : AH) (lo iT m n : Nat) (P : Nat → Nat → Prop) (c : Nat) (v : Value) (Q : Nat → Prop) : Prop where
  T : ∃ vals, h[iT]? = some (.row vals true) ∧ vals.length = n + 1 ∧ vals[m]? = some v ∧ ∀ j, j < m → ∃ ij vj, vals[j]? = some vj ∧ (lo ≤ ij ∧ ij < c ∧ ij ≠ iT) ∧ BR h ij n vj (P j)
  lo : lo ≤ iT ∧ iT < c
  b : BR h c n v Q
structure UT (h : AH) (lo iT m n : Nat) (P : Nat → Nat → Prop) : Prop where
  T : ∃ vals, h[iT]? = some (.row vals true) ∧ vals.length = n + 1 ∧ ∀ j, j < m → ∃ ij vj, vals[j]? = some vj ∧ (lo ≤ ij ∧ ij < h.length ∧ ij ≠ iT) ∧ BR h ij n vj (P j)
  lo : lo ≤ iT
section
variable {h h' : AH} {lo n iT m c : Nat} {v : Value} {P : Nat → Nat → Prop} {Q Q' : Nat → Prop}
theorem MT.ex' (t : MT h lo n v P) (x : Ex h h') : MT h' lo n v P := by
  obtain ⟨i, vals, e, hi, g, hl, r⟩ := t.ex
  refine ⟨i, vals, e, hi, x.some g, hl, fun j hj => ?_⟩
  obtain ⟨ij, vj, h1, h2, h3⟩ := r j hj
  exact ⟨ij, vj, h1, h2, h3.keep (x.get ij h3.lt)⟩
theorem MT.congr {P' : Nat → Nat → Prop} (t : MT h lo n v P) (e : ∀ i j, i ≤ n → (P i j ↔ P' i j)) : MT h lo n v P' := by
  obtain ⟨i, vals, e1, hi, g, hl, r⟩ := t.ex
  refine ⟨i, vals, e1, hi, g, hl, fun j hj => ?_⟩
  obtain ⟨ij, vj, h1, h2, h3⟩ := r j hj
  exact ⟨ij, vj, h1, h2, h3.congr fun x => e j x hj⟩
theorem MT.low {lo' : Nat} (t : MT h lo n v P) (hl : lo' ≤ lo) : MT h lo' n v P := by
  obtain ⟨i, vals, e1, hi, g, hl2, r⟩ := t.ex
  refine ⟨i, vals, e1, Nat.le_trans hl hi, g, hl2, fun j hj => ?_⟩
  obtain ⟨ij, vj, h1, h2, h3⟩ := r j hj
  exact ⟨ij, vj, h1, Nat.le_trans hl h2, h3⟩
theorem MT.len (t : MT h lo n v P) {K : Value → Prop} (k : K (.int .i64 ((n + 1 : Nat) : Int))) : optW (lenSl v) K := by
  obtain ⟨i, vals, rfl, r⟩ := t.ex
  exact k
theorem MT.le {i j : Nat} (t : MT h lo n v P) (hi : i ≤ n) (hp : P i j) : j ≤ n := by
  obtain ⟨i', vals, e1, _, g, hl2, r⟩ := t.ex
  obtain ⟨ij, vj, h1, h2, h3⟩ := r i hi
  exact h3.le hp
theorem MT.rd (t : MT h lo n v P) {j : Nat} (hj : j ≤ n) {K : Value → Value → Prop} (k : ∀ p rv ij, BR h ij n rv (P j) → K p rv) : optW (pIdxS 1 v (.int .i64 (j : Nat))) fun p => optW (rdRow false 1 p h) fun x => K p x := by
  obtain ⟨i, vals, rfl, hi, g, hl, r⟩ := t.ex
  obtain ⟨ij, vj, h1, h2, h3⟩ := r j hj
  exact ix1 (by omega) (w_rdP g h1 (k _ _ ij h3))
theorem CU.rdT (t : CU h lo iT m n P c v Q) (hm : m ≤ n) {K : Value → Value → Prop} (k : K (.pointer (some ⟨iT, m, none⟩)) v) : optW (pIdxS 1 (.slice (some ⟨iT, 0, none⟩) (n + 1) (n + 1)) (.int .i64 (m : Nat))) fun p => optW (rdRow false 1 p h) fun x => K p x := by
  obtain ⟨vals, g, hl, hv, r⟩ := t.T
  exact ix1 (by omega) (w_rdP g hv k)
theorem CU.keep (t : CU h lo iT m n P c v Q) (x : Exx c h h') (b : BR h' c n v Q') : CU h' lo iT m n P c v Q' := by
  obtain ⟨vals, g, hl, hv, r⟩ := t.T
  have hlo := t.lo
  refine ⟨⟨vals, x.some g (by omega), hl, hv, fun j hj => ?_⟩, t.lo, b⟩
  obtain ⟨ij, vj, h1, h2, h3⟩ := r j hj
  exact ⟨ij, vj, h1, h2, h3.keep (x.get ij h3.lt (by omega))⟩
theorem CU.ext (t : CU h lo iT m n P c v Q) (x : Ex h h') : CU h' lo iT m n P c v Q := by
  obtain ⟨vals, g, hl, hv, r⟩ := t.T
  refine ⟨⟨vals, x.some g, hl, hv, fun j hj => ?_⟩, t.lo, t.b.keep (x.get c t.b.lt)⟩
  obtain ⟨ij, vj, h1, h2, h3⟩ := r j hj
  exact ⟨ij, vj, h1, h2, h3.keep (x.get ij h3.lt)⟩
theorem CU.congr (t : CU h lo iT m n P c v Q) (e : ∀ j, Q j ↔ Q' j) : CU h lo iT m n P c v Q' := ⟨t.T, t.lo, t.b.congr e⟩
theorem CU.done (t : CU h lo iT m n P c v Q) (e : ∀ j, Q j ↔ P m j) : UT h lo iT (m + 1) n P := by
  obtain ⟨vals, g, hl, hv, r⟩ := t.T
  have hlo := t.lo
  have hc := t.b.lt
  refine ⟨⟨vals, g, hl, fun j hj => ?_⟩, t.lo.1⟩
  by_cases ej : j = m
  · subst ej
    exact ⟨c, v, hv, by omega, t.b.congr e⟩
  · obtain ⟨ij, vj, h1, h2, h3⟩ := r j (by omega)
    exact ⟨ij, vj, h1, by omega, h3⟩
theorem UT.mt (t : UT h lo iT (n + 1) n P) : MT h lo n (.slice (some ⟨iT, 0, none⟩) (n + 1) (n + 1)) P := by
  obtain ⟨vals, g, hl, r⟩ := t.T
  refine ⟨iT, vals, rfl, t.lo, g, hl, fun j hj => ?_⟩
  obtain ⟨ij, vj, h1, h2, h3⟩ := r j (by omega)
  exact ⟨ij, vj, h1, h2.1, h3⟩
theorem mkNil {n : Nat} (hn : n ≤ 100000000000) {K : Nat × Nat × List Value → Prop} (k : ∀ vals : List Value, vals.length = n + 1 → K (n + 1, n + 1, vals)) : optW (mkSl 1 24 [(.slice none 0 0)] (.int .i64 ((n + 1 : Nat) : Int)) (.int .i64 ((n + 1 : Nat) : Int))) K := by
  have := bigRoom
  refine w_some (v := (n + 1, n + 1, repL [.slice none 0 0] (n + 1))) ?_ (k _ ?_)
  · unfold mkSl
    dsimp only
    rw [if_pos ⟨by omega, by omega, by omega, by decide, rfl⟩]
    have : (((n + 1 : Nat) : Int)).toNat = n + 1 := by omega
    rw [this]
  · have : ∀ k, (repL [Value.slice none 0 0] k).length = k := by
      intro k
      induction k with
      | zero => rfl
      | succ k ih => show ([Value.slice none 0 0] ++ repL _ k).length = _; rw [List.length_append, ih]; simp; omega
    exact this _
theorem mkBo {n : Nat} (hn : n ≤ 100000000000) {K : Nat × Nat × List Value → Prop} (k : K (n + 1, n + 1, flat eBo (List.replicate (n + 1) false))) : optW (mkSl 1 1 [(.bool false)] (.int .i64 ((n + 1 : Nat) : Int)) (.int .i64 ((n + 1 : Nat) : Int))) K := by
  have := bigRoom
  refine w_some (v := (n + 1, n + 1, repL [.bool false] (n + 1))) ?_ (by rw [repL_no]; exact k)
  unfold mkSl
  dsimp only
  rw [if_pos ⟨by omega, by omega, by omega, by decide, rfl⟩]
  have : (((n + 1 : Nat) : Int)).toNat = n + 1 := by omega
  rw [this]
theorem UT.row (t : UT h lo iT m n P) (hm : m ≤ n) (hn : n ≤ 100000000000) {K : Nat × Nat × List Value → Nat → Value → AH → Prop}
    (k : ∀ h', Exx iT h h' → h'.length = h.length + 1 → CU h' lo iT m n P h.length (.slice (some ⟨h.length, 0, none⟩) (n + 1) (n + 1)) (fun _ => False) → K (n + 1, n + 1, flat eBo (List.replicate (n + 1) false)) h.length (.pointer (some ⟨iT, m, none⟩)) h') :
    optW (mkSl 1 1 [(.bool false)] (.int .i64 ((n + 1 : Nat) : Int)) (.int .i64 ((n + 1 : Nat) : Int))) fun c => newW none (.row c.2.2 true) h fun i h2 => optW (pIdxS 1 (.slice (some ⟨iT, 0, none⟩) (n + 1) (n + 1)) (.int .i64 (m : Nat))) fun p => optW (pStore 1 p (.slice (some ⟨i, 0, none⟩) c.1 c.2.1) h2) fun h3 => K c i p h3 := by
  refine mkBo hn ?_
  refine n_newv fun h2 x2 l2 g2 => ?_
  obtain ⟨vals, g, hl, r⟩ := t.T
  have lt := lt_of_get g
  have tlo := t.lo
  have := bigOpen
  refine ix1 (by omega) (w_stP (x2.some g) (by omega) rfl rfl ?_)
  have x3 : Exx iT h (h2.set iT (.row (vals.set m (.slice (some ⟨h.length, 0, none⟩) (n + 1) (n + 1))) true)) := ⟨by rw [List.length_set]; exact x2.len, fun j hj hji => (get_ne (Ne.symm hji) _).trans (x2.get j hj)⟩
  refine k _ x3 (by rw [List.length_set]; exact l2) ⟨⟨_, get_set _ (by omega) _, by simpa using hl, by rw [List.getElem?_set_self (by omega)], fun j hj => ?_⟩, ⟨tlo, lt⟩, ⟨n + 1, List.replicate (n + 1) false, rfl, .inl ⟨by omega, Nat.le_refl _⟩, by rw [get_ne (by omega)]; exact g2, by simp, fun j => by simp [List.getElem?_replicate]⟩⟩
  obtain ⟨ij, vj, h1, h2', h3⟩ := r j hj
  exact ⟨ij, vj, by rw [List.getElem?_set_ne (by omega)]; exact h1, by omega, h3.keep (x3.get ij h3.lt h2'.2.2)⟩
theorem MT.exx {k : Nat} (t : MT h lo n v P) (x : Exx k h h') (hk : ∀ j, lo ≤ j → j < h.length → j ≠ k) : MT h' lo n v P := by
  obtain ⟨i, vals, e, hi, g, hl, r⟩ := t.ex
  refine ⟨i, vals, e, hi, x.some g (hk i hi (lt_of_get g)), hl, fun j hj => ?_⟩
  obtain ⟨ij, vj, h1, h2, h3⟩ := r j hj
  exact ⟨ij, vj, h1, h2, h3.keep (x.get ij h3.lt (hk ij h2 h3.lt))⟩
theorem UT.start {h : AH} {n : Nat} {vals : List Value} {P : Nat → Nat → Prop} {iT : Nat} (g : h[iT]? = some (.row vals true)) (hl : vals.length = n + 1) : UT h iT iT 0 n P := ⟨⟨vals, g, hl, fun j hj => by omega⟩, Nat.le_refl _⟩
end
set_option maxHeartbeats 2000000 in
theorem either86 {h : AH} {la lb n : Nat} {va vb : Value} {A B : Nat → Nat → Prop} {K : Value → AH → Prop} (ta : MT h la n va A) (tb : MT h lb n vb B) (hn : n ≤ 100000000000)
    (k : ∀ v h', Ex h h' → MT h' h.length n v (fun i j => A i j ∨ B i j) → K v h') : callW Try.prog 86 [va, vb] h K := by
  refine c86 ?_
  unfold s86
  refine ta.len (mkNil (by omega) fun vals hvl => ?_)
  refine n_newv fun h1 x1 l1 g1 => ?_
  refine loopE_intro (fun mm e h2 => ∃ m : Nat, m ≤ n + 1 ∧ mm = n + 1 - m ∧ e 0 = va ∧ e 1 = vb ∧ e 5 = .slice (some ⟨h.length, 0, none⟩) (n + 1) (n + 1) ∧ e 6 = .int .i64 (m : Nat) ∧ Ex h h2 ∧ UT h2 h.length h.length m n (fun i j => A i j ∨ B i j)) (n + 1)
    ⟨0, Nat.zero_le _, rfl, rfl, rfl, rfl, rfl, x1, UT.start g1 hvl⟩ ?_
  rintro I mm e h2 ⟨m, hm, hmm, e0, e1, e5, e6, x2, t⟩ ih
  rw [e0, e5, e6]
  refine (ta.ex' x2).len (w_lss (c_dec (fun q => ?_) (fun q => ?_)))
  · refine (ta.ex' x2).len ?_
    refine t.row (by omega) (by omega) fun h3 x3 l3 cu => ?_
    have X3 : Ex h h3 := Exx.base x2 x3 (Nat.le_refl _)
    refine loopE_intro (fun mm e h4 => ∃ j : Nat, j ≤ n + 1 ∧ mm = n + 1 - j ∧ e 0 = va ∧ e 1 = vb ∧ e 5 = .slice (some ⟨h.length, 0, none⟩) (n + 1) (n + 1) ∧ e 6 = .int .i64 (m : Nat) ∧ e 7 = .int .i64 (j : Nat) ∧ Ex h h4 ∧
        CU h4 h.length h.length m n (fun i j => A i j ∨ B i j) h2.length (.slice (some ⟨h2.length, 0, none⟩) (n + 1) (n + 1)) (fun x => x < j ∧ (A m x ∨ B m x))) (n + 1)
      ⟨0, Nat.zero_le _, rfl, e0, e1, e5, e6, rfl, X3, cu.congr fun x => ⟨fun h => h.elim, fun h => by omega⟩⟩ ?_
    rintro I1 mm1 e' h4 ⟨j, hj, hmm1, f0, f1, f5, f6, f7, x4, cu4⟩ ih1
    rw [f0, f1, f5, f6, f7]
    have ta4 := ta.ex' x4
    have tb4 := tb.ex' x4
    refine ta4.len (w_lss (c_dec (fun q2 => ?_) (fun q2 => ?_)))
    · refine cu4.rdT (by omega) ?_
      refine ta4.rd (by omega) fun pa ra ia ba => ?_
      refine ba.rd (j := j) (by omega) fun ca hca => ?_
      have fin : ∀ (cb : Bool) (S : ST), (cb = true ↔ (A m j ∨ B m j)) → (S.map (·.1)).all (fun i => !(free #[0, 0, 3, 7, 0, 0, 0, 96, 224, 0, 992, 2016, 4064, 8160, 8160, 32736, 65504, 8160, 262112, 524256, 1048544, 2097151, 4194303] i 22 && Nat.blt i 22)) = true → ∀ {K2 : Value → AH → Prop},
          (∀ h5, CU h5 h.length h.length m n (fun i j => A i j ∨ B i j) h2.length (.slice (some ⟨h2.length, 0, none⟩) (n + 1) (n + 1)) (fun x => x < j + 1 ∧ (A m x ∨ B m x)) → Ex h h5 → K2 (.pointer (some ⟨h2.length, j, none⟩)) h5) →
          optW (pIdxS 1 (.slice (some ⟨h2.length, 0, none⟩) (n + 1) (n + 1)) (.int .i64 (j : Nat))) fun v50 => histC #[0, 0, 3, 7, 0, 0, 0, 96, 224, 0, 992, 2016, 4064, 8160, 8160, 32736, 65504, 8160, 262112, 524256, 1048544, 2097151, 4194303] 22 (obOf v50) [] (optW (pStore 1 v50 (.bool cb) h4) fun h_13 => readC #[0, 0, 3, 7, 0, 0, 0, 96, 224, 0, 992, 2016, 4064, 8160, 8160, 32736, 65504, 8160, 262112, 524256, 1048544, 2097151, 4194303] 22 h4 h_13 S (K2 v50 h_13)) := by
        intro cb S hcb hS K2 k2
        have bb := cu4.b
        have hlo := cu4.lo
        refine ix1 (by omega) (hist_nil ?_)
        obtain ⟨cap, bl, eb, hb2, hb3, hb4, hb5⟩ := bb.ex
        refine w_stP hb3 (by rw [flat_length eBo_len]; omega) rfl rfl (read_dep hS ?_)
        have xx : Exx h2.length h4 (h4.set h2.length (.row ((flat eBo bl).set j (.bool cb)) true)) := ⟨by simp, fun y hy hyi => get_ne (Ne.symm hyi) _⟩
        have b5 : BR (h4.set h2.length (.row ((flat eBo bl).set j (.bool cb)) true)) h2.length n (.slice (some ⟨h2.length, 0, none⟩) (n + 1) (n + 1)) (fun x => x < j + 1 ∧ (A m x ∨ B m x)) := by
          refine ⟨cap, bl.set j cb, eb, hb2, by rw [get_set _ (lt_of_get hb3), flat_eBo_set], by simpa using hb4, fun x => ?_⟩
          by_cases e : j = x
          · subst e
            rw [List.getElem?_set_self (by omega)]
            simp only [Option.some.injEq]
            exact hcb.trans ⟨fun h => ⟨Nat.lt_succ_self _, h⟩, fun h => h.2⟩
          · rw [List.getElem?_set_ne e, hb5 x]
            exact ⟨fun h => ⟨by omega, h.2⟩, fun h => ⟨by omega, h.2⟩⟩
        exact k2 _ (cu4.keep xx b5) (Exx.base x4 xx (by omega))
      cases ca with
      | true =>
        refine gdc_ft (gdc_ft (gdc_ft (gdc_ft (gdc_ft (gdc_ft (gdc_ft (pk_t ?_)))))))
        refine fin true _ ⟨fun _ => .inl (hca.1 rfl), fun _ => rfl⟩ ?_ fun h5 cu5 x5 => w_add (by omega) (by omega) ?_
        · show List.all [11, 8, 3] _ = true
          decide +kernel
        exact ih1 (n + 1 - (j + 1)) _ _ (by omega) ⟨j + 1, by omega, rfl, f0, f1, f5, f6, rfl, x5, cu5⟩
      | false =>
        refine gdc_ff (gdc_ff (gdc_ff ?_))
        obtain ⟨ib, valsb, eb, _, gb, hlb, rb⟩ := tb4.ex
        obtain ⟨ij, vj, h1b, h2b, h3b⟩ := rb m (by omega)
        rw [eb]
        refine ix1 (by omega) (gdc_ff (hist_nil (w_rdP gb h1b ?_)))
        obtain ⟨capj, blj, ebj, hbj2, hbj3, hbj4, hbj5⟩ := h3b.ex
        obtain ⟨cb, hcb⟩ := getElem?_of_lt (l := blj) (i := j) (by omega)
        rw [ebj]
        refine gdc_ff (gdc_ff (ix1 (by omega) (gdc_ff (hist_nil (w_rdP hbj3 (v := .bool cb) (by rw [flat_eBo_get, hcb]; rfl) (pk_f ?_))))))
        have hcb' : cb = true ↔ B m j := by rw [← hbj5 j, hcb]; simp
        have hA : ¬ A m j := fun h => by cases hca.2 h
        refine fin cb _ ⟨fun h => .inr (hcb'.1 h), fun h => hcb'.2 (h.resolve_left hA)⟩ ?_ fun h5 cu5 x5 => w_add (by omega) (by omega) ?_
        · show List.all [19, 16, 11, 8, 3] _ = true
          decide +kernel
        exact ih1 (n + 1 - (j + 1)) _ _ (by omega) ⟨j + 1, by omega, rfl, f0, f1, f5, f6, rfl, x5, cu5⟩
    · refine w_add (by omega) (by omega) (ih (n + 1 - (m + 1)) _ _ (by omega) ⟨m + 1, by omega, rfl, f0, f1, f5, rfl, x4, cu4.done fun x => ⟨fun h => h.2, fun h => ⟨?_, h⟩⟩⟩)
      have : x ≤ n := h.elim (ta.le (by omega)) (tb.le (by omega))
      omega
  · have em : m = n + 1 := by omega
    subst em
    exact k _ h2 x2 t.mt
end Go.Proofs.Ytlenlhlipmkeeaa.W
end

section
/- Schema's laws: the document's tables of truths: one behind another. Conditions: none. -/
namespace Go.Proofs.Ytlenlhlipmkeeaa.W
open Go Go.AM SchM
set_option linter.unusedVariables false
set_option maxRecDepth 100000
def Beh (A B : Nat → Nat → Prop) (i j : Nat) : Prop := ∃ k, i ≤ k ∧ k ≤ j ∧ A i k ∧ B k j
set_option maxHeartbeats 2000000 in
theorem behind85 {h : AH} {la lb n : Nat} {va vb : Value} {A B : Nat → Nat → Prop} {K : Value → AH → Prop} (ta : MT h la n va A) (tb : MT h lb n vb B) (hn : n ≤ 100000000000)
    (k : ∀ v h', Ex h h' → MT h' h.length n v (Beh A B) → K v h') : callW Try.prog 85 [va, vb] h K := by
  refine c85 ?_
  unfold s85
  refine ta.len (mkNil (by omega) fun vals hvl => ?_)
  refine n_newv fun h1 x1 l1 g1 => ?_
  refine loopE_intro (fun mm e h2 => ∃ m : Nat, m ≤ n + 1 ∧ mm = n + 1 - m ∧ e 0 = va ∧ e 1 = vb ∧ e 5 = .slice (some ⟨h.length, 0, none⟩) (n + 1) (n + 1) ∧ e 6 = .int .i64 (m : Nat) ∧ Ex h h2 ∧ UT h2 h.length h.length m n (Beh A B)) (n + 1)
    ⟨0, Nat.zero_le _, rfl, rfl, rfl, rfl, rfl, x1, UT.start g1 hvl⟩ ?_
  rintro I mm e h2 ⟨m, hm, hmm, e0, e1, e5, e6, x2, t⟩ ih
  rw [e0, e5, e6]
  refine (ta.ex' x2).len (w_lss (c_dec (fun q => ?_) (fun q => ?_)))
  · refine (ta.ex' x2).len ?_
    refine t.row (by omega) (by omega) fun h3 x3 l3 cu => ?_
    have X3 : Ex h h3 := Exx.base x2 x3 (Nat.le_refl _)
    refine loopE_intro (fun mm e h4 => ∃ y : Nat, m ≤ y ∧ y ≤ n + 1 ∧ mm = n + 1 - y ∧ e 0 = va ∧ e 1 = vb ∧ e 5 = .slice (some ⟨h.length, 0, none⟩) (n + 1) (n + 1) ∧ e 6 = .int .i64 (m : Nat) ∧ e 7 = .int .i64 (y : Nat) ∧ Ex h h4 ∧
        CU h4 h.length h.length m n (Beh A B) h2.length (.slice (some ⟨h2.length, 0, none⟩) (n + 1) (n + 1)) (fun x => ∃ z, m ≤ z ∧ z < y ∧ z ≤ x ∧ A m z ∧ B z x)) (n + 1 - m)
      ⟨m, Nat.le_refl _, hm, rfl, e0, e1, e5, e6, rfl, X3, cu.congr fun x => ⟨fun h => h.elim, fun ⟨z, h1, h2, _⟩ => by omega⟩⟩ ?_
    rintro I1 mm1 e' h4 ⟨y, hmy, hy, hmm1, f0, f1, f5, f6, f7, x4, cu4⟩ ih1
    rw [f0, f6, f7]
    refine (ta.ex' x4).len (w_lss (c_dec (fun q2 => ?_) (fun q2 => ?_)))
    · refine loopE_intro (fun mm e h4 => ∃ j : Nat, y ≤ j ∧ j ≤ n + 1 ∧ mm = n + 1 - j ∧ e 0 = va ∧ e 1 = vb ∧ e 5 = .slice (some ⟨h.length, 0, none⟩) (n + 1) (n + 1) ∧ e 6 = .int .i64 (m : Nat) ∧ e 7 = .int .i64 (y : Nat) ∧ e 8 = .int .i64 (j : Nat) ∧ Ex h h4 ∧
          CU h4 h.length h.length m n (Beh A B) h2.length (.slice (some ⟨h2.length, 0, none⟩) (n + 1) (n + 1)) (fun x => (∃ z, m ≤ z ∧ z < y ∧ z ≤ x ∧ A m z ∧ B z x) ∨ (A m y ∧ y ≤ x ∧ x < j ∧ B y x))) (n + 1 - y)
        ⟨y, Nat.le_refl _, hy, rfl, f0, f1, f5, f6, f7, rfl, x4, cu4.congr fun x => ⟨.inl, fun h => h.elim id fun h => by omega⟩⟩ ?_
      clear f0 f1 f5 f6 f7 cu4 x4
      rintro I2 mm2 e2 h5 ⟨j, hyj, hj, hmm2, f0, f1, f5, f6, f7, f8, x5, cu5⟩ ih2
      rw [f0, f1, f5, f6, f7, f8]
      have ta5 := ta.ex' x5
      have tb5 := tb.ex' x5
      have out : ∀ (E : Env), (∀ x, x ≤ n → A m y → B y x → y ≤ x → x < j) → E 0 = va → E 1 = vb → E 5 = .slice (some ⟨h.length, 0, none⟩) (n + 1) (n + 1) → E 6 = .int .i64 (m : Nat) → E 7 = .int .i64 (((y + 1 : Nat)) : Int) → I1 E h5 := by
        intro E hall F0 F1 F5 F6 F7
        refine ih1 (n + 1 - (y + 1)) _ _ (by omega) ⟨y + 1, by omega, by omega, rfl, F0, F1, F5, F6, F7, x5, cu5.congr fun x => ?_⟩
        constructor
        · rintro (⟨z, h1, h2, h3⟩ | ⟨h1, h2, h3, h4⟩)
          · exact ⟨z, h1, by omega, h3⟩
          · exact ⟨y, hmy, by omega, h2, h1, h4⟩
        · rintro ⟨z, h1, h2, h3, h4, h5⟩
          by_cases ez : z = y
          · subst ez
            exact .inr ⟨h4, h3, hall x (tb.le (by omega) h5) h4 h5 h3, h5⟩
          · exact .inl ⟨z, h1, by omega, h3, h4, h5⟩
      refine ta5.len (w_lss ?_)
      by_cases q3 : ((j : Nat) : Int) < ((n + 1 : Nat) : Int)
      · have hlt2 : n + 1 - (j + 1) < mm2 := by omega
        have hj1 : y ≤ j + 1 := by omega
        have hj2 : j + 1 ≤ n + 1 := by omega
        refine g_tt q3 (g_tt q3 (g_tt q3 ?_))
        obtain ⟨ia, valsa, ea, _, ga, hla, ra⟩ := ta5.ex
        obtain ⟨ija, vja, h1a, h2a, h3a⟩ := ra m (by omega)
        obtain ⟨capa, bla, eja, hba2, hba3, hba4, hba5⟩ := h3a.ex
        obtain ⟨ca, hca⟩ := getElem?_of_lt (l := bla) (i := y) (by omega)
        have hca' : ca = true ↔ A m y := by rw [← hba5 y, hca]; simp
        rw [ea]
        refine ix1 (by omega) (g_tt q3 (w_rdP ga (v := vja) h1a (g_tt q3 ?_)))
        rw [eja]
        refine g_tt q3 (ix1 (by omega) (g_tt q3 (w_rdP hba3 (v := .bool ca) (by rw [flat_eBo_get, hca]; rfl) (pk_tt q3 ?_))))
        refine c_b (fun ec => ?_) (fun ec => ?_)
        · have hA : A m y := hca'.1 ec
          refine cu5.rdT (by omega) ?_
          refine cu5.rdT (by omega) ?_
          have hlo := cu5.lo
          obtain ⟨cap, bl, eb, hb2, hb3, hb4, hb5⟩ := cu5.b.ex
          obtain ⟨cc, hcc⟩ := getElem?_of_lt (l := bl) (i := j) (by omega)
          refine ix1 (by omega) (w_rdP hb3 (v := .bool cc) (by rw [flat_eBo_get, hcc]; rfl) ?_)
          have hccP := hb5 j
          have fin : ∀ (cb : Bool) (S : ST), (cb = true ↔ (cc = true ∨ B y j)) → (S.map (·.1)).all (fun i => !(free #[0, 0, 3, 7, 0, 0, 0, 96, 224, 0, 992, 2016, 4064, 8160, 8160, 32736, 65504, 8160, 262112, 524256, 1048544, 2097151, 4194303] i 22 && Nat.blt i 22)) = true → ∀ {K2 : Value → AH → Prop},
              (∀ h6, CU h6 h.length h.length m n (Beh A B) h2.length (.slice (some ⟨h2.length, 0, none⟩) (n + 1) (n + 1)) (fun x => (∃ z, m ≤ z ∧ z < y ∧ z ≤ x ∧ A m z ∧ B z x) ∨ (A m y ∧ y ≤ x ∧ x < j + 1 ∧ B y x)) → Ex h h6 → K2 (.pointer (some ⟨h2.length, j, none⟩)) h6) →
              optW (pIdxS 1 (.slice (some ⟨h2.length, 0, none⟩) (n + 1) (n + 1)) (.int .i64 (j : Nat))) fun v50 => histC #[0, 0, 3, 7, 0, 0, 0, 96, 224, 0, 992, 2016, 4064, 8160, 8160, 32736, 65504, 8160, 262112, 524256, 1048544, 2097151, 4194303] 22 (obOf v50) [] (optW (pStore 1 v50 (.bool cb) h5) fun h_13 => readC #[0, 0, 3, 7, 0, 0, 0, 96, 224, 0, 992, 2016, 4064, 8160, 8160, 32736, 65504, 8160, 262112, 524256, 1048544, 2097151, 4194303] 22 h5 h_13 S (K2 v50 h_13)) := by
            intro cb S hcb hS K2 k2
            refine ix1 (by omega) (hist_nil ?_)
            refine w_stP hb3 (by rw [flat_length eBo_len]; omega) rfl rfl (read_dep hS ?_)
            have xx : Exx h2.length h5 (h5.set h2.length (.row ((flat eBo bl).set j (.bool cb)) true)) := ⟨by simp, fun y hy hyi => get_ne (Ne.symm hyi) _⟩
            refine k2 _ (cu5.keep xx ⟨cap, bl.set j cb, eb, hb2, by rw [get_set _ (lt_of_get hb3), flat_eBo_set], by simpa using hb4, fun x => ?_⟩) (Exx.base x5 xx (by omega))
            by_cases e : j = x
            · subst e
              rw [List.getElem?_set_self (by omega)]
              simp only [Option.some.injEq]
              rw [hcb]
              rw [hcc] at hccP
              simp only [Option.some.injEq] at hccP
              rw [hccP]
              constructor
              · rintro ((h | ⟨h1, h2, h3, h4⟩) | h)
                · exact .inl h
                · omega
                · exact .inr ⟨hA, hyj, Nat.lt_succ_self _, h⟩
              · rintro (h | ⟨h1, h2, h3, h4⟩)
                · exact .inl (.inl h)
                · exact .inr h4
            · rw [List.getElem?_set_ne e, hb5 x]
              constructor
              · rintro (h | ⟨h1, h2, h3, h4⟩)
                · exact .inl h
                · exact .inr ⟨h1, h2, by omega, h4⟩
              · rintro (h | ⟨h1, h2, h3, h4⟩)
                · exact .inl h
                · exact .inr ⟨h1, h2, by omega, h4⟩
          cases cc with
          | true =>
            refine gdc_ft (gdc_ft (gdc_ft (gdc_ft (gdc_ft (gdc_ft (gdc_ft (pk_t ?_)))))))
            refine fin true _ ⟨fun _ => .inl rfl, fun _ => rfl⟩ ?_ fun h6 cu6 x6 => w_add (by omega) (by omega) ?_
            · show List.all [11, 8, 3] _ = true
              decide +kernel
            exact ih2 (n + 1 - (j + 1)) _ _ hlt2 ⟨j + 1, hj1, hj2, rfl, f0, f1, f5, f6, f7, rfl, x6, cu6⟩
          | false =>
            refine gdc_ff (gdc_ff (gdc_ff ?_))
            obtain ⟨ib, valsb, eb', _, gb, hlb, rb⟩ := tb5.ex
            obtain ⟨ij, vj, h1b, h2b, h3b⟩ := rb y (by omega)
            rw [eb']
            refine ix1 (by omega) (gdc_ff (hist_nil (w_rdP gb h1b ?_)))
            obtain ⟨capj, blj, ebj, hbj2, hbj3, hbj4, hbj5⟩ := h3b.ex
            obtain ⟨cb, hcb⟩ := getElem?_of_lt (l := blj) (i := j) (by omega)
            rw [ebj]
            refine gdc_ff (gdc_ff (ix1 (by omega) (gdc_ff (hist_nil (w_rdP hbj3 (v := .bool cb) (by rw [flat_eBo_get, hcb]; rfl) (pk_f ?_))))))
            have hcb' : cb = true ↔ B y j := by rw [← hbj5 j, hcb]; simp
            refine fin cb _ ⟨fun h => .inr (hcb'.1 h), fun h => hcb'.2 (h.resolve_left Bool.false_ne_true)⟩ ?_ fun h6 cu6 x6 => w_add (by omega) (by omega) ?_
            · show List.all [19, 16, 11, 8, 3] _ = true
              decide +kernel
            exact ih2 (n + 1 - (j + 1)) _ _ hlt2 ⟨j + 1, hj1, hj2, rfl, f0, f1, f5, f6, f7, rfl, x6, cu6⟩
        · have hA : ¬ A m y := fun h => by rw [hca'.2 h] at ec; cases ec
          exact w_add (by omega) (by omega) (out _ (fun x _ h => absurd h hA) f0 f1 f5 f6 rfl)
      · refine g_tf q3 (g_tf q3 (g_tf q3 (g_tf q3 (g_tf q3 (g_tf q3 (g_tf q3 (pk_ff q3 (c_f ?_))))))))
        exact w_add (by omega) (by omega) (out _ (fun x hx _ _ _ => by omega) f0 f1 f5 f6 rfl)
    · refine w_add (by omega) (by omega) (ih (n + 1 - (m + 1)) _ _ (by omega) ⟨m + 1, by omega, rfl, f0, f1, f5, rfl, x4, cu4.done fun x => ?_⟩)
      constructor
      · rintro ⟨z, h1, h2, h3, h4, h5⟩
        exact ⟨z, h1, h3, h4, h5⟩
      · rintro ⟨z, h1, h3, h4, h5⟩
        exact ⟨z, h1, by have := ta.le (by omega) h4; omega, h3, h4, h5⟩
  · have em : m = n + 1 := by omega
    subst em
    exact k _ h2 x2 t.mt
end Go.Proofs.Ytlenlhlipmkeeaa.W
end

section
/- Schema's laws: which words a schema has: what is known so far, going on by a way. Conditions: none. -/
namespace Go.Proofs.Ytlenlhlipmkeeaa.W
open Go Go.AM SchM
set_option linter.unusedVariables false
set_option maxRecDepth 100000
def scOf (x : W × List (W × Mdl)) : Sc := ⟨fun n => (x.2.findIdx? (fun e => decide (e.1 = n))).elim (-1) (fun i => (i : Int)), x.2.length, fun i => (x.2[i]?.map (·.2)).getD (.mk 1 [] [])⟩
structure Hc where
  h0 : AH
  r : Nat
  M : Nat
  L : Value
  ws : Value
  w : List Int
  x : W × List (W × Mdl)
def Hc.G (c : Hc) (j : Nat) : Prop := j ≠ c.M ∧ j < c.h0.length ∧ Wr c.h0 j
structure HcOK (c : Hc) : Prop where
  rd : c.h0[c.r]? = some (rdr (.string (bs c.x.1)) c.L c.ws c.M)
  ls : ∃ a cap cs, c.L = .slice a c.x.2.length cap ∧ Sl 4 c.h0 c.L c.x.2.length cs ∧ (∀ j, onId c.L j → c.G j) ∧ EL c.h0 c.G c.x.2 cs
  ws : SlT 1 eI c.h0 c.ws c.w
  n : c.w.length ≤ 100000000000
  T : c.x.2.length ≤ 100000000000
  mp : ∃ es ck, c.h0[c.M]? = some (.map es ck)
def PM (c : Hc) (p o : Nat) (m : Mdl) : Prop := ∃ cc, c.h0[p]? = some (.row cc true) ∧ p ≠ c.M ∧ o + 3 ≤ cc.length ∧ MH c.h0 c.G m (.agg ((cc.drop o).take 3).toArray)
abbrev Rw (c : Hc) (m : Mdl) (a : Nat) : Nat → Prop := MR (scOf c.x).fd (scOf c.x).T (Stw (scOf c.x) c.w) m a
def Ent (c : Hc) (u : Nat → Prop) (h : AH) (e : Value × Value × Nat) : Prop :=
  ∃ p o a m i, e.1 = .agg #[.pointer (some ⟨p, o, none⟩), .int .i64 ((a : Nat) : Int)] ∧ PM c p o m ∧ a ≤ c.w.length ∧ u i ∧ BR h i c.w.length e.2.1 (Rw c m a)
structure MI (c : Hc) (u : Nat → Prop) (h : AH) : Prop where
  x : Exx c.M c.h0 h
  map : ∃ es ck, h[c.M]? = some (.map es ck) ∧ ∀ e ∈ es, Ent c u h e
  ub : ∀ i, u i → c.h0.length ≤ i ∧ i < h.length
section
variable {c : Hc} {u u' : Nat → Prop} {h h' : AH}
theorem HcOK.M (ok : HcOK c) : c.M < c.h0.length := ok.mp.elim fun es he => he.elim fun ck hg => lt_of_get hg
theorem MI.ext (ok : HcOK c) (m : MI c u h) (x : Ex h h') : MI c u h' := by
  obtain ⟨es, ck, g, he⟩ := m.map
  refine ⟨m.x.ex x, ⟨es, ck, x.some g, fun e hm => ?_⟩, fun i hi => ⟨(m.ub i hi).1, x.lt (m.ub i hi).2⟩⟩
  obtain ⟨p, o, a, md, i, h1, h2, h3, h4, h5⟩ := he e hm
  exact ⟨p, o, a, md, i, h1, h2, h3, h4, h5.keep (x.get i (m.ub i h4).2)⟩
theorem MI.set (ok : HcOK c) (m : MI c u h) {i : Nat} (hi : c.h0.length ≤ i) (hu : ¬ u i) (x : Exx i h h') : MI c u h' := by
  obtain ⟨es, ck, g, he⟩ := m.map
  have hM := ok.M
  refine ⟨⟨Nat.le_trans m.x.len x.len, fun j hj hjM => ?_⟩, ⟨es, ck, x.some g (by omega), fun e hm => ?_⟩, fun j hj => ⟨(m.ub j hj).1, Nat.lt_of_lt_of_le (m.ub j hj).2 x.len⟩⟩
  · rw [x.get j (Nat.lt_of_lt_of_le hj m.x.len) (by omega)]
    exact m.x.get j hj hjM
  · obtain ⟨p, o, a, md, i', h1, h2, h3, h4, h5⟩ := he e hm
    exact ⟨p, o, a, md, i', h1, h2, h3, h4, h5.keep (x.get i' (m.ub i' h4).2 (fun e => hu (by rw [← e]; exact h4)))⟩
theorem HcOK.rM (ok : HcOK c) : c.r ≠ c.M := by
  intro e
  obtain ⟨es, ck, g⟩ := ok.mp
  have h1 := ok.rd
  rw [e, g] at h1
  cases h1
theorem MI.rdr (ok : HcOK c) (m : MI c u h) : h[c.r]? = some (rdr (.string (bs c.x.1)) c.L c.ws c.M) := m.x.some ok.rd ok.rM
theorem Sl.exx {s n : Nat} {v : Value} {cs : List Value} (ok : HcOK c) (x : Exx c.M c.h0 h) (sl : Sl s c.h0 v n cs) : Sl s h v n cs := by
  refine ⟨sl.1, sl.2.imp id ?_⟩
  rintro ⟨id, off, cap, h1, h2, h3⟩
  refine ⟨id, off, cap, h1, h2, h3.imp (fun e => e) ?_⟩
  rintro ⟨cc, w, g, r⟩
  refine ⟨cc, w, x.some g fun e => ?_, r⟩
  obtain ⟨es, ck, g'⟩ := ok.mp
  rw [e, g'] at g
  cases g
theorem MI.w (ok : HcOK c) (m : MI c u h) : SlT 1 eI h c.ws c.w := Sl.exx ok m.x ok.ws
theorem BR.neM (m : MI c u h) {i n : Nat} {v : Value} {P : Nat → Prop} (b : BR h i n v P) : i ≠ c.M := by
  rintro rfl
  obtain ⟨es, ck, g, he⟩ := m.map
  obtain ⟨cap, bl, _, _, h3, _⟩ := b.ex
  rw [g] at h3
  cases h3
end
theorem words81 {c : Hc} (ok : HcOK c) {u : Nat → Prop} {h : AH} (m : MI c u h) {a : Nat} (ha : a ≤ c.w.length) {K : Value → AH → Prop}
    (k : ∀ v i h', Ex h h' → h.length ≤ i → i < h'.length → BR h' i c.w.length v (fun j => c.w[a]? = some (2 * (c.x.2.length : Int)) ∧ j = a + 1) → K v h') : callW Try.prog 81 [.pointer (some ⟨c.r, 0, none⟩), .int .i64 (a : Nat)] h K := by
  have hn := ok.n
  have hT := ok.T
  obtain ⟨wa, wc, hws⟩ := ok.ws.shape
  obtain ⟨La, Lc, Lcs, hL, _⟩ := ok.ls
  have g := m.rdr ok
  refine c81 ?_
  unfold s81
  rw [hws] at g
  refine row66 g (by omega) fun v h1 x1 l1 b => ?_
  have g1 := x1.some g
  refine w_nilc (w_offP (w_rdP g1 (v := .slice wa c.w.length wc) rfl (w_lenSl (w_lss ?_))))
  by_cases q : ((a : Nat) : Int) < (c.w.length : Nat)
  · have m1 := m.ext ok x1
    have sw : SlT 1 eI h1 (.slice wa c.w.length wc) c.w := hws ▸ m1.w ok
    obtain ⟨z, hz⟩ := getElem?_of_lt (l := c.w) (i := a) (by omega)
    refine gd_tt q (gd_tt q (w_nilc (gd_tt q (w_offP (gd_tt q (hist_nil (w_rdP g1 (v := .slice wa c.w.length wc) rfl (gd_tt q (gd_tt q ?_)))))))))
    refine w_idxN (enc := eI) eI_len sw hz fun pp hpp => ?_
    refine gd_tt q (hist_nil ?_)
    refine w_rd1 hpp (x := .int .i64 z) rfl ?_
    refine gd_tt q (gd_tt q (w_nilc (gd_tt q (w_offP (gd_tt q (w_offP (gd_tt q (hist_nil ?_))))))))
    refine w_rdP g1 (v := c.L) rfl ?_
    rw [hL]
    refine gd_tt q (w_lenSl (gd_tt q (w_mul (by omega) (by omega) (gd_tt q (w_eql (pk_tt q (c_dec (fun e => ?_) (fun e => ?_))))))))
    · refine w_add (by omega) (by omega) ?_
      refine b.st (j := a + 1) (by omega) fun h2 x2 l2 b2 => ?_
      refine k v h.length h2 ⟨by rw [l2, l1]; omega, fun j hj => (x2.get j (x1.lt hj) (by omega)).trans (x1.get j hj)⟩ (Nat.le_refl _) (by omega) (b2.congr fun j => ?_)
      rw [hz, e]
      simp
    · refine k v h.length h1 x1 (Nat.le_refl _) (by omega) (b.congr fun j => ?_)
      rw [hz]
      constructor
      · exact fun h => h.elim
      · rintro ⟨h, _⟩
        exact e (Option.some.inj h)
  · refine gd_tf q (gd_tf q (gd_tf q (gd_tf q (gd_tf q (gd_tf q (gd_tf q (gd_tf q (gd_tf q (gd_tf q (gd_tf q (gd_tf q (gd_tf q (gd_tf q (gd_tf q (pk_ff q (c_f ?_))))))))))))))))
    refine k v h.length h1 x1 (Nat.le_refl _) (by omega) (b.congr fun j => ?_)
    rw [List.getElem?_eq_none (by omega)]
    simp
end Go.Proofs.Ytlenlhlipmkeeaa.W
end

section
/- Schema's laws: which words a schema has: going on by a way, once and as often as may be. Conditions: none. -/
namespace Go.Proofs.Ytlenlhlipmkeeaa.W
open Go Go.AM SchM
set_option linter.unusedVariables false
set_option maxRecDepth 100000
def WayOK (c : Hc) (hb : AH) (way : Value) (lo : Nat) (Wy : Nat → Nat → Prop) : Prop :=
  ∀ (u : Nat → Prop) (h : AH) (k : Nat) (K : Value → AH → Prop), MI c u h → Exx c.M hb h → lo ≤ k → k ≤ c.w.length →
    (∀ (u' : Nat → Prop) (h' : AH) (v : Value) (i : Nat), MI c u' h' → Exx c.M h h' → (∀ i, u' i → u i ∨ h.length ≤ i) → (u' i ∨ h.length ≤ i) → BR h' i c.w.length v (Wy k) → K v h') → callV (callW Try.prog) way [.int .i64 (k : Nat)] h K
section
variable {c : Hc} {u : Nat → Prop} {h : AH} {f : Nat} {vf way : Value} {P : Nat → Prop} {lo : Nat} {Wy : Nat → Nat → Prop} {K : Value → AH → Prop}
set_option maxHeartbeats 1000000 in
theorem on82 (ok : HcOK c) (m : MI c u h) (bf : BR h f c.w.length vf P) (hP : ∀ j, P j → lo ≤ j) (hw : WayOK c h way lo Wy)
    (k : ∀ (u' : Nat → Prop) (h' : AH) (v : Value) (i : Nat), MI c u' h' → Exx c.M h h' → (∀ i, u' i → u i ∨ h.length ≤ i) → h.length ≤ i → ¬ u' i → BR h' i c.w.length v (fun j => ∃ a, P a ∧ Wy a j) → K v h') :
    callW Try.prog 82 [.pointer (some ⟨c.r, 0, none⟩), vf, way] h K := by
  have hn := ok.n
  obtain ⟨wa, wc, hws⟩ := ok.ws.shape
  have g := m.rdr ok
  refine c82 ?_
  unfold s82
  rw [hws] at g
  refine row66 g (by omega) fun v h1 x1 l1 b => bf.len ?_
  have fM := BR.neM m bf
  have hM := ok.M
  have hl := m.x.len
  refine loopE_intro (fun mm e h2 => ∃ (j : Nat) (u1 : Nat → Prop), j ≤ c.w.length + 1 ∧ mm = c.w.length + 1 - j ∧ e 2 = way ∧ e 7 = v ∧ e 12 = vf ∧ e 13 = .int .i64 ((c.w.length + 1 : Nat) : Int) ∧ e 14 = .int .i64 (j : Nat) ∧
      MI c u1 h2 ∧ Exx c.M h h2 ∧ (∀ i, u1 i → u i ∨ h.length ≤ i) ∧ ¬ u1 h.length ∧ BR h2 h.length c.w.length v (fun x => ∃ a, a < j ∧ P a ∧ Wy a x)) (c.w.length + 1)
    ⟨0, u, Nat.zero_le _, rfl, rfl, rfl, rfl, rfl, rfl, m.ext ok x1, (Exx.refl _ _).ex x1, fun i hi => .inl hi, fun hu => by have := (m.ub _ hu).2; omega, b.congr fun x => ⟨fun h => h.elim, fun ⟨a, h, _⟩ => by omega⟩⟩ ?_
  rintro I mm e h2 ⟨j, u1, hj, hmm, e2, e7, e12, e13, e14, m2, x2, s2, nu, b2⟩ ih
  rw [e2, e7, e12, e13, e14]
  refine w_lss (c_dec (fun q => ?_) (fun q => ?_))
  · have bf2 : BR h2 f c.w.length vf P := bf.keep (x2.get _ bf.lt fM)
    refine bf2.rd (by omega) fun t ht => ?_
    refine c_b (fun e => ?_) (fun e => ?_)
    · have hp : P j := ht.1 e
      refine hw u1 h2 j _ m2 x2 (hP j hp) (by omega) fun u3 h3 w i m3 x3 s3 hi b3 => ?_
      have nu3 : ¬ u3 h.length := fun hu => (s3 _ hu).elim nu fun hle => by have := b2.lt; omega
      have ni : h.length ≠ i := by
        rintro rfl
        rcases hi with hi | hi
        · exact nu3 hi
        · have := b2.lt; omega
      refine join83 (b2.keep (x3.get _ b2.lt (by omega))) b3 ni (by omega) fun h4 x4 l4 b4 => w_add (by omega) (by omega) ?_
      refine ih (c.w.length + 1 - (j + 1)) _ _ (by omega) ⟨j + 1, u3, by omega, rfl, e2, e7, e12, e13, rfl, m3.set ok (by omega) nu3 x4, ⟨Nat.le_trans (x2.trans x3).len x4.len, fun y hy hyM => ?_⟩, fun y hy => (s3 y hy).elim (s2 y) fun hle => .inr (Nat.le_trans x2.len hle), nu3, b4.congr fun x => ?_⟩
      · rw [x4.get y (Nat.lt_of_lt_of_le hy (x2.trans x3).len) (by omega)]
        exact (x2.trans x3).get y hy hyM
      · constructor
        · rintro (⟨a, h1, h2, h3⟩ | h)
          · exact ⟨a, by omega, h2, h3⟩
          · exact ⟨j, Nat.lt_succ_self _, hp, h⟩
        · rintro ⟨a, h1, h2, h3⟩
          by_cases ea : a = j
          · subst ea; exact .inr h3
          · exact .inl ⟨a, by omega, h2, h3⟩
    · have hp : ¬ P j := fun h => by rw [ht.2 h] at e; cases e
      refine w_add (by omega) (by omega) (ih (c.w.length + 1 - (j + 1)) _ _ (by omega) ⟨j + 1, u1, by omega, rfl, e2, e7, e12, e13, rfl, m2, x2, s2, nu, b2.congr fun x => ?_⟩)
      constructor
      · rintro ⟨a, h1, h2, h3⟩
        exact ⟨a, by omega, h2, h3⟩
      · rintro ⟨a, h1, h2, h3⟩
        by_cases ea : a = j
        · subst ea; exact absurd h2 hp
        · exact ⟨a, by omega, h2, h3⟩
  · refine k u1 h2 v h.length m2 x2 s2 (Nat.le_refl _) nu (b2.congr fun x => ?_)
    constructor
    · rintro ⟨a, h1, h2, h3⟩
      exact ⟨a, h2, h3⟩
    · rintro ⟨a, h2, h3⟩
      exact ⟨a, by have := bf.le h2; omega, h2, h3⟩
set_option maxHeartbeats 1000000 in
theorem often79 (ok : HcOK c) (m : MI c u h) (bf : BR h f c.w.length vf P) (hP : ∀ j, P j → lo ≤ j) (hw : WayOK c h way lo Wy) (hle : ∀ a j, lo ≤ a → Wy a j → a ≤ j) {rv : Value}
    (k : ∀ (u' : Nat → Prop) (h' : AH) (v : Value) (i : Nat), MI c u' h' → Exx c.M h h' → (∀ i, u' i → u i ∨ h.length ≤ i) → h.length ≤ i → ¬ u' i → BR h' i c.w.length v (fun j => ∃ a, P a ∧ RT Wy a j) → K v h') :
    callW Try.prog 79 [rv, vf, way] h K := by
  have hn := ok.n
  refine c79 ?_
  unfold s79
  have fM := BR.neM m bf
  have hM := ok.M
  have hl := m.x.len
  refine clone84 bf (by omega) fun v i0 h1 x1 l0 l1 b => b.len ?_
  refine loopE_intro (fun mm e h2 => ∃ (j : Nat) (u1 : Nat → Prop) (Q : Nat → Prop), j ≤ c.w.length + 1 ∧ mm = c.w.length + 1 - j ∧ e 2 = way ∧ e 7 = v ∧ e 12 = .int .i64 ((c.w.length + 1 : Nat) : Int) ∧ e 13 = .int .i64 (j : Nat) ∧
      MI c u1 h2 ∧ Exx c.M h h2 ∧ (∀ i, u1 i → u i ∨ h.length ≤ i) ∧ ¬ u1 i0 ∧ i0 < h2.length ∧ BR h2 i0 c.w.length v Q ∧ (∀ a, P a → Q a) ∧ (∀ a, Q a → lo ≤ a ∧ ∃ p, P p ∧ RT Wy p a) ∧ (∀ a, a < j → Q a → ∀ x, Wy a x → Q x)) (c.w.length + 1)
    ⟨0, u, P, Nat.zero_le _, rfl, rfl, rfl, rfl, rfl, m.ext ok x1, (Exx.refl _ _).ex x1, fun i hi => .inl hi, fun hu => by have := (m.ub _ hu).2; omega, l1, b, fun a h => h, fun a h => ⟨hP a h, a, h, .nil a⟩, fun a h => by omega⟩ ?_
  rintro I mm e h2 ⟨j, u1, Q, hj, hmm, e2, e7, e12, e13, m2, x2, s2, nu, l2, b2, q1, q2, q3⟩ ih
  rw [e2, e7, e12, e13]
  refine w_lss (c_dec (fun q => ?_) (fun q => ?_))
  · refine b2.rd (by omega) fun t ht => ?_
    refine c_b (fun e => ?_) (fun e => ?_)
    · have hp : Q j := ht.1 e
      refine hw u1 h2 j _ m2 x2 (q2 j hp).1 (by omega) fun u3 h3 w i m3 x3 s3 hi b3 => ?_
      have nu3 : ¬ u3 i0 := fun hu => (s3 _ hu).elim nu fun hle => by omega
      have ni : i0 ≠ i := by
        rintro rfl
        rcases hi with hi | hi
        · exact nu3 hi
        · omega
      refine join83 (b2.keep (x3.get _ b2.lt (by omega))) b3 ni (by omega) fun h4 x4 l4 b4 => w_add (by omega) (by omega) ?_
      refine ih (c.w.length + 1 - (j + 1)) _ _ (by omega) ⟨j + 1, u3, fun x => Q x ∨ Wy j x, by omega, rfl, e2, e7, e12, rfl, m3.set ok (by omega) nu3 x4, ⟨Nat.le_trans (x2.trans x3).len x4.len, fun y hy hyM => ?_⟩, fun y hy => (s3 y hy).elim (s2 y) fun hle => .inr (Nat.le_trans x2.len hle), nu3, by rw [l4]; exact Nat.lt_of_lt_of_le l2 x3.len, b4, fun a h => .inl (q1 a h), ?_, ?_⟩
      · rw [x4.get y (Nat.lt_of_lt_of_le hy (x2.trans x3).len) (by omega)]
        exact (x2.trans x3).get y hy hyM
      · rintro a (h | h)
        · exact q2 a h
        · obtain ⟨h1, p, h2, h3⟩ := q2 j hp
          exact ⟨Nat.le_trans h1 (hle _ _ h1 h), p, h2, h3.snoc h⟩
      · intro a ha hq x hx
        have hlo : lo ≤ a := by
          rcases hq with h | h
          · exact (q2 a h).1
          · exact Nat.le_trans (q2 j hp).1 (hle _ _ (q2 j hp).1 h)
        by_cases ea : a = j
        · subst ea; exact .inr hx
        · rcases hq with h | h
          · exact .inl (q3 a (by omega) h x hx)
          · have := hle _ _ (q2 j hp).1 h
            omega
    · have hp : ¬ Q j := fun h => by rw [ht.2 h] at e; cases e
      refine w_add (by omega) (by omega) (ih (c.w.length + 1 - (j + 1)) _ _ (by omega) ⟨j + 1, u1, Q, by omega, rfl, e2, e7, e12, rfl, m2, x2, s2, nu, l2, b2, q1, q2, fun a ha hq x hx => ?_⟩)
      by_cases ea : a = j
      · subst ea; exact absurd hq hp
      · exact q3 a (by omega) hq x hx
  · refine k u1 h2 v i0 m2 x2 s2 l0 nu (b2.congr fun x => ?_)
    constructor
    · exact fun h => (q2 x h).2
    · rintro ⟨p, hp, hr⟩
      have : ∀ {a b : Nat}, RT Wy a b → Q a → Q b := by
        intro a b hr
        induction hr with
        | nil i => exact fun h => h
        | cons h _ ih2 => exact fun hq => ih2 (q3 _ (by have := b2.le hq; omega) hq _ h)
      exact this hr (q1 p hp)
end
end Go.Proofs.Ytlenlhlipmkeeaa.W
end

section
/- Schema's laws: which words a schema has: an element, one of any. Conditions: none. -/
namespace Go.Proofs.Ytlenlhlipmkeeaa.W
open Go Go.AM SchM
set_option linter.unusedVariables false
set_option maxRecDepth 100000
def MC (c : Hc) (md : Mdl) (a : Nat) : Prop :=
  ∀ (u : Nat → Prop) (h : AH) (p o : Nat) (K : Value → AH → Prop), MI c u h → PM c p o md →
    (∀ (u' : Nat → Prop) (h' : AH) (v : Value) (i : Nat), MI c u' h' → Exx c.M h h' → (∀ i, u' i → u i ∨ h.length ≤ i) → u' i → BR h' i c.w.length v (Rw c md a) → K v h') →
    callW Try.prog 67 [.pointer (some ⟨c.r, 0, none⟩), .pointer (some ⟨p, o, none⟩), .int .i64 (a : Nat)] h K
abbrev St (c : Hc) : Stp := Stw (scOf c.x) c.w
def EC (c : Hc) (i a : Nat) : Prop :=
  ∀ (u : Nat → Prop) (h : AH) (K : Value → AH → Prop), MI c u h →
    (∀ (u' : Nat → Prop) (h' : AH) (v : Value) (j : Nat), MI c u' h' → Exx c.M h h' → (∀ i, u' i → u i ∨ h.length ≤ i) → h.length ≤ j → ¬ u' j → BR h' j c.w.length v (St c i a) → K v h') →
    callW Try.prog 48 [.pointer (some ⟨c.r, 0, none⟩), .int .i64 (i : Nat), .int .i64 (a : Nat)] h K
theorem MI.exx {c : Hc} {h : AH} {M : Nat} (x : Exx M c.h0 h) {j : Nat} {o : AObj} (g : c.h0[j]? = some o) (hj : j ≠ M) : h[j]? = some o := x.some g hj
theorem elAt {c : Hc} (ok : HcOK c) {i : Nat} {e : W × Mdl} (hi : c.x.2[i]? = some e) :
    ∃ id off cap cc k n a l cp, c.L = .slice (some ⟨id, off, none⟩) c.x.2.length cap ∧ c.h0[id]? = some (.row cc true) ∧ id ≠ c.M ∧ off + i * 4 + 4 ≤ cc.length ∧
      (cc.drop (off + i * 4)).take 4 = [.string (bs e.1), .int .i64 k, .string (bs n), .slice a l cp] ∧ PM c id (off + i * 4 + 1) e.2 := by
  obtain ⟨La, Lc, cs, hL, sl, hG, el⟩ := ok.ls
  have hlt := get_lt hi
  obtain ⟨h1, ⟨h2, h3⟩ | ⟨id, off, cap, h2, h3, h4⟩⟩ := sl
  · omega
  · rcases h4 with h4 | ⟨cc, w, g, hle, ht⟩
    · omega
    · have Gi := hG id (by rw [h2]; rfl)
      obtain ⟨c2, g2⟩ := Gi.2.2
      rw [g] at g2
      cases g2
      obtain ⟨k, n, a, l, cp, e1, mh⟩ := EL.get _ _ el i e hi
      have hm : i * 4 + 4 ≤ c.x.2.length * 4 := by omega
      have e2 : (cc.drop (off + i * 4)).take 4 = [.string (bs e.1), .int .i64 k, .string (bs n), .slice a l cp] := by
        rw [← e1, ← ht, List.drop_take, List.drop_drop, List.take_take]
        congr 1
        omega
      refine ⟨id, off, cap, cc, k, n, a, l, cp, h2, g, Gi.1, by omega, e2, cc, g, Gi.1, by omega, ?_⟩
      have e3 : (cc.drop (off + i * 4 + 1)).take 3 = [.int .i64 k, .string (bs n), .slice a l cp] := by
        have := congrArg (List.drop 1) e2
        rw [List.drop_take, List.drop_drop] at this
        exact this
      rw [e3]
      exact mh
set_option maxHeartbeats 2000000 in
theorem element48 {c : Hc} (ok : HcOK c) {i a : Nat} {e : W × Mdl} (hi : c.x.2[i]? = some e) (ha : a ≤ c.w.length) (hm : a < c.w.length → MC c e.2 (a + 1)) : EC c i a := by
  intro u h K m k
  have hn := ok.n
  have hT := ok.T
  have hiT := get_lt hi
  obtain ⟨wa, wc, hws⟩ := ok.ws.shape
  obtain ⟨id, off, cap, cc, kk, nn, aa, ll, cp, hL, gid, idM, hle, ht4, pm⟩ := elAt ok hi
  have g := m.rdr ok
  rw [hws] at g
  have hM := ok.M
  have hl := m.x.len
  have hSt : ∀ x, St c i a x ↔ c.w[a]? = some (2 * (i : Int)) ∧ ∃ j', Rw c e.2 (a + 1) j' ∧ c.w[j']? = some (2 * (i : Int) + 1) ∧ x = j' + 1 := by
    intro x
    show Stw (scOf c.x) c.w i a x ↔ _
    rw [Stw_iff]
    have e1 : (scOf c.x).T = c.x.2.length := rfl
    have e2 : (scOf c.x).ms i = e.2 := by show (c.x.2[i]?.map (·.2)).getD _ = _; rw [hi]; rfl
    rw [e2]
    constructor
    · rintro (⟨h1, _⟩ | ⟨_, h1, h2⟩)
      · omega
      · exact ⟨h1, h2⟩
    · rintro ⟨h1, h2⟩
      exact .inr ⟨hiT, h1, h2⟩
  refine c48 ?_
  unfold s48
  refine row66 g (by omega) fun v h1 x1 l1 b => ?_
  have g1 := x1.some g
  have m1 := m.ext ok x1
  have nu1 : ¬ u h.length := fun hu => by have := (m.ub _ hu).2; omega
  have xx1 : Exx c.M h h1 := (Exx.refl _ _).ex x1
  refine w_nilc (w_offP (w_rdP g1 (v := .slice wa c.w.length wc) rfl (w_lenSl (w_geq ?_))))
  by_cases q : ((c.w.length : Nat) : Int) ≤ (a : Nat)
  · refine g_ft q (g_ft q (g_ft q (g_ft q (g_ft q (g_ft q (g_ft q (g_ft q (g_ft q (g_ft q (pk_tt q (c_t ?_)))))))))))
    refine k u h1 v h.length m1 xx1 (fun i hi => .inl hi) (Nat.le_refl _) nu1 (b.congr fun x => ?_)
    rw [hSt, List.getElem?_eq_none (by omega)]
    simp
  have sw : SlT 1 eI h1 (.slice wa c.w.length wc) c.w := hws ▸ m1.w ok
  obtain ⟨z, hz⟩ := getElem?_of_lt (l := c.w) (i := a) (by omega)
  refine g_ff q (g_ff q (w_nilc (g_ff q (w_offP (g_ff q (w_rdP g1 (v := .slice wa c.w.length wc) rfl (g_ff q (g_ff q ?_))))))))
  refine w_idxN (enc := eI) eI_len sw hz fun pp hpp => ?_
  refine g_ff q ?_
  refine w_rd1 hpp (x := .int .i64 z) rfl ?_
  refine g_ff q (g_ff q (w_mul (by omega) (by omega) (g_ff q (w_neq (pk_ff q ?_)))))
  refine c_dec (fun ee => ?_) (fun ee => ?_)
  · refine k u h1 v h.length m1 xx1 (fun i hi => .inl hi) (Nat.le_refl _) nu1 (b.congr fun x => ?_)
    rw [hSt, hz]
    constructor
    · exact fun h => h.elim
    · rintro ⟨h, _⟩
      exact ee (Option.some.inj h)
  have ez : z = 2 * (i : Int) := Classical.not_not.1 ee
  subst ez
  have gid1 := m1.x.some gid idM
  refine w_nilc (w_offP (w_offP (w_rdP g1 (v := c.L) rfl ?_)))
  rw [hL]
  refine w_some (v := .pointer (some ⟨id, off + i * 4, none⟩)) ?_ ?_
  · show (if 0 ≤ ((i : Nat) : Int) ∧ ((i : Nat) : Int) < ((c.x.2.length : Nat) : Int) then some (Value.pointer (some ⟨id, off + ((i : Nat) : Int).toNat * 4, none⟩)) else none) = _
    rw [if_pos (by omega)]
    simp
  refine w_offP (w_add (by omega) (by omega) ?_)
  refine hm (by omega) u h1 id (off + i * 4 + 1) _ m1 pm fun u2 h2 v2 i2 m2 x2 s2 hu2 b2 => ?_
  have nu2 : ¬ u2 h.length := fun hu => (s2 _ hu).elim nu1 fun hle => by omega
  have ne2 : i2 ≠ h.length := fun e => nu2 (by rw [← e]; exact hu2)
  have bo := b.keep (x2.get _ b.lt (by omega))
  refine b2.len ?_
  refine loopE_intro (fun mm E h3 => ∃ (j : Nat), j ≤ c.w.length + 1 ∧ mm = c.w.length + 1 - j ∧ E 0 = .pointer (some ⟨c.r, 0, none⟩) ∧ E 1 = .int .i64 (i : Nat) ∧ E 7 = v ∧ E 43 = v2 ∧ E 44 = .int .i64 ((c.w.length + 1 : Nat) : Int) ∧ E 45 = .int .i64 (j : Nat) ∧
      Exx h.length h2 h3 ∧ BR h3 h.length c.w.length v (fun x => ∃ k', k' < j ∧ Rw c e.2 (a + 1) k' ∧ c.w[k']? = some (2 * (i : Int) + 1) ∧ x = k' + 1)) (c.w.length + 1)
    ⟨0, Nat.zero_le _, rfl, rfl, rfl, rfl, rfl, rfl, rfl, .refl _ _, bo.congr fun x => ⟨fun h => h.elim, fun ⟨k', h, _⟩ => by omega⟩⟩ ?_
  rintro I mm E h3 ⟨j, hj, hmm, E0, E1, E7, E43, E44, E45, x3, b3⟩ ih
  rw [E0, E1, E7, E43, E44, E45]
  have m3 : MI c u2 h3 := m2.set ok (by omega) nu2 x3
  have g3 := m3.rdr ok
  rw [hws] at g3
  have sw3 : SlT 1 eI h3 (.slice wa c.w.length wc) c.w := hws ▸ m3.w ok
  refine w_lss (c_dec (fun r => ?_) (fun r => ?_))
  · have b23 := b2.keep (x3.get i2 b2.lt ne2)
    refine b23.rd (by omega) fun t htt => ?_
    have next : ∀ (E' : Env), (¬ (Rw c e.2 (a + 1) j ∧ c.w[j]? = some (2 * (i : Int) + 1))) → E' 0 = .pointer (some ⟨c.r, 0, none⟩) → E' 1 = .int .i64 (i : Nat) → E' 7 = v → E' 43 = v2 → E' 44 = .int .i64 ((c.w.length + 1 : Nat) : Int) → E' 45 = .int .i64 (((j + 1 : Nat)) : Int) → I E' h3 := by
      intro E' hno F0 F1 F7 F43 F44 F45
      refine ih (c.w.length + 1 - (j + 1)) _ _ (by omega) ⟨j + 1, by omega, rfl, F0, F1, F7, F43, F44, F45, x3, b3.congr fun x => ?_⟩
      constructor
      · rintro ⟨k', h1, h2⟩
        exact ⟨k', by omega, h2⟩
      · rintro ⟨k', h1, h2, h3, h4⟩
        by_cases ek : k' = j
        · subst ek; exact absurd ⟨h2, h3⟩ hno
        · exact ⟨k', by omega, h2, h3, h4⟩
    cases t with
    | false =>
      refine gc_tf (gc_tf (gc_tf (gc_tf (gc_tf (gc_tf (gc_tf (pk_f ?_)))))))
      refine gc_tf (gc_tf (gc_tf (gc_tf (gc_tf (gc_tf (gc_tf (gc_tf (gc_tf (gc_tf (gc_tf (pk_f (c_f ?_))))))))))))
      refine w_add (by omega) (by omega) (next _ (fun h => by cases htt.2 h.1) E0 E1 E7 E43 E44 rfl)
    | true =>
      refine gc_tt (gc_tt (gc_tt (w_nilc (gc_tt (w_offP (gc_tt (w_rdP g3 (v := .slice wa c.w.length wc) rfl (gc_tt (w_lenSl (gc_tt (w_lss (pk_t ?_))))))))))))
      by_cases q2 : ((j : Nat) : Int) < ((c.w.length : Nat) : Int)
      · obtain ⟨y, hy⟩ := getElem?_of_lt (l := c.w) (i := j) (by omega)
        refine g_tt q2 (g_tt q2 (w_nilc (g_tt q2 (w_offP (g_tt q2 (w_rdP g3 (v := .slice wa c.w.length wc) rfl (g_tt q2 (g_tt q2 ?_))))))))
        refine w_idxN (enc := eI) eI_len sw3 hy fun pp hpp => ?_
        refine g_tt q2 ?_
        refine w_rd1 hpp (x := .int .i64 y) rfl ?_
        refine g_tt q2 (g_tt q2 (w_mul (by omega) (by omega) (g_tt q2 (w_add (by omega) (by omega) (g_tt q2 (w_eql (pk_tt q2 ?_)))))))
        refine c_dec (fun ey => ?_) (fun ey => ?_)
        · refine w_add (by omega) (by omega) ?_
          refine b3.st (j := j + 1) (by omega) fun h4 x4 l4 b4 => w_add (by omega) (by omega) ?_
          refine ih (c.w.length + 1 - (j + 1)) _ _ (by omega) ⟨j + 1, by omega, rfl, E0, E1, E7, E43, E44, rfl, x3.trans x4, b4.congr fun x => ?_⟩
          constructor
          · rintro (⟨h1, _⟩ | ⟨h1, k', h2, h3⟩)
            · exact ⟨j, Nat.lt_succ_self _, htt.1 rfl, by rw [hy, ey], h1⟩
            · exact ⟨k', by omega, h3⟩
          · rintro ⟨k', h1, h2, h3, h4⟩
            by_cases ek : k' = j
            · subst ek; exact .inl ⟨h4, rfl⟩
            · exact .inr ⟨by omega, k', by omega, h2, h3, h4⟩
        · refine w_add (by omega) (by omega) (next _ (fun h => ?_) E0 E1 E7 E43 E44 rfl)
          rw [hy] at h
          exact ey (Option.some.inj h.2)
      · refine g_tf q2 (g_tf q2 (g_tf q2 (g_tf q2 (g_tf q2 (g_tf q2 (g_tf q2 (g_tf q2 (g_tf q2 (g_tf q2 (g_tf q2 (pk_ff q2 (c_f ?_))))))))))))
        refine w_add (by omega) (by omega) (next _ (fun h => ?_) E0 E1 E7 E43 E44 rfl)
        rw [List.getElem?_eq_none (by omega)] at h
        cases h.2
  · refine k u2 h3 v h.length m3 ⟨Nat.le_trans (xx1.trans x2).len x3.len, fun y hy hyM => ?_⟩ (fun y hy => (s2 y hy).imp (fun h => h) fun h => by have := x1.len; omega) (Nat.le_refl _) nu2 (b3.congr fun x => ?_)
    · rw [x3.get y (Nat.lt_of_lt_of_le hy (xx1.trans x2).len) (by omega)]
      exact (xx1.trans x2).get y hy hyM
    · rw [hSt]
      constructor
      · rintro ⟨k', h1, h2⟩
        exact ⟨hz, k', h2⟩
      · rintro ⟨_, k', h2, h3⟩
        exact ⟨k', by have := get_lt h3.1; omega, h2, h3⟩
set_option maxHeartbeats 1000000 in
theorem any80 {c : Hc} (ok : HcOK c) {a : Nat} (ha : a ≤ c.w.length) (he : ∀ i, i < c.x.2.length → EC c i a) {u : Nat → Prop} {h : AH} {K : Value → AH → Prop} (m : MI c u h)
    (k : ∀ (u' : Nat → Prop) (h' : AH) (v : Value) (j : Nat), MI c u' h' → Exx c.M h h' → (∀ i, u' i → u i ∨ h.length ≤ i) → h.length ≤ j → ¬ u' j → BR h' j c.w.length v (Any (St c) a) → K v h') :
    callW Try.prog 80 [.pointer (some ⟨c.r, 0, none⟩), .int .i64 (a : Nat)] h K := by
  have hn := ok.n
  have hT := ok.T
  have hM := ok.M
  have hl := m.x.len
  obtain ⟨La, Lc, Lcs, hL, _⟩ := ok.ls
  refine c80 ?_
  unfold s80
  refine words81 ok m ha fun v i0 h1 x1 l0 l1 b => ?_
  have m1 := m.ext ok x1
  have g1 := m1.rdr ok
  have nu1 : ¬ u i0 := fun hu => by have := (m.ub _ hu).2; omega
  refine w_nilc (w_offP (w_offP (w_rdP g1 (v := c.L) rfl ?_)))
  rw [hL]
  refine w_lenSl ?_
  refine loopE_intro (fun mm E h2 => ∃ (j : Nat) (u1 : Nat → Prop), j ≤ c.x.2.length ∧ mm = c.x.2.length - j ∧ E 0 = .pointer (some ⟨c.r, 0, none⟩) ∧ E 1 = .int .i64 (a : Nat) ∧ E 5 = v ∧ E 15 = .int .i64 ((c.x.2.length : Nat) : Int) ∧ E 16 = .int .i64 (j : Nat) ∧
      MI c u1 h2 ∧ Exx c.M h h2 ∧ (∀ i, u1 i → u i ∨ h.length ≤ i) ∧ ¬ u1 i0 ∧ i0 < h2.length ∧ BR h2 i0 c.w.length v (fun x => (c.w[a]? = some (2 * (c.x.2.length : Int)) ∧ x = a + 1) ∨ ∃ i, i < j ∧ St c i a x)) c.x.2.length
    ⟨0, u, Nat.zero_le _, rfl, rfl, rfl, rfl, rfl, rfl, m1, (Exx.refl _ _).ex x1, fun i hi => .inl hi, nu1, l1, b.congr fun x => ⟨.inl, fun h => h.elim id fun ⟨i, h, _⟩ => by omega⟩⟩ ?_
  rintro I mm E h2 ⟨j, u1, hj, hmm, E0, E1, E5, E15, E16, m2, x2, s2, nu, l2, b2⟩ ih
  rw [E0, E1, E5, E15, E16]
  refine w_lss (c_dec (fun q => ?_) (fun q => ?_))
  · refine he j (by omega) u1 h2 _ m2 fun u3 h3 w i m3 x3 s3 hi nu3' b3 => ?_
    have nu3 : ¬ u3 i0 := fun hu => (s3 _ hu).elim nu fun hle => by omega
    refine join83 (b2.keep (x3.get _ b2.lt (by omega))) b3 (by omega) (by omega) fun h4 x4 l4 b4 => w_add (by omega) (by omega) ?_
    refine ih (c.x.2.length - (j + 1)) _ _ (by omega) ⟨j + 1, u3, by omega, rfl, E0, E1, E5, E15, rfl, m3.set ok (by omega) nu3 x4, ⟨Nat.le_trans (x2.trans x3).len x4.len, fun y hy hyM => ?_⟩, fun y hy => (s3 y hy).elim (s2 y) fun hle => .inr (Nat.le_trans x2.len hle), nu3, by rw [l4]; exact Nat.lt_of_lt_of_le l2 x3.len, b4.congr fun x => ?_⟩
    · rw [x4.get y (Nat.lt_of_lt_of_le hy (x2.trans x3).len) (by omega)]
      exact (x2.trans x3).get y hy hyM
    · constructor
      · rintro ((h | ⟨i, h1, h2⟩) | h)
        · exact .inl h
        · exact .inr ⟨i, by omega, h2⟩
        · exact .inr ⟨j, Nat.lt_succ_self _, h⟩
      · rintro (h | ⟨i, h1, h2⟩)
        · exact .inl (.inl h)
        · by_cases ei : i = j
          · subst ei; exact .inr h2
          · exact .inl (.inr ⟨i, by omega, h2⟩)
  · refine k u1 h2 v i0 m2 x2 s2 l0 nu (b2.congr fun x => ?_)
    constructor
    · rintro (⟨h1, rfl⟩ | ⟨i, _, h2⟩)
      · exact ⟨c.x.2.length, (Stw_iff _ _ _ _ _).2 (.inl ⟨rfl, h1, rfl⟩)⟩
      · exact ⟨i, h2⟩
    · rintro ⟨i, hi⟩
      rcases (Stw_iff _ _ _ _ _).1 hi with ⟨rfl, h1, h2⟩ | ⟨h0, _⟩
      · exact .inl ⟨h1, h2⟩
      · exact .inr ⟨i, by have : i < c.x.2.length := h0; omega, hi⟩
end Go.Proofs.Ytlenlhlipmkeeaa.W
end

section
/- Schema's laws: which words a schema has: what is known is looked up, and laid down. Conditions: none. -/
namespace Go.Proofs.Ytlenlhlipmkeeaa.W
open Go Go.AM SchM
set_option linter.unusedVariables false
set_option maxRecDepth 100000
mutual
theorem MH.fn {h : AH} {G G' : Nat → Prop} : ∀ (m m' : Mdl) (v : Value), MH h G m v → MH h G' m' v → m = m'
  | .mk k n l, .mk k' n' l', v, x, y => by
    unfold MH at x y
    obtain ⟨a, c, cs, rfl, sl, _, ml⟩ := x
    obtain ⟨a', c', cs', e, sl', _, ml'⟩ := y
    simp only [Value.agg.injEq, Array.mk.injEq, List.cons.injEq, Value.int.injEq, Value.string.injEq, Value.slice.injEq, bs_inj, and_true, true_and] at e
    obtain ⟨rfl, rfl, rfl, hl, rfl⟩ := e
    have hcs : cs = cs' := by
      obtain ⟨h1, h2⟩ := sl
      obtain ⟨h3, h4⟩ := sl'
      rw [← hl] at h3 h4
      by_cases h0 : l.length = 0
      · rw [List.eq_nil_of_length_eq_zero (by omega : cs.length = 0), List.eq_nil_of_length_eq_zero (by omega : cs'.length = 0)]
      · rcases h2 with ⟨_, h2⟩ | ⟨id, off, cap, e1, _, h2⟩
        · exact absurd h2 h0
        · rcases h4 with ⟨_, h4⟩ | ⟨id', off', cap', e2, _, h4⟩
          · exact absurd h4 h0
          · rw [e1] at e2
            simp only [Value.slice.injEq, Option.some.injEq, Addr.mk.injEq, and_true, true_and] at e2
            obtain ⟨⟨rfl, rfl⟩, rfl⟩ := e2
            rcases h2 with h2 | ⟨cc, w, g, _, t⟩
            · exact absurd h2 h0
            · rcases h4 with h4 | ⟨cc', w', g', _, t'⟩
              · exact absurd h4 h0
              · rw [g] at g'
                cases g'
                rw [← t, ← t']
    subst hcs
    rw [ML.fn l l' cs hl ml ml']
theorem ML.fn {h : AH} {G G' : Nat → Prop} : ∀ (l l' : List Mdl) (cs : List Value), l.length = l'.length → ML h G l cs → ML h G' l' cs → l = l'
  | [], [], cs, _, _, _ => rfl
  | [], _ :: _, cs, hl, _, _ => by simp at hl
  | _ :: _, [], cs, hl, _, _ => by simp at hl
  | m :: l, m' :: l', cs, hl, x, y => by
    unfold ML at x y
    obtain ⟨a1, a2, a3, r, rfl, m1, l1⟩ := x
    obtain ⟨b1, b2, b3, r', e, m2, l2⟩ := y
    simp only [List.cons.injEq] at e
    obtain ⟨rfl, rfl, rfl, rfl⟩ := e
    rw [MH.fn m m' _ m1 m2, ML.fn l l' r (by simpa using hl) l1 l2]
end
theorem PM.fn {c : Hc} {p o : Nat} {m m' : Mdl} (x : PM c p o m) (y : PM c p o m') : m = m' := by
  obtain ⟨cc, g, _, _, h1⟩ := x
  obtain ⟨cc', g', _, _, h2⟩ := y
  rw [g] at g'
  cases g'
  exact MH.fn _ _ _ h1 h2
theorem findP_spec {look : Nat → Option AObj} {q : Nat × Nat × Int} : ∀ (es : List Go.AM.Ent) (i : Nat), (∀ e ∈ es, ∃ q', keyP e.1 = some q' ∧ lwO (look q'.1) = true) →
    findP look q es i = some none ∨ ∃ j e, es[j]? = some e ∧ keyP e.1 = some q ∧ findP look q es i = some (some (i + j, e.2.1))
  | [], i, _ => .inl rfl
  | e :: es, i, he => by
    obtain ⟨q', h1, h2⟩ := he e (List.mem_cons_self ..)
    unfold findP
    rw [h1]
    dsimp only
    rw [h2]
    dsimp only
    cases h3 : eq3 q q' with
    | true =>
      rw [eq3_iff] at h3
      subst h3
      exact .inr ⟨0, e, rfl, h1, rfl⟩
    | false =>
      rcases findP_spec es (i + 1) (fun e he' => he e (List.mem_cons_of_mem _ he')) with h | ⟨j, e', h4, h5, h6⟩
      · exact .inl h
      · exact .inr ⟨j + 1, e', h4, h5, by rw [h6, Nat.add_assoc, Nat.add_comm 1 j]⟩
theorem mapT91 : ptrKeyT Try.prog 91 = true ∧ Try.prog.underlying 91 = some (.map 119 52) ∧ zeroV Try.prog 52 = some (.slice none 0 0) := by
  refine ⟨?_, ?_, ?_⟩ <;> kernel_rfl
section
variable {c : Hc} {u : Nat → Prop} {h : AH} {p o a : Nat} {md : Mdl}
theorem PM.lw (m : MI c u h) (pm : PM c p o md) : lwO h[p]? = true := by
  obtain ⟨cc, g, hp, _⟩ := pm
  rw [m.x.some g hp]
  rfl
theorem ents_ok (m : MI c u h) {es : List Go.AM.Ent} (he : ∀ e ∈ es, Ent c u h e) : ∀ e ∈ es, ∃ q', keyP e.1 = some q' ∧ lwO (h[q'.1]?) = true := by
  intro e hm
  obtain ⟨p, o, a, md, i, h1, h2, _⟩ := he e hm
  exact ⟨(p, o, (a : Int)), by rw [h1]; rfl, PM.lw m h2⟩
theorem Ent.of {e : Go.AM.Ent} (h1 : Ent c u h e) (h2 : keyP e.1 = some (p, o, ((a : Nat) : Int))) (pm : PM c p o md) : ∃ i, u i ∧ BR h i c.w.length e.2.1 (Rw c md a) := by
  obtain ⟨p', o', a', md', i, g1, g2, g3, g4, g5⟩ := h1
  rw [g1] at h2
  have h2 : some (p', o', ((a' : Nat) : Int)) = some (p, o, ((a : Nat) : Int)) := h2
  simp only [Option.some.injEq, Prod.mk.injEq] at h2
  obtain ⟨rfl, rfl, h2⟩ := h2
  have h2 : a' = a := by omega
  subst h2
  rw [PM.fn pm g2]
  exact ⟨i, g4, g5⟩
theorem look91 (m : MI c u h) (pm : PM c p o md) {K : Value → Prop} (hit : ∀ v i, u i → BR h i c.w.length v (Rw c md a) → K (.tuple #[v, .bool true])) (miss : ∀ z, K (.tuple #[z, .bool false])) :
    optW (pLook Try.prog 91 (.map (some c.M)) (.agg #[.pointer (some ⟨p, o, none⟩), .int .i64 (a : Nat)]) true h) K := by
  obtain ⟨es, ck, g, he⟩ := m.map
  unfold pLook
  rw [mapT91.1]
  dsimp only
  unfold pLookupP
  rw [mapT91.2.1]
  have hk : keyP (.agg #[.pointer (some ⟨p, o, none⟩), .int .i64 ((a : Nat) : Int)]) = some (p, o, ((a : Nat) : Int)) := rfl
  have hg : entsG (.map (some c.M)) (fun i => h[i]?) = some es := by
    show (match h[c.M]? with | some (.map es _) => some es | _ => none) = _
    rw [g]
  rw [hk, hg]
  dsimp only
  rw [mapT91.2.2, PM.lw m pm]
  dsimp only
  rcases findP_spec (look := fun i => h[i]?) (q := (p, o, ((a : Nat) : Int))) es 0 (ents_ok m he) with h1 | ⟨j, e, h1, h2, h3⟩
  · rw [h1]
    exact miss _
  · rw [h3]
    obtain ⟨i, h4, h5⟩ := Ent.of (he e (List.mem_of_getElem? h1)) h2 pm
    exact hit _ i h4 h5
theorem upd91 (ok : HcOK c) (m : MI c u h) (pm : PM c p o md) (ha : a ≤ c.w.length) {v : Value} {i : Nat} (hi : c.h0.length ≤ i) (b : BR h i c.w.length v (Rw c md a)) {K : AH → Prop}
    (k : ∀ h', Exx c.M h h' → h'.length = h.length → MI c (fun j => u j ∨ j = i) h' → BR h' i c.w.length v (Rw c md a) → K h') :
    optW (pMapU Try.prog 91 (.map (some c.M)) (.agg #[.pointer (some ⟨p, o, none⟩), .int .i64 (a : Nat)]) v h) K := by
  obtain ⟨es, ck, g, he⟩ := m.map
  have hM := ok.M
  have hl := m.x.len
  have hk : keyP (.agg #[.pointer (some ⟨p, o, none⟩), .int .i64 ((a : Nat) : Int)]) = some (p, o, ((a : Nat) : Int)) := rfl
  have fin : ∀ (es' : List Go.AM.Ent) (ck' : Nat), (∀ e ∈ es', e ∈ es ∨ (keyP e.1 = some (p, o, ((a : Nat) : Int)) ∧ (∃ e0 ∈ es, e.1 = e0.1) ∧ e.2.1 = v) ∨ (e.1 = .agg #[.pointer (some ⟨p, o, none⟩), .int .i64 ((a : Nat) : Int)] ∧ e.2.1 = v)) → K (h.set c.M (.map es' ck')) := by
    intro es' ck' hes
    have x' : Exx c.M h (h.set c.M (.map es' ck')) := ⟨by simp, fun j hj hji => get_ne (Ne.symm hji) _⟩
    have l' : (h.set c.M (.map es' ck')).length = h.length := by simp
    have gM : (h.set c.M (.map es' ck'))[c.M]? = some (.map es' ck') := get_set _ (by omega) _
    generalize h.set c.M (.map es' ck') = h' at *
    have b' := b.keep (x'.get i b.lt (by omega))
    refine k h' x' l' ⟨m.x.trans x', ⟨es', ck', gM, fun e hm => ?_⟩, fun j hj => ?_⟩ b'
    · rcases hes e hm with h1 | ⟨h1, ⟨e0, h2, h3⟩, h4⟩ | ⟨h1, h4⟩
      · obtain ⟨p', o', a', md', i', g1, g2, g3, g4, g5⟩ := he e h1
        exact ⟨p', o', a', md', i', g1, g2, g3, .inl g4, g5.keep (x'.get i' g5.lt (fun e => by have := (m.ub i' g4).1; omega))⟩
      · obtain ⟨p', o', a', md', i', g1, g2, g3, g4, g5⟩ := he e0 h2
        rw [← h3] at g1
        rw [g1] at h1
        have h1 : some (p', o', ((a' : Nat) : Int)) = some (p, o, ((a : Nat) : Int)) := h1
        simp only [Option.some.injEq, Prod.mk.injEq] at h1
        obtain ⟨rfl, rfl, h1⟩ := h1
        have h1 : a' = a := by omega
        subst h1
        exact ⟨p', o', a', md, i, g1, pm, ha, .inr rfl, by rw [h4]; exact b'⟩
      · exact ⟨p, o, a, md, i, h1, pm, ha, .inr rfl, by rw [h4]; exact b'⟩
    · rcases hj with hj | rfl
      · have := m.ub j hj; omega
      · have := b.lt; omega
  unfold pMapU
  rw [mapT91.1]
  dsimp only
  have hu : ∀ {x : Nat × AObj}, pMapUpdP Try.prog 91 (.map (some c.M)) (.agg #[.pointer (some ⟨p, o, none⟩), .int .i64 ((a : Nat) : Int)]) v (fun i => h[i]?) = some x → K (h.set x.1 x.2) → optW ((pMapUpdP Try.prog 91 (.map (some c.M)) (.agg #[.pointer (some ⟨p, o, none⟩), .int .i64 ((a : Nat) : Int)]) v (fun i => h[i]?)).map fun u => h.set u.1 u.2) K := by
    intro x hx hK
    rw [hx]
    exact hK
  have hpu : pMapUpdP Try.prog 91 (.map (some c.M)) (.agg #[.pointer (some ⟨p, o, none⟩), .int .i64 ((a : Nat) : Int)]) v (fun i => h[i]?) = match findP (fun i => h[i]?) (p, o, ((a : Nat) : Int)) es 0 with
      | some (some (i, _)) => some (c.M, .map (es.modify i fun e => (e.1, v, e.2.2)) ck)
      | some none => some (c.M, .map (es ++ [(.agg #[.pointer (some ⟨p, o, none⟩), .int .i64 ((a : Nat) : Int)], v, ck)]) (ck + 1))
      | none => none := by
    unfold pMapUpdP
    rw [mapT91.2.1, hk]
    dsimp only
    rw [g, PM.lw m pm]
    rfl
  rcases findP_spec (look := fun i => h[i]?) (q := (p, o, ((a : Nat) : Int))) es 0 (ents_ok m he) with h1 | ⟨j, e, h1, h2, h3⟩
  · rw [h1] at hpu
    refine hu hpu (fin _ _ fun e hm => ?_)
    rcases List.mem_append.1 hm with hm | hm
    · exact .inl hm
    · rw [List.mem_singleton] at hm
      subst hm
      exact .inr (.inr ⟨rfl, rfl⟩)
  · rw [h3] at hpu
    refine hu hpu (fin _ _ fun e' hm => ?_)
    obtain ⟨y, hy⟩ := List.mem_iff_getElem?.1 hm
    rw [Nat.zero_add, List.getElem?_modify] at hy
    by_cases ej : j = y
    · subst ej
      rw [h1] at hy
      simp at hy
      subst hy
      exact .inr (.inl ⟨h2, ⟨e, List.mem_of_getElem? h1, rfl⟩, rfl⟩)
    · refine .inl (List.mem_of_getElem? (i := y) ?_)
      cases hz : es[y]? with
      | none => rw [hz] at hy; cases hy
      | some z =>
        rw [hz] at hy
        simpa [ej] using hy
end
end Go.Proofs.Ytlenlhlipmkeeaa.W
end

section
/- Schema's laws: the document's reader: its words. Conditions: none. -/
namespace Go.Proofs.Ytlenlhlipmkeeaa.W
open Go Go.AM SchM
set_option linter.unusedVariables false
set_option maxRecDepth 100000
def rrow (s : W) (P e a D : Int) : List Value := [.string (bs s), .int .i64 P, .int .i64 e, .int .i64 a, .int .i64 D]
end Go.Proofs.Ytlenlhlipmkeeaa.W
end

section
/- Schema's laws: the document's reader: signs are taken. Conditions: none. -/
namespace Go.Proofs.Ytlenlhlipmkeeaa.W
open Go Go.AM SchM
set_option linter.unusedVariables false
set_option maxRecDepth 100000
structure RO (h : AH) (X : Nat) (s : W) (P D : Nat) : Prop where
  g : h[X]? = some (.row (rrow s P 0 0 D) true)
  p : P ≤ s.length
structure RE (h : AH) (X : Nat) (s : W) (D : Nat) (e : Int) (a : Nat) : Prop where
  g : ∃ P : Nat, h[X]? = some (.row (rrow s P e a D) true) ∧ P ≤ s.length
  e : e ≠ 0
theorem RO.ex {h h' : AH} {X : Nat} {s : W} {P D : Nat} (r : RO h X s P D) (x : Ex h h') : RO h' X s P D := ⟨x.some r.g, r.p⟩
theorem RE.ex {h h' : AH} {X : Nat} {s : W} {D : Nat} {e : Int} {a : Nat} (r : RE h X s D e a) (x : Ex h h') : RE h' X s D e a := by
  obtain ⟨P, g, hP⟩ := r.g
  exact ⟨⟨P, x.some g, hP⟩, r.e⟩
def Tk (w : W) (x : W × UInt8) : Prop := (x = (w, 0) ∧ 2 ≤ w.length ∧ w ≠ noneAt) ∨ ∃ c, w = [c] ∧ x = ([], c) ∧ low c = false ∧ c ≠ 0
section
variable {h : AH} {X P D : Nat} {s : W} {K : Value → AH → Prop}
end
end Go.Proofs.Ytlenlhlipmkeeaa.W
end

section
/- Schema's laws: the document's reader: rows of models. Conditions: none. -/
namespace Go.Proofs.Ytlenlhlipmkeeaa.W
open Go Go.AM SchM
set_option linter.unusedVariables false
set_option maxRecDepth 100000
end Go.Proofs.Ytlenlhlipmkeeaa.W
end

section
/- Schema's laws: the document's reader: models. Conditions: none. -/
namespace Go.Proofs.Ytlenlhlipmkeeaa.W
open Go Go.AM SchM
set_option linter.unusedVariables false
set_option maxRecDepth 100000
end Go.Proofs.Ytlenlhlipmkeeaa.W
end

section
/- Schema's laws: the document's reader: models, all of them. Conditions: none. -/
namespace Go.Proofs.Ytlenlhlipmkeeaa.W
open Go Go.AM SchM
set_option linter.unusedVariables false
set_option maxRecDepth 100000
end Go.Proofs.Ytlenlhlipmkeeaa.W
end

section
/- Schema's laws: the document's reader: elements. Conditions: none. -/
namespace Go.Proofs.Ytlenlhlipmkeeaa.W
open Go Go.AM SchM
set_option linter.unusedVariables false
set_option maxRecDepth 100000
theorem tkE : Tk wElement (wElement, 0) := .inl ⟨rfl, by decide, by decide⟩
end Go.Proofs.Ytlenlhlipmkeeaa.W
end

section
/- Schema's laws: the program's Parse: how a schema is read. Conditions: none. -/
namespace Go.Proofs.Ytlenlhlipmkeeaa.W
open Go Go.AM SchM
set_option linter.unusedVariables false
set_option maxRecDepth 100000
def PR (h0 h' : AH) (r : R (W × List (W × Mdl))) (v : Value) : Prop :=
  match r with
  | .bad e a => v = .tuple #[.agg #[.string (bs []), .slice none 0 0], .int .i64 (a : Nat), .int .i64 e]
  | .ok x _ => ∃ a c cs, v = .tuple #[.agg #[.string (bs x.1), .slice a x.2.length c], .int .i64 0, .int .i64 0] ∧ Sl 4 h' (.slice a x.2.length c) x.2.length cs ∧ EL h' (fun j => h0.length ≤ j ∧ j < h'.length) x.2 cs
def PRW (h0 h' : AH) (r : R (W × List (W × Mdl))) (v : Value) : Prop :=
  match r with
  | .bad e a => v = .tuple #[.agg #[.string (bs []), .slice none 0 0], .int .i64 (a : Nat), .int .i64 e]
  | .ok x _ => ∃ a c cs, v = .tuple #[.agg #[.string (bs x.1), .slice a x.2.length c], .int .i64 0, .int .i64 0] ∧ Sl 4 h' (.slice a x.2.length c) x.2.length cs ∧ (∀ j, onId (.slice a x.2.length c) j → (h0.length ≤ j ∧ j < h'.length) ∧ Wr h' j) ∧ EL h' (fun j => ((h0.length ≤ j ∧ j < h'.length) ∧ Wr h' j) ∧ ¬ onId (.slice a x.2.length c) j) x.2 cs
theorem PRW.pr {h0 h' : AH} {r : R (W × List (W × Mdl))} {v : Value} (p : PRW h0 h' r v) : PR h0 h' r v := by
  cases r with
  | bad e a => exact p
  | ok x q =>
    obtain ⟨a, c, cs, e, sl, on, el⟩ := p
    exact ⟨a, c, cs, e, sl, EL.mono (fun j hj => ⟨rfl, hj.1.1⟩) _ _ el⟩
def ER (h4 : AH) (T X O : Nat) (s : W) (h : AH) : Prop := ∃ F er a w vl, PE h X F s 0 er a ∧ (∀ j, F j → j < h.length) ∧ BS h4 T X O h F w vl ∧ parse s = .bad er a
theorem ER.ex {h4 h h' : AH} {T X O : Nat} {s : W} (r : ER h4 T X O s h) (x : Ex h h') : ER h4 T X O s h' := by
  obtain ⟨F, er, a, w, vl, r, fb, b, hp⟩ := r
  exact ⟨F, er, a, w, vl, r.ex x, fun j hj => x.lt (fb j hj), b.ex x, hp⟩
theorem errEnd {h0 h4 h : AH} {T X O : Nat} {s : W} {E : Value → Value → Value → Value → Value → Value → Value → Env} {K : Value → AH → Prop} (b4 : B4 h0 h4 T X O) (r : ER h4 T X O s h) (e2 : ∀ a b c d e f g, E a b c d e f g 2 = .pointer (some ⟨T, 0, none⟩)) (e3 : ∀ a b c d e f g, E a b c d e f g 3 = d) (e4 : ∀ a b c d e f g, E a b c d e f g 4 = g) (k : ∀ h' v, Ex h0 h' → PRW h0 h' (parse s) v → K v h') :
    optW (bld [(.string (bs [])), (.slice none 0 0)] [(0, 1), (1, 1)] []) fun v75 => optW (pNilCheck (.pointer (some ⟨X, 0, none⟩))) fun v77 => optW (pOff 7 v77) fun v78 => optW (rdRow false 1 v78 h) fun v79 => optW (pNilCheck (.pointer (some ⟨X, 0, none⟩))) fun v81 => optW (pOff 6 v81) fun v82 => optW (rdRow false 1 v82 h) fun v83 => optW (pStore 2 (.pointer (some ⟨T, 0, none⟩)) v75 h) fun h_17 =>
      (∀ x ∈ (ceOf 1 v82), vw x (h) = vw x (h_17)) ∧ (∀ x ∈ (ceOf 1 v78), vw x (h) = vw x (h_17)) ∧ optW (resList Try.prog (E v75 v77 v78 v79 v81 v82 v83) h_17 Try.f17.results.toList) fun vs => K (resOf vs) h_17 := by
  obtain ⟨F, er, a, w, vl, r, fb, b, hp⟩ := r
  obtain ⟨wE, frE, atE, cE, vnE, gE, oE⟩ := r.row
  refine w_some (v := .agg #[.string (bs []), .slice none 0 0]) rfl ?_
  refine w_nilc (w_offP (w_rdP gE (v := .int .i64 a) rfl (w_nilc (w_offP (w_rdP gE (v := .int .i64 er) rfl ?_)))))
  have gT := b.t b4
  refine w_stPA gT rfl (Nat.le_refl 2) rfl ?_
  refine ⟨ptr_id (get_ne b4.tX _), ptr_id (get_ne b4.tX _), ?_⟩
  refine endP (r := T) (h0 := h) (w := []) (a := none) (l := 0) (c := 0) (e2 _ _ _ _ _ _ _) (e3 _ _ _ _ _ _ _) (e4 _ _ _ _ _ _ _) rfl (lt_of_get gT) ?_
  refine k _ _ ((b.toEx b4).set b4.bT _) ?_
  rw [hp]
  rfl
theorem callK {f : FuncId} {args : List Value} {h : AH} {K K' : Value → AH → Prop} (hk : callW Try.prog f args h K) (hm : ∀ v h, K v h → K' v h) : callW Try.prog f args h K' := callW_mono _ _ _ _ _ hm hk
set_option maxHeartbeats 400000 in
theorem parse17w {h : AH} {s : W} {K : Value → AH → Prop} (hl : s.length < 1000000000) (k : ∀ h' v, Ex h h' → PRW h h' (parse s) v → K v h') : callW Try.prog 17 [.string (bs s)] h K := by
  refine c17 ?_
  unfold s17
  refine n_rowv fun h1 x1 l1 g1 => ?_
  refine w_lenStr (w_gtr (c_dec (fun q => ?_) (fun q => ?_)))
  · refine w_some (v := .agg #[.string (bs []), .slice none 0 0]) rfl ?_
    refine w_stPA g1 rfl (Nat.le_refl 2) rfl ?_
    refine endP (r := h.length) (h0 := h1) (w := []) (a := none) (l := 0) (c := 0) rfl rfl rfl rfl (by omega) ?_
    refine k _ _ (x1.set (Nat.le_refl _) _) ?_
    unfold parse
    rw [if_pos (by omega)]
    rfl
  have hs : s.length ≤ 2000 := by omega
  refine w_some (v := .agg #[.string (bs s), .int .i64 0, .int .i64 0, .string (bs []), .int .u8 0, .int .i64 0, .int .i64 0, .int .i64 0, .slice none 0 0]) rfl ?_
  refine n_boxv rfl fun h3 x3 l3 g3 => ?_
  refine n_rowv fun h4 x4 l4 g4 => ?_
  have gX : h4[h1.length]? = some (.row (prow s [] 0 ((0 : Nat) : Int) 0 0 0 0 (.slice none 0 0)) true) := x4.some g3
  have b4 : B4 h h4 h.length h1.length h3.length := ⟨(x1.trans x3).trans x4, (x3.trans x4).some g1, by omega, by omega, by omega, by omega, by omega, Nat.le_refl _, by omega, by omega⟩
  have sB : BS h4 h.length h1.length h3.length h4 (At h1.length) [] (.slice none 0 0) := ⟨Chg.refl _ _, fun e => b4.xO e.symm, g4⟩
  clear g1 g3 g4 l1 l3 l4
  generalize h.length = T at *
  generalize h1.length = X at *
  generalize h3.length = O at *
  refine next32 (at_ := 0) gX hs (Nat.zero_le _) fun h5 c5 g5 => ?_
  have r5 : PO h5 X (At X) s (skip s 0) 0 [] := ⟨⟨_, g5, OwnG.nil _ _ _⟩, Nat.zero_le _, (skip_le s 0 (Nat.zero_le _)).2, rfl, fun j hj => by have : j = X := hj; rw [this]; exact lt_of_get g5⟩
  have s5 := sB.chg c5
  clear sB gX c5 g5
  generalize hp0 : skip s 0 = p0 at r5
  have parseO : sgn s p0 = (wRoot, 0) → isName (sgn s (adv s p0)).1 = true → sgn s (adv s (adv s p0)) = ([], 59) → parse s = finish (sgn s (adv s p0)).1 (elems s (s.length + 1) (adv s (adv s (adv s p0))) []) := fun a b c => by
    unfold parse
    rw [if_neg (by omega), hp0, if_pos a, if_pos b, if_pos c]
  refine w_some (v := .agg (eSg (wRoot, 0)).toArray) rfl ?_
  have hm : callW Try.prog 33 [.pointer (some ⟨X, 0, none⟩), .agg (eSg (wRoot, 0)).toArray] h5 fun v h6 => (∃ F, PO h6 X F s (adv s p0) 0 [] ∧ BS h4 T X O h6 F [] (.slice none 0 0) ∧ sgn s p0 = (wRoot, 0)) ∨ ER h4 T X O s h6 := by
    refine mustO (x := (wRoot, 0)) r5 hs (fun q6 h6 c6 r6 => .inl ⟨_, r6, s5.chg c6, q6⟩) (fun q6 h6 c6 r6 => .inr ⟨_, 1, p0, _, _, r6, fun j hj => Nat.lt_of_lt_of_le (r5.fb j hj) c6.len, s5.chg c6, ?_⟩)
    unfold parse
    rw [if_neg (by omega), hp0, if_neg q6]
  refine callK hm ?_
  clear hm r5 s5 h5
  intro v6 h6 inv0
  refine joinE_intro (fun e h7 => e 2 = .pointer (some ⟨T, 0, none⟩) ∧ e 5 = .pointer (some ⟨X, 0, none⟩) ∧ e 6 = .pointer (some ⟨O, 0, none⟩) ∧ ((∃ F, PO h7 X F s (adv s p0) 0 [] ∧ BS h4 T X O h7 F (sgn s (adv s p0)).1 (.slice none 0 0) ∧ sgn s p0 = (wRoot, 0) ∧ isName (sgn s (adv s p0)).1 = true) ∨ ER h4 T X O s h7)) ?_ ?_
  rotate_left
  · intro J hJ
    rcases inv0 with ⟨F, r6, s6, q6⟩ | er
    · obtain ⟨vn, g6, _⟩ := r6.row
      refine w_nilc (w_offP (w_rdP g6 (v := .int .i64 0) rfl (w_eql (c_tt rfl ?_))))
      refine nameO r6 (fun hn h7 x7 => ?_) (fun hn h7 c7 r7 => ?_)
      · have s7 := s6.ex x7
        refine w_offP (w_stP s7.o (by show 0 + 0 < 2; decide) rfl rfl ?_)
        exact hJ _ _ ⟨rfl, rfl, rfl, .inl ⟨F, (r6.ex x7).setO s7.nO _, s7.setO _ _, q6, hn⟩⟩
      · have s7 := s6.chg c7
        refine w_offP (w_stP s7.o (by show 0 + 0 < 2; decide) rfl rfl ?_)
        refine hJ _ _ ⟨rfl, rfl, rfl, .inr ⟨F, 1, adv s p0, _, _, r7.setNew (fun e => s7.nO (by rw [e]; exact r7.X)) _, fun j hj => by rw [List.length_set]; exact Nat.lt_of_lt_of_le (r6.fb j hj) c7.len, s7.setO _ _, ?_⟩⟩
        unfold parse
        rw [if_neg (by omega), hp0, if_pos q6, if_neg (by rw [hn]; decide)]
    · have er' := er
      obtain ⟨F, er, a, w, vl, r, fb, b, hp⟩ := er
      obtain ⟨wE, frE, atE, cE, vnE, gE, oE⟩ := r.row
      refine w_nilc (w_offP (w_rdP gE (v := .int .i64 er) rfl (w_eql (c_ff r.e ?_))))
      exact hJ _ _ ⟨rfl, rfl, rfl, .inr er'⟩
  clear inv0 h6
  rintro e h7 ⟨e2, e5, e6, inv⟩
  rw [e5, e6]
  refine joinE_intro (fun e h8 => e 2 = .pointer (some ⟨T, 0, none⟩) ∧ e 5 = .pointer (some ⟨X, 0, none⟩) ∧ e 6 = .pointer (some ⟨O, 0, none⟩) ∧ ((∃ F, PO h8 X F s (adv s (adv s p0)) 0 [(sgn s (adv s p0)).1] ∧ BS h4 T X O h8 F (sgn s (adv s p0)).1 (.slice none 0 0) ∧ sgn s p0 = (wRoot, 0) ∧ isName (sgn s (adv s p0)).1 = true) ∨ ER h4 T X O s h8)) ?_ ?_
  rotate_left
  · intro J hJ
    rcases inv with ⟨F, r7, s7, q6, hn⟩ | er
    · obtain ⟨vn, g7, o7⟩ := r7.row
      refine w_nilc (w_offP (w_rdP g7 (v := .int .i64 0) rfl (w_eql (c_tt rfl ?_))))
      have xr := Ex.res h7
      refine w_nilc (w_offP (w_rdP (xr.some g7) (v := vn) rfl (w_offP (w_rdP (xr.some s7.o) (v := .string (bs (sgn s (adv s p0)).1)) rfl ?_))))
      refine optW_mono (fun c hc => n_res hc) ?_
      refine appName (w := (sgn s (adv s p0)).1) hs r7 (fun e => by rw [e] at hn; exact absurd hn (by decide)) g7 o7 fun h8 F8 c8 r8 _ _ _ _ _ _ => ?_
      exact hJ _ _ ⟨e2, e5, e6, .inl ⟨F8, r8, s7.chg c8, q6, hn⟩⟩
    · have er' := er
      obtain ⟨F, er, a, w, vl, r, fb, b, hp⟩ := er
      obtain ⟨wE, frE, atE, cE, vnE, gE, oE⟩ := r.row
      refine w_nilc (w_offP (w_rdP gE (v := .int .i64 er) rfl (w_eql (c_ff r.e ?_))))
      exact hJ _ _ ⟨e2, e5, e6, .inr er'⟩
  clear inv e2 e5 e6 e h7
  rintro e h8 ⟨e2, e5, e6, inv⟩
  rw [e5]
  refine w_some (v := .agg (eSg ([], 59)).toArray) rfl ?_
  have hm : callW Try.prog 33 [.pointer (some ⟨X, 0, none⟩), .agg (eSg ([], 59)).toArray] h8 fun v h9 => (∃ F, PO h9 X F s (adv s (adv s (adv s p0))) 0 [(sgn s (adv s p0)).1] ∧ BS h4 T X O h9 F (sgn s (adv s p0)).1 (.slice none 0 0) ∧ sgn s p0 = (wRoot, 0) ∧ isName (sgn s (adv s p0)).1 = true ∧ sgn s (adv s (adv s p0)) = ([], 59)) ∨ ER h4 T X O s h9 := by
    rcases inv with ⟨F, r8, s8, q6, hn⟩ | er
    · refine mustO (x := ([], 59)) r8 hs (fun q9 h9 c9 r9 => .inl ⟨_, r9, s8.chg c9, q6, hn, q9⟩) (fun q9 h9 c9 r9 => .inr ⟨_, 1, adv s (adv s p0), _, _, r9, fun j hj => Nat.lt_of_lt_of_le (r8.fb j hj) c9.len, s8.chg c9, ?_⟩)
      unfold parse
      rw [if_neg (by omega), hp0, if_pos q6, if_pos hn, if_neg q9]
    · have er' := er
      obtain ⟨F, er, a, w, vl, r, fb, b, hp⟩ := er
      exact mustE (x := ([], 59)) r fun h9 x9 => .inr (er'.ex x9)
  refine callK hm ?_
  clear hm inv
  intro v9 h9 inv
  let IV : Nat → AH → Prop := fun mm h' => (∃ (F : Nat → Prop) (k : Nat) (l : List (W × Mdl)) (q : Nat) (vl : Value), mm = k + 1 ∧ PO h' X F s q 0 ((sgn s (adv s p0)).1 :: nmsE l) ∧ BS h4 T X O h' F (sgn s (adv s p0)).1 vl ∧ LE h4.length h' F vl l ∧ l.length ≤ q ∧ s.length < q + k ∧ l.length ≤ 8 ∧
          parse s = finish (sgn s (adv s p0)).1 (elems s k q l)) ∨ (mm = 0 ∧ ER h4 T X O s h')
  have hI : ∃ m0, IV m0 h9 := by
    rcases inv with ⟨F, r9, s9, q6, hn, q9⟩ | er
    · exact ⟨s.length + 2, .inl ⟨F, s.length + 1, [], _, _, rfl, r9, s9, ⟨⟨[], OwnG.nil _ _ _, rfl⟩⟩, Nat.zero_le _, by omega, Nat.zero_le _, parseO q6 hn q9⟩⟩
    · exact ⟨0, .inr ⟨rfl, er⟩⟩
  obtain ⟨m0, hI⟩ := hI
  refine loopE_intro (fun mm e h' => e 2 = .pointer (some ⟨T, 0, none⟩) ∧ e 5 = .pointer (some ⟨X, 0, none⟩) ∧ e 6 = .pointer (some ⟨O, 0, none⟩) ∧ IV mm h') m0 ⟨e2, e5, e6, hI⟩ ?_
  clear hI inv e2 e5 e6
  clear e h8 h9 m0
  rintro I mm e h11 ⟨e2, e5, e6, inv⟩ ih
  rw [e2, e5, e6]
  refine w_some (v := .agg (eSg (wElement, 0)).toArray) rfl ?_
  rcases inv with ⟨F, k0, l, q0, vl, hmm, r11, s11, L11, hlq, hk, hl8, hparse⟩ | ⟨hmm, er⟩
  · have hq0 := r11.p
    have hk0 : 0 < k0 := by omega
    obtain ⟨k1, rfl⟩ : ∃ k1, k0 = k1 + 1 := ⟨k0 - 1, by omega⟩
    refine takesO (x := (wElement, 0)) r11 hs (fun qe h12 c12 r12 => c_t ?_) (fun qe h12 x12 => c_f ?_)
    · -- an element
      have s12 := s11.chg c12
      have L12 := L11.chg c12
      rw [elems_step qe] at hparse
      have xr := Ex.res h12
      have lr : (reserve 1 h12).length = h12.length + 1 := by rw [reserve_one]; simp
      have hadv := adv_gt hq0 (by rw [qe]; decide)
      refine w_offP (w_rdP (xr.some s12.o) (v := vl) rfl (w_offP (w_rdP (xr.some s12.o) (v := vl) rfl ?_)))
      have hvF : ∀ j, onId vl j → ¬ F j ∧ j < (reserve 1 h12).length := fun j hj => ⟨(L12.on hj).2.2.1, xr.lt (L12.on hj).2.1⟩
      have lO12 := lt_of_get s12.o
      have appE : ∀ (h13 : AH) (F13 : Nat → Prop) (w n' : W) (k' : Int) (a' : Option Addr) (l' c' : Nat) (Q : List Value → Nat → Value → Value → AH → Prop), Chg F (reserve 1 h12) F13 h13 → (∀ j, F13 j → j < h13.length) →
          (∀ v' cs h14 h16 c i q, h14 = h13.set h12.length (.row [.string (bs w), .int .i64 k', .string (bs n'), .slice a' l' c'] true) → isSl v' → OwnG 4 (Gd h4.length h14 F13) h14 vl l.length cs → EL h14 (fun j => Gd h4.length h14 F13 j ∧ ¬ onId vl j) l cs → BS h4 T X O h16 F13 (sgn s (adv s p0)).1 v' → (∀ j, j < h14.length → ¬ onId vl j → j ≠ O → h16[j]? = h14[j]?) → h14.length ≤ h16.length → (∀ j, onId v' j → onId vl j ∨ j = h14.length) → OwnG 4 (Gd h4.length h16 F13) h16 v' (l.length + 1) (cs ++ [.string (bs w), .int .i64 k', .string (bs n'), .slice a' l' c']) → Q c i v' q h16) →
          (∀ x ∈ (ceOf 1 (.pointer (some ⟨O, 0 + 1, none⟩))), vw x ((reserve 1 h12)) = vw x (h13)) ∧
          optW (bldSl 4 [(.string (bs [])), (.int .i64 0), (.string (bs [])), (.slice none 0 0)] 1 [(0, .agg #[.string (bs w), .int .i64 k', .string (bs n'), .slice a' l' c'])]) fun c => newW (some (h12.length)) (.row c true) h13 fun i h_13 => appSl 4 vl (.slice (some ⟨i, 0, none⟩) 1 1) h_13 fun v60 h_14 => optW (pOff 1 (.pointer (some ⟨O, 0, none⟩))) fun v61 => optW (pStore 1 v61 v60 h_14) fun h_15 => Q c i v60 v61 h_15 := by
        intro h13 F13 w n' k' a' l' c' Q c13 fb13 kk
        refine ⟨ptr_id (c13.get O (xr.lt lO12) s12.nO), ?_⟩
        refine w_some (bldSl_one (v := .agg #[.string (bs w), .int .i64 k', .string (bs n'), .slice a' l' c']) rfl (by decide) rfl rfl) ?_
        refine n_slot ?_
        have l13 := c13.len
        have nf13 : ¬ F13 h12.length := fun hf => (c13.dom _ hf).elim (fun hf => by have := r12.fb _ hf; omega) (by omega)
        have c14 := ((Chg.ex (F := F) xr).trans c13).setNew (i := h12.length) (Nat.le_refl _) (.row [.string (bs w), .int .i64 k', .string (bs n'), .slice a' l' c'] true)
        have g14 : (h13.set h12.length (.row [.string (bs w), .int .i64 k', .string (bs n'), .slice a' l' c'] true))[h12.length]? = some (.row [.string (bs w), .int .i64 k', .string (bs n'), .slice a' l' c'] true) := get_set _ (by omega) _
        have l14 : (h13.set h12.length (.row [.string (bs w), .int .i64 k', .string (bs n'), .slice a' l' c'] true)).length = h13.length := List.length_set
        have kk' := fun v' cs h16 c i q => kk v' cs _ h16 c i q rfl
        clear kk
        show appSl 4 vl _ (h13.set h12.length (.row [.string (bs w), .int .i64 k', .string (bs n'), .slice a' l' c'] true)) _
        generalize h13.set h12.length (.row [.string (bs w), .int .i64 k', .string (bs n'), .slice a' l' c'] true) = h14 at c14 g14 l14 kk' ⊢
        have s14 := s12.chg c14
        obtain ⟨cs, o14, e14⟩ := (L12.chg c14).ex
        refine appSl_of ?_
        refine app_g (by decide) o14 (srcL_new (n := 1) (s := 4) g14 (by decide) rfl) rfl (by have := bigR3; omega) fun v' h15 a1 a2 a3 a4 => ?_
        have nvO : ¬ onId vl O := fun hon => by have := (o14.on hon).1.1; have := b4.lO; omega
        have gO := (a3 O (lt_of_get s14.o) nvO).trans s14.o
        obtain ⟨sa, sn, sc, rfl⟩ := Sl.isSl a1.sl
        refine w_offP (w_stP gO (by show 0 + 1 < 2; decide) rfl rfl ?_)
        have l16 : (h15.set O (.row ([Value.string (bs (sgn s (adv s p0)).1), vl].set (0 + 1) (.slice sa sn sc)) true)).length = h15.length := List.length_set
        have n16 : ∀ j, j ≠ O → (h15.set O (.row ([Value.string (bs (sgn s (adv s p0)).1), vl].set (0 + 1) (.slice sa sn sc)) true))[j]? = h15[j]? := fun j hj => get_ne (Ne.symm hj) _
        refine kk' (.slice sa sn sc) cs _ _ _ _ ⟨sa, sn, sc, rfl⟩ o14 e14 ⟨⟨by have := s14.c.len; omega, fun j hj hn => ?_, s14.c.dom⟩, s14.nO, get_set _ (lt_of_get gO) _⟩ (fun j hj hno hO => (n16 j hO).trans (a3 j hj hno)) (by omega) a4 ?_
        · have hjO : j ≠ O := fun e => hn (.inr e)
          refine (n16 j hjO).trans ((a3 j (by have := s14.c.len; omega) fun hon => by have := (o14.on hon).1.1; omega).trans (s14.c.get j hj hn))
        · refine a1.mono (fun j hj hF => ?_) fun j hj hF => ?_
          · have hj' := (a1.on hj).2
            rcases hF with hF | rfl
            · exact ⟨hF.1, by omega, hF.2.2.1, (ownG_wr a1 hj).keep (n16 j fun e => by have := b4.lO; have := s14.c.len; have := hF.1; omega)⟩
            · exact ⟨by have := s14.c.len; omega, by omega, fun hf => by have := fb13 _ hf; omega, (ownG_wr a1 hj).keep (n16 _ fun e => by have := b4.lO; have := s14.c.len; omega)⟩
          · refine n16 j fun e => ?_
            have := b4.lO
            have := s14.c.len
            rcases hF with hF | rfl
            · have := hF.1; omega
            · omega
      refine elem36 hs (r12.ex xr) (L12.nm.ext xr) hvF (by rw [List.length_map]; omega) (fun k' n' a' l' c' h13 F13 w m q he c13 r13 m13 => ?_) (fun v h13 F13 er a he c13 r13 fb13 m13 => ?_)
      · have hlt := elem_lt he
        rw [List.length_map] at hlt
        have hup := elem_up r12.p he
        rw [he] at hparse
        dsimp only at hparse
        refine appE h13 F13 w n' k' a' l' c' _ c13 r13.fb fun v' cs h14 h16 _ _ _ e14 sv' o14 el14 s16 same16 len16 ids16 o16 => ?_
        have l13 := c13.len
        have nf13 : ¬ F13 h12.length := fun hf => (c13.dom _ hf).elim (fun hf => by have := r12.fb _ hf; omega) (by omega)
        have r14 := r13.setNew nf13 (.row [.string (bs w), .int .i64 k', .string (bs n'), .slice a' l' c'] true)
        have m14 := m13.setNew (i := h12.length) (fun hg => by have := hg.1; omega) (.row [.string (bs w), .int .i64 k', .string (bs n'), .slice a' l' c'] true)
        rw [← e14] at r14 m14
        have nFv : ∀ j, F13 j → ¬ onId vl j := fun j hf hon => (o14.on hon).1.2.2.1 hf
        have lb := s16.c.len
        have lOb := b4.lO
        have l14 : h14.length = h13.length := by rw [e14]; exact List.length_set
        have r16 : PO h16 X F13 s q 0 ((sgn s (adv s p0)).1 :: nmsE (l ++ [(w, m)])) := by
          obtain ⟨vn, g, o⟩ := r14.row
          have en : (sgn s (adv s p0)).1 :: nmsE (l ++ [(w, m)]) = (sgn s (adv s p0)).1 :: nmsE l ++ nms m := by rw [nmsE_append]; simp [nmsE]
          rw [en]
          exact ⟨⟨vn, (same16 X (r14.fb X r14.X) (nFv X r14.X) b4.xO).trans g, o.mono (fun _ _ h => h) fun j hj hF => same16 j (o.on hj).2 (nFv j hF.1) (fun e => s16.nO (by rw [← e]; exact hF.1))⟩, r14.nb, r14.p, r14.X, fun j hj => Nat.lt_of_lt_of_le (r14.fb j hj) len16⟩
        have l12v : ∀ j, onId vl j → j < h12.length := fun j hj => (L12.on hj).2.1
        have up : ∀ j, Gd h4.length h14 F13 j ∧ ¬ onId vl j → h16[j]? = h14[j]? ∧ Gd h4.length h16 F13 j ∧ ¬ onId v' j := fun j hj => ⟨same16 j hj.1.2.1 hj.2 (fun e => by have := hj.1.1; omega), ⟨hj.1.1, Nat.lt_of_lt_of_le hj.1.2.1 len16, hj.1.2.2.1, hj.1.2.2.2.keep (same16 j hj.1.2.1 hj.2 (fun e => by have := hj.1.1; omega))⟩, fun hon => (ids16 j hon).elim hj.2 fun e => by have := hj.1.2.1; omega⟩
        have L16 : LE h4.length h16 F13 v' (l ++ [(w, m)]) := by
          refine ⟨⟨cs ++ [.string (bs w), .int .i64 k', .string (bs n'), .slice a' l' c'], ?_, ?_⟩⟩
          · have elm : (l ++ [(w, m)]).length = l.length + 1 := by simp
            rw [elm]
            exact o16
          · refine EL.snoc (e := (w, m)) (MH.mono (fun j gj => up j ⟨⟨?_, gj.2⟩, fun hon => ?_⟩) m _ m14) l cs (EL.mono up l cs el14)
            · have := s12.c.len; have := gj.1; omega
            · have := l12v j hon; have := gj.1; omega
        exact ih (k1 + 1) _ _ (by omega) ⟨e2, e5, e6, .inl ⟨F13, k1, l ++ [(w, m)], q, v', rfl, r16, s16, L16, by simp; omega, by omega, by simp; omega, hparse⟩⟩
      · rw [he] at hparse
        obtain ⟨w, k', n', a', l', c', ev⟩ := m13
        subst ev
        refine appE h13 F13 w n' k' a' l' c' _ c13 fb13 fun v' cs h14 h16 _ _ _ e14 sv' o14 el14 s16 same16 len16 ids16 o16 => ?_
        have nFv : ∀ j, F13 j → ¬ onId vl j := fun j hf hon => (o14.on hon).1.2.2.1 hf
        have l13 := c13.len
        have nf13 : ¬ F13 h12.length := fun hf => (c13.dom _ hf).elim (fun hf => by have := r12.fb _ hf; omega) (by omega)
        have l14 : h14.length = h13.length := by rw [e14]; exact List.length_set
        have r14 := r13.setNew (i := h12.length) (fun e => nf13 (by rw [e]; exact r13.X)) (.row [.string (bs w), .int .i64 k', .string (bs n'), .slice a' l' c'] true)
        rw [← e14] at r14
        have r16 : PE h16 X F13 s 0 er a := by
          obtain ⟨w, fr, at_, c, vn, g, o⟩ := r14.row
          exact ⟨⟨w, fr, at_, c, vn, (same16 X (by rw [l14]; exact fb13 X r13.X) (nFv X r13.X) b4.xO).trans g, o⟩, r13.e, r13.X⟩
        exact ih 0 _ _ (by omega) ⟨e2, e5, e6, .inr ⟨rfl, F13, er, a, _, v', r16, fun j hj => by have := fb13 j hj; omega, s16, hparse⟩⟩
    · -- no element
      have r12 := r11.ex x12
      have s12 := s11.ex x12
      have L12 := L11.chg (Chg.ex x12)
      obtain ⟨vn, g12, o12⟩ := r12.row
      refine w_nilc (w_offP (w_rdPA (n := 2) g12 (by show 0 + 3 + 2 ≤ 9; decide) ?_))
      refine w_some (v := .agg (eSg ([], 0)).toArray) rfl ?_
      refine w_sgne (a := sgn s q0) (b := ([], 0)) (c_dec (fun qn => ?_) (fun qn => ?_))
      · rw [elems_bad qe qn] at hparse
        refine wrongO (e := 1) (by decide) r12 fun h13 c13 r13 => ?_
        have er13 : ER h4 T X O s h13 := ⟨F, 1, q0, _, vl, r13, fun j hj => Nat.lt_of_lt_of_le (r12.fb j hj) c13.len, s12.chg c13, hparse⟩
        obtain ⟨wE, frE, atE, cE, vnE, gE, oE⟩ := r13.row
        refine w_nilc (w_offP (w_rdP gE (v := .int .i64 1) rfl (w_neq (c_tt (by decide) ?_))))
        exact errEnd b4 er13 (fun _ _ _ _ _ _ _ => e2) (fun _ _ _ _ _ _ _ => rfl) (fun _ _ _ _ _ _ _ => rfl) k
      · have qn' : sgn s q0 = ([], 0) := Decidable.not_not.1 qn
        rw [elems_end qe qn'] at hparse
        refine w_nilc (w_offP (w_rdP g12 (v := .int .i64 0) rfl (w_neq (c_ff (fun h => h rfl) ?_))))
        refine w_nilc (w_offP (w_rdP g12 (v := vn) rfl ?_))
        have sl12 := o12.sl
        have sln := sl12
        obtain ⟨na, ncap, ev⟩ := sl12.shape
        have hcl : ((sgn s (adv s p0)).1 :: nmsE l).length ≤ 2000 := by have := r12.nb; omega
        generalize hnm : (sgn s (adv s p0)).1 :: nmsE l = names at sl12 sln ev hcl
        rw [ev]
        rw [ev] at sln
        refine w_lenSl ?_
        refine loopE_intro (fun mm e h' => ∃ j : Nat, j ≤ names.length ∧ mm = names.length - j ∧ e 2 = .pointer (some ⟨T, 0, none⟩) ∧ e 6 = .pointer (some ⟨O, 0, none⟩) ∧ e 87 = .slice na names.length ncap ∧ e 88 = .int .i64 (names.length : Nat) ∧ e 89 = .int .i64 (j : Nat) ∧ Ex h12 h' ∧ ∀ w ∈ names.take j, w ∈ l.map (·.1)) names.length
          ⟨0, Nat.zero_le _, rfl, e2, e6, rfl, rfl, rfl, Ex.refl _, by simp⟩ ?_
        clear e2 e5 e6 hmm ih
        clear e mm I
        rintro I mm e h18 ⟨j, hj, hmm, e2, e6, e87, e88, e89, x18, hall⟩ ih
        rw [e2, e6, e87, e88, e89]
        have s18 := s12.ex x18
        refine w_lss (c_dec (fun q => ?_) (fun q => ?_))
        · obtain ⟨w, hw⟩ := getElem?_of_lt (l := names) (i := j) (by omega)
          have hw' : (names.map fun w => Value.string (bs w))[j]? = some (.string (bs w)) := by rw [List.getElem?_map, hw]; rfl
          refine idxS1 (sln.ex x18) hw' fun p hp => w_rd1 hp rfl ?_
          refine w_offP (w_rdP s18.o (v := vl) rfl (has38 (L12.nm.ext x18) (by rw [List.length_map]; omega) fun h19 x19 => w_notb ?_))
          have s19 := s18.ex x19
          by_cases hm : w ∈ l.map (·.1)
          · rw [decide_eq_true hm]
            refine c_f (w_add (by omega) (by omega) ?_)
            refine ih (names.length - (j + 1)) _ _ (by omega) ⟨j + 1, by omega, rfl, e2, e6, e87, e88, rfl, x18.trans x19, fun w' hw'' => ?_⟩
            rw [List.take_add_one, hw] at hw''
            rcases List.mem_append.1 hw'' with h | h
            · exact hall w' h
            · have : w' = w := by simpa using h
              rw [this]; exact hm
          · rw [decide_eq_false hm]
            refine c_t ?_
            refine w_some (v := .agg #[.string (bs []), .slice none 0 0]) rfl ?_
            have gT := s19.t b4
            refine w_stPA gT rfl (Nat.le_refl 2) rfl ?_
            refine endP (r := T) (h0 := h19) (w := []) (a := none) (l := 0) (c := 0) e2 rfl rfl rfl (lt_of_get gT) ?_
            refine k _ _ ((s19.toEx b4).set b4.bT _) ?_
            have hk : known (sgn s (adv s p0)).1 l = false := by
              unfold known
              rw [hnm, List.all_eq_false]
              exact ⟨w, List.mem_of_getElem? hw, by rw [decide_eq_false hm]; decide⟩
            have : parse s = .bad 6 0 := by
              rw [hparse]
              unfold finish
              dsimp only
              rw [if_neg (by rw [hk]; decide)]
            rw [this]
            rfl
        · have hja : names.take j = names := List.take_of_length_le (by omega)
          rw [hja] at hall
          have hk : known (sgn s (adv s p0)).1 l = true := by
            unfold known
            rw [hnm, List.all_eq_true]
            exact fun w hw => decide_eq_true (hall w hw)
          have hp : parse s = .ok ((sgn s (adv s p0)).1, l) 0 := by
            rw [hparse]
            unfold finish
            dsimp only
            rw [if_pos hk]
          obtain ⟨cs, oL, eL⟩ := (L12.chg (Chg.ex x18)).ex
          refine w_offP (w_rdP s18.o (v := vl) rfl (clip39 oL.sl (by omega) fun a' sl' on' => ?_))
          refine w_offP (w_stP s18.o (by show 0 + 1 < 2; decide) rfl rfl ?_)
          have s20 := s18.setO (sgn s (adv s p0)).1 (.slice a' l.length l.length)
          have s20o : (h18.set O (.row ([Value.string (bs (sgn s (adv s p0)).1), vl].set (0 + 1) (.slice a' l.length l.length)) true))[O]? = some (.row [.string (bs (sgn s (adv s p0)).1), .slice a' l.length l.length] true) := s20.o
          have s20' : BS h4 T X O (h18.set O (.row ([Value.string (bs (sgn s (adv s p0)).1), vl].set (0 + 1) (.slice a' l.length l.length)) true)) F (sgn s (adv s p0)).1 (.slice a' l.length l.length) := s20
          have n20 : ∀ j, j ≠ O → (h18.set O (.row ([Value.string (bs (sgn s (adv s p0)).1), vl].set (0 + 1) (.slice a' l.length l.length)) true))[j]? = h18[j]? := fun j hj => get_ne (Ne.symm hj) _
          have l20 : (h18.set O (.row ([Value.string (bs (sgn s (adv s p0)).1), vl].set (0 + 1) (.slice a' l.length l.length)) true)).length = h18.length := List.length_set
          clear s20
          generalize h18.set O (.row ([Value.string (bs (sgn s (adv s p0)).1), vl].set (0 + 1) (.slice a' l.length l.length)) true) = h20 at s20o s20' n20 l20 ⊢
          refine w_rdPA s20o (Nat.le_refl 2) ?_
          have gT := s20'.t b4
          refine w_stPA gT rfl (Nat.le_refl 2) rfl ?_
          refine endP (r := T) (h0 := h20) (w := (sgn s (adv s p0)).1) (a := a') (l := l.length) (c := l.length) e2 rfl rfl rfl (lt_of_get gT) ?_
          refine k _ _ ((s20'.toEx b4).set b4.bT _) ?_
          rw [hp]
          have lT := lt_of_get b4.t
          have lOb := b4.lO
          have l4 := b4.x.len
          have big : ∀ (o : AObj) j, Gd h4.length h18 F j → (h20.set T o)[j]? = h18[j]? := fun o j hj => (get_ne (by have := hj.1; omega) _).trans (n20 j (by have := hj.1; omega))
          have on2 : ∀ (o : AObj) j, Gd h4.length h18 F j → (h.length ≤ j ∧ j < (h20.set T o).length) ∧ Wr (h20.set T o) j := fun o j hj => ⟨⟨by have := hj.1; omega, by rw [List.length_set, l20]; exact hj.2.1⟩, hj.2.2.2.keep (big o j hj)⟩
          refine ⟨a', l.length, cs, rfl, Sl.keepOn sl' fun j hj => big _ j (oL.on (on' j hj)).1, fun j hj => on2 _ j (oL.on (on' j hj)).1, EL.mono (fun j hj => ⟨big _ j hj.1, on2 _ j hj.1, fun e => hj.2 (on' j e)⟩) l cs eL⟩
  · -- an error
    have er' := er
    obtain ⟨F, er, a, w, vl, r, fb, b, hp⟩ := er
    refine takesE (x := (wElement, 0)) r fun h12 x12 => c_f ?_
    have er12 := er'.ex x12
    have r12 := r.ex x12
    obtain ⟨wE, frE, atE, cE, vnE, gE, oE⟩ := r12.row
    refine w_nilc (w_offP (w_rdPA (n := 2) gE (by show 0 + 3 + 2 ≤ 9; decide) ?_))
    refine w_some (v := .agg (eSg ([], 0)).toArray) rfl ?_
    refine w_sgne (a := (wE, cE)) (b := ([], 0)) (c_dec (fun qn => ?_) (fun qn => ?_))
    · refine wrongE r12 ?_
      refine w_nilc (w_offP (w_rdP gE (v := .int .i64 er) rfl (w_neq (c_tt r12.e ?_))))
      exact errEnd b4 er12 (fun _ _ _ _ _ _ _ => e2) (fun _ _ _ _ _ _ _ => rfl) (fun _ _ _ _ _ _ _ => rfl) k
    · refine w_nilc (w_offP (w_rdP gE (v := .int .i64 er) rfl (w_neq (c_tt r12.e ?_))))
      exact errEnd b4 er12 (fun _ _ _ _ _ _ _ => e2) (fun _ _ _ _ _ _ _ => rfl) (fun _ _ _ _ _ _ _ => rfl) k
theorem parse17 {h : AH} {s : W} {K : Value → AH → Prop} (hl : s.length < 1000000000) (k : ∀ h' v, Ex h h' → PR h h' (parse s) v → K v h') : callW Try.prog 17 [.string (bs s)] h K :=
  parse17w hl fun h' v x p => k h' v x p.pr
end Go.Proofs.Ytlenlhlipmkeeaa.W
end

section
/- Schema's laws: the document's Parse: names. Conditions: none. -/
namespace Go.Proofs.Ytlenlhlipmkeeaa.W
open Go Go.AM SchM
set_option linter.unusedVariables false
set_option maxRecDepth 100000
theorem ML.get {h : AH} {G : Nat → Prop} : ∀ (l : List Mdl) (cs : List Value), ML h G l cs → ∀ i m, l[i]? = some m → ∃ x y z, (cs.drop (i * 3)).take 3 = [x, y, z] ∧ MH h G m (.agg #[x, y, z])
  | [], cs, _ => fun i m hi => by simp at hi
  | f :: l, cs, hx => fun i m hi => by
    unfold ML at hx
    obtain ⟨x, y, z, rest, e1, mm, r⟩ := hx
    subst e1
    cases i with
    | zero => cases hi; exact ⟨x, y, z, rfl, mm⟩
    | succ i =>
      obtain ⟨x', y', z', h1, h2⟩ := ML.get l rest r i m hi
      refine ⟨x', y', z', ?_, h2⟩
      have e2 : (i + 1) * 3 = i * 3 + 3 := by omega
      rw [e2]
      exact h1
end Go.Proofs.Ytlenlhlipmkeeaa.W
end
