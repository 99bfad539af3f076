/- Machines of numbers: the walk of Make. Conditions: none. -/
import Derived.Test.YtebbjimmgblcpaaQF28
namespace Go.Proofs.Ytebbjimmgblcpaa.W
open Go Go.AM FeedM
set_option linter.unusedVariables false
set_option maxRecDepth 100000

theorem res35 (e : Env) (h : AH) : resList Try.prog e h Try.f35.results.toList = (rdRow true 7 (e 8) h).map fun v => [v] := by
  have h1 : Try.f35.results.toList = [.cell 8 30] := by kernel_rfl
  have h2 : ∀ x, pLoad Try.prog 30 x h = rdRow true 7 x h := fun x => by kernel_rfl
  rw [h1]
  show (match pLoad Try.prog 30 (e 8) h with
    | some v => match resList Try.prog e h [] with
      | some vs => some (v :: vs)
      | none => none
    | none => none) = _
  rw [h2]
  cases rdRow true 7 (e 8) h <;> rfl

def mk0 (a g : Int) : Mach := ⟨a, g, [], [], [], [], []⟩

theorem cellsOf_lt5 {m m' : Mach} {i : Nat} (h0 : i ≠ 0 → m'.init = m.init) (h1 : i ≠ 1 → m'.final = m.final) (h2 : i ≠ 2 → m'.opens = m.opens) (h3 : i ≠ 3 → m'.closes = m.closes) (h4 : i ≠ 4 → m'.inners = m.inners) :
    ∀ j, j ≠ i → j < 5 → cellsOf m' j = cellsOf m j ∧ numOf m' j = numOf m j := by
  intro j hj hj5
  match j, hj5 with
  | 0, _ => exact ⟨by show flat eI _ = flat eI _; rw [h0 (Ne.symm hj)], by show List.length _ = List.length _; rw [h0 (Ne.symm hj)]⟩
  | 1, _ => exact ⟨by show flat eI _ = flat eI _; rw [h1 (Ne.symm hj)], by show List.length _ = List.length _; rw [h1 (Ne.symm hj)]⟩
  | 2, _ => exact ⟨by show flat e4 _ = flat e4 _; rw [h2 (Ne.symm hj)], by show List.length _ = List.length _; rw [h2 (Ne.symm hj)]⟩
  | 3, _ => exact ⟨by show flat e4 _ = flat e4 _; rw [h3 (Ne.symm hj)], by show List.length _ = List.length _; rw [h3 (Ne.symm hj)]⟩
  | 4, _ => exact ⟨by show flat e3 _ = flat e3 _; rw [h4 (Ne.symm hj)], by show List.length _ = List.length _; rw [h4 (Ne.symm hj)]⟩

/-- what a step of the making keeps. -/
def MkI (l : List Sy) (h h' : AH) (p : Nat) (b : Nat) : Prop := ∃ (m : Mach) (v : Nat → Value) (F : Nat → Prop), MkR h' p m v F ∧ MkOK l m b ∧ h.length < p ∧ Ex h h' ∧ h'[h.length]? = some (.row z7 true)

/-- one more, laid behind a slice of the machine. -/
theorem MkI.app {l : List Sy} {h h1 : AH} {p b : Nat} {m m' : Mach} {v : Nat → Value} {F : Nat → Prop} {news : List Value} {K : Nat → Value → Value → AH → Prop} (r : MkR h1 p m v F) (hp : h.length < p) (hx : Ex h h1) (hz : h1[h.length]? = some (.row z7 true)) (i : Nat) (hi : i < 5) (hn : m'.n = m.n) (hg : m'.g = m.g)
    (hc : cellsOf m' i = cellsOf m i ++ news) (hN : numOf m' i = numOf m i + 1) (h0 : i ≠ 0 → m'.init = m.init) (h1' : i ≠ 1 → m'.final = m.final) (h2 : i ≠ 2 → m'.opens = m.opens) (h3 : i ≠ 3 → m'.closes = m.closes) (h4 : i ≠ 4 → m'.inners = m.inners) (hl : news.length = szs i) (hb : numOf m i + 1 < room40)
    (ok : MkOK l m' b) (k : ∀ h', MkI l h h' p b → ∀ a b c, K a b c h') :
    newW none (.row news true) h1 fun i1 h1 => appSl (szs i) (v i) (.slice (some ⟨i1, 0, none⟩) 1 1) h1 fun v' h2 => optW (pOff (2 + i) (.pointer (some ⟨p, 0, none⟩))) fun q => optW (pStore 1 q v' h2) (K i1 v' q) := by
  have hpl := lt_of_get r.row
  refine r.app i hi hn hg hc hN (cellsOf_lt5 h0 h1' h2 h3 h4) hl hb fun v2 h' F' r' l' keep dom => ?_
  refine k h' ⟨m', v2, F', r', ok, hp, ⟨by have := hx.len; omega, fun j hj => ?_⟩, ?_⟩
  · exact (keep j (by have := hx.len; omega) (by omega) fun hF => by have := r.hF j hF; omega).trans (hx.get j hj)
  · exact (keep _ (by omega) (by omega) fun hF => by have := r.hF _ hF; omega).trans hz

theorem numOf_le {l : List Sy} {m : Mach} {b : Nat} (k : MkOK l m b) : ∀ i, numOf m i ≤ b := by
  have := k.cnt
  intro i
  match i with
  | 0 => show m.init.length ≤ b; omega
  | 1 => show m.final.length ≤ b; omega
  | 2 => show m.opens.length ≤ b; omega
  | 3 => show m.closes.length ≤ b; omega
  | _ + 4 => show m.inners.length ≤ b; omega

/-- a machine's value, its slices above a place -/
def MVb (h : AH) (v : Value) (m : Mach) (b : Nat) : Prop := ∃ vi vf vo vc vn, v = .agg (mcells m.n m.g vi vf vo vc vn).toArray ∧ Ints h vi m.init ∧ Ints h vf m.final ∧ SlT 4 e4 h vo m.opens ∧ SlT 4 e4 h vc m.closes ∧ SlT 3 e3 h vn m.inners ∧
  ∀ j, (onId vi j ∨ onId vf j ∨ onId vo j ∨ onId vc j ∨ onId vn j) → b < j
theorem MVb.mv {h : AH} {v : Value} {m : Mach} {b : Nat} (k : MVb h v m b) : MV h v m := by
  obtain ⟨vi, vf, vo, vc, vn, e, p1, p2, p3, p4, p5, _⟩ := k
  exact ⟨vi, vf, vo, vc, vn, e, p1, p2, p3, p4, p5⟩

theorem makeEnd {E : Value → Env} {h h' : AH} {p8 p9 : Nat} {m : Mach} {vi vf vo vc vn : Value} {K : Value → AH → Prop} (hE : ∀ v, E v 8 = .pointer (some ⟨p8, 0, none⟩)) (g9 : h'[p9]? = some (.row (mcells m.n m.g vi vf vo vc vn) true)) (g8 : h'[p8]? = some (.row z7 true)) (hp : h.length ≤ p8) (hx : Ex h h')
    (hi : Ints h' vi m.init) (hf : Ints h' vf m.final) (ho : SlT 4 e4 h' vo m.opens) (hc : SlT 4 e4 h' vc m.closes) (hn : SlT 3 e3 h' vn m.inners)
    (ne : ∀ j, (onId vi j ∨ onId vf j ∨ onId vo j ∨ onId vc j ∨ onId vn j) → p8 < j) (k : ∀ h6 vm, Ex h h6 → MVb h6 vm m p8 → K vm h6) :
    optW (rdRow true 7 (.pointer (some ⟨p9, 0, none⟩)) h') fun v141 => optW (pStore 7 (.pointer (some ⟨p8, 0, none⟩)) v141 h') fun h_40 => optW (resList Try.prog (E v141) h_40 Try.f35.results.toList) fun vs => K (resOf vs) h_40 := by
  obtain ⟨a1, n1, c1, rfl⟩ := Sl.isSl hi
  obtain ⟨a2, n2, c2, rfl⟩ := Sl.isSl hf
  obtain ⟨a3, n3, c3, rfl⟩ := Sl.isSl ho
  obtain ⟨a4, n4, c4, rfl⟩ := Sl.isSl hc
  obtain ⟨a5, n5, c5, rfl⟩ := Sl.isSl hn
  refine w_rdPA g9 (Nat.le_refl 7) ?_
  refine w_stPA g8 rfl (Nat.le_refl 7) rfl ?_
  rw [res35]
  have hb := lt_of_get g8
  have hopt : ∀ {α : Type} {o : Option α} {x : α}, (optW o fun y => y = x) → o = some x := by
    intro α o x ho
    cases o with
    | none => exact ho.elim
    | some y => have : y = x := ho; rw [this]
  refine w_some (v := [.agg (mcells m.n m.g (.slice a1 n1 c1) (.slice a2 n2 c2) (.slice a3 n3 c3) (.slice a4 n4 c4) (.slice a5 n5 c5)).toArray]) ?_ ?_
  · rw [hE]
    have g := hopt (o := rdRow true 7 (.pointer (some ⟨p8, 0, none⟩)) _) (w_rdPA (get_set h' hb (.row (spliceL z7 0 (cellsL (.agg (((mcells m.n m.g (.slice a1 n1 c1) (.slice a2 n2 c2) (.slice a3 n3 c3) (.slice a4 n4 c4) (.slice a5 n5 c5)).drop 0).take 7).toArray))) true)) (Nat.le_refl 7) rfl)
    rw [g]
    rfl
  · exact k _ _ (hx.set hp _) ⟨_, _, _, _, _, rfl, Sl.same hi fun j hj => get_ne (Nat.ne_of_lt (ne j (.inl hj))) _, Sl.same hf fun j hj => get_ne (Nat.ne_of_lt (ne j (.inr (.inl hj)))) _, Sl.same ho fun j hj => get_ne (Nat.ne_of_lt (ne j (.inr (.inr (.inl hj))))) _,
      Sl.same hc fun j hj => get_ne (Nat.ne_of_lt (ne j (.inr (.inr (.inr (.inl hj)))))) _, Sl.same hn fun j hj => get_ne (Nat.ne_of_lt (ne j (.inr (.inr (.inr (.inr hj)))))) _, ne⟩

theorem makeFin {E1 : Nat → Value → Value → Env} {E2 : Value → Env} {l : List Sy} {h h' : AH} {p9 : Nat} {m : Mach} {v : Nat → Value} {F : Nat → Prop} {K : Value → AH → Prop} (hE1 : ∀ a b c, E1 a b c 8 = .pointer (some ⟨h.length, 0, none⟩)) (hE2 : ∀ c, E2 c 8 = .pointer (some ⟨h.length, 0, none⟩))
    (r : MkR h' p9 m v F) (ok : MkOK l m 24) (hp : h.length < p9) (hx : Ex h h') (hz : h'[h.length]? = some (.row z7 true))
    (k : ∀ h' vm m, Ex h h' → MVb h' vm m h.length → MkOK l m 25 → m.init ≠ [] → K vm h') :
    condW (.bool (decide (((numOf m 0 : Nat) : Int) = 0))) (
        optW (bldSl 1 [(.int .i64 0)] 1 [(0, (.int .i64 0))]) fun c_7 =>
        newW none (.row c_7 true) h' fun i_7 h_38 =>
        optW (pOff 2 (.pointer (some ⟨p9, 0, none⟩))) fun v140 =>
        optW (pStore 1 v140 (.slice (some ⟨i_7, 0, none⟩) 1 1) h_38) fun h_39 =>
        optW (rdRow true 7 (.pointer (some ⟨p9, 0, none⟩)) h_39) fun v141 =>
        optW (pStore 7 (.pointer (some ⟨h.length, 0, none⟩)) v141 h_39) fun h_40 =>
        optW (resList Try.prog (E1 i_7 v140 v141) h_40 Try.f35.results.toList) fun vs => K (resOf vs) h_40
      ) (
        optW (rdRow true 7 (.pointer (some ⟨p9, 0, none⟩)) h') fun v141_1 =>
        optW (pStore 7 (.pointer (some ⟨h.length, 0, none⟩)) v141_1 h') fun h_41 =>
        optW (resList Try.prog (E2 v141_1) h_41 Try.f35.results.toList) fun vs => K (resOf vs) h_41) := by
  have hF := r.hF
  have sl0 := (r.own 0 (by decide)).sl
  have sl1 := (r.own 1 (by decide)).sl
  have sl2 := (r.own 2 (by decide)).sl
  have sl3 := (r.own 3 (by decide)).sl
  have sl4 := (r.own 4 (by decide)).sl
  have on : ∀ i, i < 5 → ∀ j, onId (v i) j → p9 < j ∧ j < h'.length := fun i hi j hj => ⟨hF j ((r.own i hi).on hj).1, ((r.own i hi).on hj).2⟩
  refine c_dec (fun q => ?_) (fun q => ?_)
  · have he : m.init = [] := List.length_eq_zero_iff.1 (by have h1 : ((numOf m 0 : Nat) : Int) = 0 := q; have h2 : numOf m 0 = m.init.length := rfl; omega)
    refine w_some (bldSl_one rfl (by decide) rfl rfl) ?_
    refine n_newv fun h3 x3 l3 g3 => ?_
    have hr3 := x3.some r.row
    have hlt3 := lt_of_get hr3
    have hpl := lt_of_get r.row
    refine w_offP (w_stP hr3 (show 2 < 7 by omega) rfl rfl ?_)
    have key : ∀ o : AObj, ∀ j, p9 < j ∨ j < p9 → (h3.set p9 o)[j]? = h3[j]? := fun o j hj => get_ne (by omega) _
    refine makeEnd (m := { m with init := [0] }) (h := h) (vi := .slice (some ⟨h'.length, 0, none⟩) 1 1) (vf := v 1) (vo := v 2) (vc := v 3) (vn := v 4) (hE1 _ _) (get_set _ hlt3 _) ((key _ _ (.inr hp)).trans (x3.some hz)) (Nat.le_refl _) ((hx.trans x3).set (by omega) _) ?_ ?_ ?_ ?_ ?_ ?_ fun h6 vm x6 mv6 => k h6 vm _ x6 mv6 ⟨ok.n, ok.g, ?_, ok.final, ok.opens, ok.closes, ok.inners, ?_⟩ (by simp)
    · exact ⟨rfl, .inr ⟨h'.length, 0, 1, rfl, .inl ⟨(by decide : 1 < openCap), Nat.le_refl 1⟩, .inr ⟨_, true, (key _ _ (.inl hpl)).trans g3, Nat.le_refl 1, rfl⟩⟩⟩
    · exact Sl.same (Sl.ex sl1 x3) fun j hj => key _ _ (.inl (on 1 (by decide) j hj).1)
    · exact Sl.same (Sl.ex sl2 x3) fun j hj => key _ _ (.inl (on 2 (by decide) j hj).1)
    · exact Sl.same (Sl.ex sl3 x3) fun j hj => key _ _ (.inl (on 3 (by decide) j hj).1)
    · exact Sl.same (Sl.ex sl4 x3) fun j hj => key _ _ (.inl (on 4 (by decide) j hj).1)
    · intro j hj
      rcases hj with hj | hj | hj | hj | hj
      · have : h'.length = j := hj
        omega
      · have := on 1 (by decide) j hj; omega
      · have := on 2 (by decide) j hj; omega
      · have := on 3 (by decide) j hj; omega
      · have := on 4 (by decide) j hj; omega
    · intro p hp'
      have : p = 0 := List.mem_singleton.1 hp'
      have hn := ok.n
      show 0 ≤ p ∧ p < m.n
      omega
    · have := ok.cnt
      rw [he] at this
      simp at this ⊢
      omega
  · have hne : m.init ≠ [] := fun he => q (by show ((m.init.length : Nat) : Int) = 0; rw [he]; rfl)
    refine makeEnd (m := m) (h := h) hE2 r.row hz (Nat.le_refl _) hx sl0 sl1 sl2 sl3 sl4 (fun j hj => ?_) fun h6 vm x6 mv6 => k h6 vm _ x6 mv6 (ok.mono (by decide)) hne
    rcases hj with hj | hj | hj | hj | hj
    · have := on 0 (by decide) j hj; omega
    · have := on 1 (by decide) j hj; omega
    · have := on 2 (by decide) j hj; omega
    · have := on 3 (by decide) j hj; omega
    · have := on 4 (by decide) j hj; omega

theorem make35 {h : AH} {v0 v1 : Value} {l : List Sy} {size : Int} {ns : List Int} {K : Value → AH → Prop} (hl : Syms h v0 l) (bl : l.length ≤ 1000) (hs : I64 size) (hns : Ints h v1 ns)
    (k : ∀ h' vm m, Ex h h' → MVb h' vm m h.length → MkOK l m 25 → m.init ≠ [] → K vm h') : callW Try.prog 35 [v0, .int .i64 size, v1, .int .i64 3] h K := by
  have r40 : (10000000 : Nat) < room40 := big40
  refine c35 ?_
  unfold s35
  refine n_rowv (c := z7) fun h1 x1 l1 g1 => ?_
  refine within54 _ _ _ _ (by decide) (by decide) ?_
  have q3 : 0 ≤ size % 3 ∧ size % 3 < 3 := ⟨Int.emod_nonneg _ (by decide), Int.emod_lt_of_pos _ (by decide)⟩
  refine w_add (by omega) (by omega) ?_
  refine w_quo' (by decide) fun c7 => ?_
  refine within54 _ _ _ _ (by decide) (by decide) ?_
  have q2 : 0 ≤ c7 % 2 ∧ c7 % 2 < 2 := ⟨Int.emod_nonneg _ (by decide), Int.emod_lt_of_pos _ (by decide)⟩
  refine w_add (by omega) (by omega) ?_
  generalize hNN : 1 + size % 3 = NN at *
  generalize hGG : 1 + c7 % 2 = GG at *
  refine w_some rfl ?_
  refine n_rowv (c := z7) fun h2 x2 l2 g2 => ?_
  refine w_stPA g2 rfl (Nat.le_refl 7) rfl ?_
  have hlt := lt_of_get g2
  have k0 : MkI l h (h2.set h1.length (.row (spliceL z7 0 (cellsL (.agg (mcells NN GG (.slice none 0 0) (.slice none 0 0) (.slice none 0 0) (.slice none 0 0) (.slice none 0 0)).toArray))) true)) h1.length 0 := by
    refine ⟨mk0 NN GG, fun _ => .slice none 0 0, fun j => h1.length < j, ⟨get_set _ hlt _, fun i hi => ?_, fun j hj => hj, fun i j _ _ _ x hx => hx.elim⟩, ⟨⟨by show 1 ≤ NN; omega, by show NN ≤ 3; omega⟩, ⟨by show 1 ≤ GG; omega, by show GG ≤ 2; omega⟩, (fun p hp => by cases hp), (fun p hp => by cases hp), (fun p hp => by cases hp), (fun p hp => by cases hp), (fun p hp => by cases hp), Nat.le_refl _⟩, by omega, (x1.trans x2).set (by omega) _, ?_⟩
    · match i, hi with
      | 0, _ => exact OwnG.nil _ _ _
      | 1, _ => exact OwnG.nil _ _ _
      | 2, _ => exact OwnG.nil _ _ _
      | 3, _ => exact OwnG.nil _ _ _
      | 4, _ => exact OwnG.nil _ _ _
    · rw [get_ne (by omega)]
      exact x2.some g1
  refine loopE_intro (fun m e h' => ∃ i : Nat, i ≤ ns.length ∧ i ≤ 24 ∧ m = ns.length - i ∧ e 0 = v0 ∧ e 2 = v1 ∧ e 8 = .pointer (some ⟨h.length, 0, none⟩) ∧ e 9 = .pointer (some ⟨h1.length, 0, none⟩) ∧ e 10 = .int .i64 i ∧ MkI l h h' h1.length i) ns.length
    ⟨0, Nat.zero_le _, Nat.zero_le _, rfl, rfl, rfl, rfl, rfl, rfl, k0⟩ ?_
  rintro I mm e h' ⟨i, hi, hi24, hmm, e0, e2, e8, e9, e10, m, v, F, r, ok, hp, hx, hz⟩ hI
  rw [e2, e8, e9, e10]
  refine w_len hns (w_lss ?_)
  by_cases q1 : (i : Int) < (ns.length : Nat)
  · refine g_tt q1 (g_tt q1 (w_lss (pk_tt q1 ?_)))
    refine c_dec (fun q2 => ?_) (fun q2 => ?_)
    · refine joinE_intro (fun e1 h9 => e1 0 = v0 ∧ e1 2 = v1 ∧ e1 8 = .pointer (some ⟨h.length, 0, none⟩) ∧ e1 9 = .pointer (some ⟨h1.length, 0, none⟩) ∧ e1 10 = .int .i64 i ∧ MkI l h h9 h1.length (i + 1)) ?_ ?_
      · rintro e1 h9 ⟨f0, f2, f8, f9, f10, kI1⟩
        rw [f10]
        refine w_add (by omega) (by omega) ?_
        exact hI (mm - 1) _ _ (by omega) ⟨i + 1, by omega, by omega, by omega, f0, f2, f8, f9, rfl, kI1⟩
      intro J hJ
      obtain ⟨z, hzz⟩ := getElem?_of_lt (l := ns) (i := i) (by omega)
      refine w_idxN eI_len (hns.ex hx) hzz fun pp hpp => w_rd1 hpp rfl ?_
      refine within54 _ _ _ _ (by decide) (by decide) ?_
      have n0 : 0 ≤ z % 1099511627776 := Int.emod_nonneg _ (by decide)
      have n1 : z % 1099511627776 < 1099511627776 := Int.emod_lt_of_pos _ (by decide)
      generalize z % 1099511627776 = n at *
      have hn := ok.n
      refine w_quo (by decide) n0 (by omega) (w_offP (w_rdP r.row (v := .int .i64 m.n) rfl (w_rem (by omega) (by omega) ?_)))
      refine w_quo (by decide) n0 (by omega) (w_offP (w_rdP r.row (v := .int .i64 m.n) rfl (w_rem (by omega) (by omega) ?_)))
      have hp' : 0 ≤ n / 8 % m.n ∧ n / 8 % m.n < m.n := ⟨Int.emod_nonneg _ (by omega), Int.emod_lt_of_pos _ (by omega)⟩
      have hq' : 0 ≤ n / 80 % m.n ∧ n / 80 % m.n < m.n := ⟨Int.emod_nonneg _ (by omega), Int.emod_lt_of_pos _ (by omega)⟩
      generalize n / 8 % m.n = p at *
      generalize n / 80 % m.n = q at *
      refine w_rem (by decide) n0 (w_eql ?_)
      refine c_dec (fun q3 => ?_) (fun q3 => ?_)
      · refine w_offP (w_rdP r.row (v := v 0) rfl ?_)
        refine w_some (bldSl_one rfl (by decide) rfl rfl) ?_
        exact MkI.app (m' := { m with init := m.init ++ [p] }) (b := i + 1) (news := eI p) r hp hx hz 0 (by decide) rfl rfl (flat_snoc _ _ _) (by show List.length _ = _ + 1; rw [List.length_append]; rfl) (fun h => (h rfl).elim) (fun _ => rfl) (fun _ => rfl) (fun _ => rfl) (fun _ => rfl) rfl (by have := numOf_le ok 0; omega) (ok.addInit hp') fun h5 k5 a b c => hJ _ _ ⟨e0, e2, e8, e9, e10, k5⟩
      refine w_eql (c_dec (fun q4 => ?_) (fun q4 => ?_))
      · refine w_offP (w_rdP r.row (v := v 1) rfl ?_)
        refine w_some (bldSl_one rfl (by decide) rfl rfl) ?_
        exact MkI.app (m' := { m with final := m.final ++ [p] }) (b := i + 1) (news := eI p) r hp hx hz 1 (by decide) rfl rfl (flat_snoc _ _ _) (by show List.length _ = _ + 1; rw [List.length_append]; rfl) (fun _ => rfl) (fun h => (h rfl).elim) (fun _ => rfl) (fun _ => rfl) (fun _ => rfl) rfl (by have := numOf_le ok 1; omega) (ok.addFinal hp') fun h5 k5 a b c => hJ _ _ ⟨e0, e2, e8, e9, e10, k5⟩
      refine joinE_intro (fun e2' h17 => e2' 0 = v0 ∧ e2' 2 = v1 ∧ e2' 8 = .pointer (some ⟨h.length, 0, none⟩) ∧ e2' 9 = .pointer (some ⟨h1.length, 0, none⟩) ∧ e2' 10 = .int .i64 i ∧ e2' 11 = .int .i64 n ∧ e2' 12 = .int .i64 p ∧ e2' 13 = .int .i64 q ∧ e2' 52 = .int .i64 (n % 8) ∧ (∃ b, e2' 85 = .bool b) ∧ h17 = h') ?_ ?_
      · rintro E h17 ⟨d0, d2, d8, d9, d10, d11, d12, d13, d52, ⟨b, d85⟩, rfl⟩
        rw [d0, d9, d11, d12, d13, d52, d85]
        cases b with
        | true =>
          refine c_t ?_
          refine w_quo (by decide) n0 (by omega) (w_rem (by decide) (by omega) ?_)
          refine pick55 (hl.ex hx) bl (by omega) fun h18 r2 x18 hr2 => w_geq ?_
          refine c_dec (fun q4 => ?_) (fun q4 => ?_)
          · have sy : SymOK l r2 1 := hr2.resolve_left (by omega)
            have rr := (r.ex x18).ex (Ex.res h18)
            refine w_offP (w_rdP rr.row (v := v 2) rfl ?_)
            refine w_quo (by decide) n0 (by omega) ?_
            refine w_offP (w_rdP rr.row (v := .int .i64 m.g) rfl ?_)
            have hgg := ok.g
            refine w_rem (by omega) (by omega) ?_
            have qg : 0 ≤ n / 8000 % m.g ∧ n / 8000 % m.g < m.g := ⟨Int.emod_nonneg _ (by omega), Int.emod_lt_of_pos _ (by omega)⟩
            refine w_add (by omega) (by omega) ?_
            refine w_some rfl (w_some (bldSl_one rfl (by decide) rfl rfl) ?_)
            refine n_res ?_
            exact MkI.app (m' := { m with opens := m.opens ++ [(p, r2, q, 1 + n / 8000 % m.g)] }) (b := i + 1) (news := e4 (p, r2, q, 1 + n / 8000 % m.g)) (r.ex x18) hp (hx.trans x18) (x18.some hz) 2 (by decide) rfl rfl (flat_snoc _ _ _) (by show List.length _ = _ + 1; rw [List.length_append]; rfl) (fun _ => rfl) (fun _ => rfl) (fun h => (h rfl).elim) (fun _ => rfl) (fun _ => rfl) rfl (by have := numOf_le ok 2; omega)
              (ok.addOpen ⟨hp', sy, hq', by show 1 ≤ 1 + n / 8000 % m.g; omega, by show 1 + n / 8000 % m.g ≤ m.g; omega⟩) fun h5 k5 a b c => hJ _ _ ⟨d0, d2, d8, d9, d10, k5⟩
          · exact hJ _ _ ⟨d0, d2, d8, d9, d10, ⟨m, v, F, r.ex x18, ok.mono (by omega), hp, hx.trans x18, x18.some hz⟩⟩
        | false =>
          refine c_f ?_
          refine w_eql (c_dec (fun q5 => ?_) (fun q5 => ?_))
          · refine c_tt q5 ?_
            refine w_quo (by decide) n0 (by omega) (w_rem (by decide) (by omega) ?_)
            refine pick55 (hl.ex hx) bl (by omega) fun h18 r2 x18 hr2 => w_geq ?_
            refine c_dec (fun q4 => ?_) (fun q4 => ?_)
            · have sy : SymOK l r2 2 := hr2.resolve_left (by omega)
              have rr := (r.ex x18).ex (Ex.res h18)
              refine w_offP (w_rdP rr.row (v := v 3) rfl ?_)
              refine w_quo (by decide) n0 (by omega) ?_
              refine w_offP (w_rdP rr.row (v := .int .i64 m.g) rfl ?_)
              have hgg := ok.g
              refine w_add (by omega) (by omega) (w_rem (by omega) (by omega) ?_)
              have qg : 0 ≤ n / 8000 % (m.g + 1) ∧ n / 8000 % (m.g + 1) < m.g + 1 := ⟨Int.emod_nonneg _ (by omega), Int.emod_lt_of_pos _ (by omega)⟩
              refine w_some rfl (w_some (bldSl_one rfl (by decide) rfl rfl) ?_)
              refine n_res ?_
              exact MkI.app (m' := { m with closes := m.closes ++ [(p, r2, n / 8000 % (m.g + 1), q)] }) (b := i + 1) (news := e4 (p, r2, n / 8000 % (m.g + 1), q)) (r.ex x18) hp (hx.trans x18) (x18.some hz) 3 (by decide) rfl rfl (flat_snoc _ _ _) (by show List.length _ = _ + 1; rw [List.length_append]; rfl) (fun _ => rfl) (fun _ => rfl) (fun _ => rfl) (fun h => (h rfl).elim) (fun _ => rfl) rfl (by have := numOf_le ok 3; omega)
                (ok.addClose ⟨hp', sy, hq', qg.1, by show n / 8000 % (m.g + 1) ≤ m.g; omega⟩) fun h5 k5 a b c => hJ _ _ ⟨d0, d2, d8, d9, d10, k5⟩
            · exact hJ _ _ ⟨d0, d2, d8, d9, d10, ⟨m, v, F, r.ex x18, ok.mono (by omega), hp, hx.trans x18, x18.some hz⟩⟩
          · refine w_eql (c_dec (fun q6 => ?_) (fun q6 => ?_))
            · refine w_quo (by decide) n0 (by omega) (w_rem (by decide) (by omega) ?_)
              refine pick55 (hl.ex hx) bl (by omega) fun h18 r2 x18 hr2 => w_geq ?_
              refine c_dec (fun q4 => ?_) (fun q4 => ?_)
              · have sy : SymOK l r2 2 := hr2.resolve_left (by omega)
                have rr := (r.ex x18).ex (Ex.res h18)
                refine w_offP (w_rdP rr.row (v := v 3) rfl ?_)
                refine w_quo (by decide) n0 (by omega) ?_
                refine w_offP (w_rdP rr.row (v := .int .i64 m.g) rfl ?_)
                have hgg := ok.g
                refine w_add (by omega) (by omega) (w_rem (by omega) (by omega) ?_)
                have qg : 0 ≤ n / 8000 % (m.g + 1) ∧ n / 8000 % (m.g + 1) < m.g + 1 := ⟨Int.emod_nonneg _ (by omega), Int.emod_lt_of_pos _ (by omega)⟩
                refine w_some rfl (w_some (bldSl_one rfl (by decide) rfl rfl) ?_)
                refine n_res ?_
                exact MkI.app (m' := { m with closes := m.closes ++ [(p, r2, n / 8000 % (m.g + 1), q)] }) (b := i + 1) (news := e4 (p, r2, n / 8000 % (m.g + 1), q)) (r.ex x18) hp (hx.trans x18) (x18.some hz) 3 (by decide) rfl rfl (flat_snoc _ _ _) (by show List.length _ = _ + 1; rw [List.length_append]; rfl) (fun _ => rfl) (fun _ => rfl) (fun _ => rfl) (fun h => (h rfl).elim) (fun _ => rfl) rfl (by have := numOf_le ok 3; omega)
                  (ok.addClose ⟨hp', sy, hq', qg.1, by show n / 8000 % (m.g + 1) ≤ m.g; omega⟩) fun h5 k5 a b c => hJ _ _ ⟨d0, d2, d8, d9, d10, k5⟩
              · exact hJ _ _ ⟨d0, d2, d8, d9, d10, ⟨m, v, F, r.ex x18, ok.mono (by omega), hp, hx.trans x18, x18.some hz⟩⟩
            · refine w_quo (by decide) n0 (by omega) (w_rem (by decide) (by omega) ?_)
              refine pick55 (hl.ex hx) bl (by omega) fun h18 r2 x18 hr2 => w_geq ?_
              refine c_dec (fun q4 => ?_) (fun q4 => ?_)
              · have sy : SymOK l r2 3 := hr2.resolve_left (by omega)
                have rr := r.ex x18
                refine w_offP (w_rdP rr.row (v := v 4) rfl ?_)
                refine w_some rfl (w_some (bldSl_one rfl (by decide) rfl rfl) ?_)
                exact MkI.app (m' := { m with inners := m.inners ++ [(p, r2, q)] }) (b := i + 1) (news := e3 (p, r2, q)) (r.ex x18) hp (hx.trans x18) (x18.some hz) 4 (by decide) rfl rfl (flat_snoc _ _ _) (by show List.length _ = _ + 1; rw [List.length_append]; rfl) (fun _ => rfl) (fun _ => rfl) (fun _ => rfl) (fun _ => rfl) (fun h => (h rfl).elim) rfl (by have := numOf_le ok 4; omega)
                  (ok.addInner ⟨hp', sy, hq'⟩) fun h5 k5 a b c => hJ _ _ ⟨d0, d2, d8, d9, d10, k5⟩
              · exact hJ _ _ ⟨d0, d2, d8, d9, d10, ⟨m, v, F, r.ex x18, ok.mono (by omega), hp, hx.trans x18, x18.some hz⟩⟩
      · intro J1 hJ1
        refine w_eql (c_dec (fun q5 => ?_) (fun q5 => ?_))
        · exact hJ1 _ _ ⟨e0, e2, e8, e9, e10, rfl, rfl, rfl, rfl, ⟨_, rfl⟩, rfl⟩
        · refine w_eql ?_
          exact hJ1 _ _ ⟨e0, e2, e8, e9, e10, rfl, rfl, rfl, rfl, ⟨_, rfl⟩, rfl⟩
    · refine w_offP (w_rdP r.row (v := v 0) rfl ?_)
      refine w_len (r.own 0 (by decide)).sl (w_eql ?_)
      exact makeFin (fun _ _ _ => e8) (fun _ => e8) r (ok.mono hi24) hp hx hz k
  · refine g_tf q1 (g_tf q1 (pk_ff q1 (c_f ?_)))
    refine w_offP (w_rdP r.row (v := v 0) rfl ?_)
    refine w_len (r.own 0 (by decide)).sl (w_eql ?_)
    exact makeFin (fun _ _ _ => e8) (fun _ => e8) r (ok.mono hi24) hp hx hz k
end Go.Proofs.Ytebbjimmgblcpaa.W
