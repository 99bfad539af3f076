/- Parts of a proof, joined by a program. Conditions: none. -/
import Derived.Test.YtlenlhlipmkeeaaRB1
import Derived.Test.YtlenlhlipmkeeaaRA2
import Derived.Test.YtlenlhlipmkeeaaChecked
import Derived.Shelf.Strings.OnBuilder

section
/- Schema's laws: the document's tree: whether a part of a word is an element's. Conditions: none. -/
namespace Go.Proofs.Ytlenlhlipmkeeaa.W
open Go Go.AM SchM
set_option linter.unusedVariables false
set_option maxRecDepth 100000
theorem MT.rd0 {h : AH} {lo n : Nat} {v : Value} {P : Nat → Nat → Prop} (t : MT h lo n v P) {K : Value → Value → Prop} (k : ∀ p rv ij, BR h ij n rv (P 0) → K p rv) : optW (pIdxS 1 v (.int .i64 0)) fun p => optW (rdRow false 1 p h) fun x => K p x := t.rd (j := 0) (Nat.zero_le _) k
theorem partners_get {T : Nat} {w : List Int} {i : Nat} (hi : i < w.length) : (partners T w)[i]? = some ((mrun T w w.length).1 i) := by
  unfold partners
  rw [List.getElem?_map, List.getElem?_range hi]
  rfl
set_option maxHeartbeats 4000000 in
theorem tree49 {x : W × List (W × Mdl)} {w : List Int} (hx : Hok x) (hn : w.length ≤ 100000000000) (hin : ∀ c ∈ w, 0 ≤ c ∧ c ≤ 2 * (x.2.length : Int)) : ∀ (N fr to : Nat), to - fr ≤ N → fr < to → to ≤ w.length → ∀ (h : AH) (sv wv mv : Value) (K : Value → AH → Prop), SM h x sv → SlT 1 eI h wv w → SlT 1 eI h mv (partners x.2.length w) →
    (∀ (t : Bool) h', Ex h h' → (t = true ↔ ∃ k, k < x.2.length ∧ Stw (scOf x) w k fr to) → K (.bool t) h') → callW Try.prog 49 [sv, wv, mv, .int .i64 (fr : Nat), .int .i64 (to : Nat)] h K
  | 0, fr, to, hN, hft, _, _, _, _, _, _, _, _, _, _ => by omega
  | N + 1, fr, to, hN, hft, hto, h, sv, wv, mv, K, hs, hw, hm, k => by
    have hT := hx.T
    obtain ⟨La, Lc, Lcs, rfl, Lsl, Lel⟩ := id hs
    refine c49 ?_
    unfold s49
    refine n_boxv rfl fun h1 x1 l1 g1 => ?_
    have g1 : h1[h.length]? = some (.row [.string (bs x.1), .slice La x.2.length Lc] true) := g1
    have hw1 := hw.ex x1
    have hm1 := hm.ex x1
    obtain ⟨c, hc⟩ := getElem?_of_lt (l := w) (i := fr) (by omega)
    obtain ⟨hc0, hc1⟩ := hin c (List.mem_of_getElem? hc)
    have hpm : (partners x.2.length w)[fr]? = some ((mrun x.2.length w w.length).1 fr) := partners_get (by omega)
    obtain ⟨c2, hc2⟩ := getElem?_of_lt (l := w) (i := to - 1) (by omega)
    have eto : ((to : Nat) : Int) - 1 = ((to - 1 : Nat) : Int) := by omega
    have no : (¬ ∃ k, k < x.2.length ∧ Stw (scOf x) w k fr to) → K (.bool false) h1 := fun hno => k false h1 x1 ⟨fun h => absurd h Bool.false_ne_true, fun h => absurd h hno⟩
    refine w_idxN (enc := eI) eI_len hw1 hc fun pp hpp => w_rd1 hpp (x := .int .i64 c) rfl (w_quo (by decide) hc0 (by omega) ?_)
    refine w_idxN (enc := eI) eI_len hw1 hc fun pp hpp => w_rd1 hpp (x := .int .i64 c) rfl (w_rem (by decide) hc0 (w_neq ?_))
    by_cases q1 : ¬ c % 2 = 0
    · refine gd_ft q1 (gd_ft q1 (gd_ft q1 (gd_ft q1 (gd_ft q1 (pk_tt q1 ?_)))))
      refine gdc_ft (gdc_ft (gdc_ft (gdc_ft (gdc_ft (gdc_ft (gdc_ft (pk_t ?_)))))))
      refine gdc_ft (gdc_ft (gdc_ft (gdc_ft (gdc_ft (gdc_ft (gdc_ft (gdc_ft (gdc_ft (gdc_ft (gdc_ft (pk_t (c_t ?_))))))))))))
      refine no ?_
      rintro ⟨k', _, hst⟩
      have := (Stw_even hst).1
      rw [hc] at this
      have := Option.some.inj this
      omega
    refine gd_ff q1 (gd_ff q1 (w_offP (gd_ff q1 (hist_nil ?_))))
    refine w_rdP g1 (v := .slice La x.2.length Lc) rfl ?_
    refine gd_ff q1 (w_lenSl (gd_ff q1 (w_geq (pk_ff q1 ?_))))
    have q1' : c % 2 = 0 := Classical.not_not.1 q1
    by_cases q2 : ((x.2.length : Nat) : Int) ≤ c / 2
    · refine gd_ft q2 (gd_ft q2 (gd_ft q2 (gd_ft q2 (gd_ft q2 (gd_ft q2 (gd_ft q2 (pk_tt q2 ?_)))))))
      refine gdc_ft (gdc_ft (gdc_ft (gdc_ft (gdc_ft (gdc_ft (gdc_ft (gdc_ft (gdc_ft (gdc_ft (gdc_ft (pk_t (c_t ?_))))))))))))
      refine no ?_
      rintro ⟨k', hk, hst⟩
      have := (Stw_even hst).1
      rw [hc] at this
      have := Option.some.inj this
      omega
    refine gd_ff q2 (gd_ff q2 (gd_ff q2 ?_))
    refine w_idxN (enc := eI) eI_len hm1 hpm fun pp hpp => ?_
    refine gd_ff q2 (hist_nil ?_)
    refine w_rd1 hpp (x := .int .i64 ((mrun x.2.length w w.length).1 fr)) rfl ?_
    refine gd_ff q2 (gd_ff q2 (w_sub (by omega) (by omega) (gd_ff q2 (w_neq (pk_ff q2 ?_)))))
    obtain ⟨kN, hkN⟩ : ∃ kN : Nat, c / 2 = (kN : Int) := ⟨(c / 2).toNat, by omega⟩
    have hkT : kN < x.2.length := by omega
    have hck : c = 2 * (kN : Int) := by omega
    rw [eto]
    by_cases q3 : ¬ (mrun x.2.length w w.length).1 fr = ((to - 1 : Nat) : Int)
    · refine gd_ft q3 (gd_ft q3 (gd_ft q3 (gd_ft q3 (gd_ft q3 (gd_ft q3 (gd_ft q3 (gd_ft q3 (gd_ft q3 (gd_ft q3 (gd_ft q3 (pk_tt q3 (c_t ?_))))))))))))
      refine no ?_
      rintro ⟨k', hk, hst⟩
      have e5 : (mrun x.2.length w w.length).1 fr = ((to : Nat) : Int) - 1 := Stw_partner hst hk hto
      exact q3 (by omega)
    have q3' := Classical.not_not.1 q3
    refine gd_ff q3 (gd_ff q3 (gd_ff q3 (w_sub (by omega) (by omega) (gd_ff q3 ?_))))
    rw [eto]
    refine w_idxN (enc := eI) eI_len hw1 hc2 fun pp hpp => ?_
    refine gd_ff q3 (hist_nil ?_)
    refine w_rd1 hpp (x := .int .i64 c2) rfl ?_
    refine gd_ff q3 (gd_ff q3 (gd_ff q3 ?_))
    refine w_idxN (enc := eI) eI_len hw1 hc fun pp hpp => ?_
    refine gd_ff q3 (hist_nil ?_)
    refine w_rd1 hpp (x := .int .i64 c) rfl ?_
    refine gd_ff q3 (w_add (by omega) (by omega) (gd_ff q3 (w_neq (pk_ff q3 ?_))))
    refine c_dec (fun q4 => ?_) (fun q4 => ?_)
    · refine no ?_
      rintro ⟨k', hk, hst⟩
      have e1 := (Stw_even hst).1
      rw [hc] at e1
      have e1 := Option.some.inj e1
      rcases (Stw_iff _ _ _ _ _).1 hst with ⟨h1, _⟩ | ⟨_, _, j', _, h2, h3⟩
      · have : k' = x.2.length := h1
        omega
      · have : j' = to - 1 := by omega
        subst this
        rw [hc2] at h2
        have := Option.some.inj h2
        omega
    have q4' : c2 = c + 1 := Classical.not_not.1 q4
    have hstep : ∀ k', (k' < x.2.length ∧ Stw (scOf x) w k' fr to) ↔ (k' = kN ∧ MR (scOf x).fd (scOf x).T (Stw (scOf x) w) ((scOf x).ms kN) (fr + 1) (to - 1)) := by
      intro k'
      constructor
      · rintro ⟨hk, hst⟩
        have e1 := (Stw_even hst).1
        rw [hc] at e1
        have e1 := Option.some.inj e1
        have ek : k' = kN := by omega
        subst ek
        rcases (Stw_iff _ _ _ _ _).1 hst with ⟨h1, _⟩ | ⟨_, _, j', h1, h2, h3⟩
        · have : k' = x.2.length := h1
          omega
        · have : j' = to - 1 := by omega
          subst this
          exact ⟨rfl, h1⟩
      · rintro ⟨rfl, h1⟩
        refine ⟨hkT, (Stw_iff _ _ _ _ _).2 (.inr ⟨hkT, by rw [hc, hck], to - 1, h1, by rw [hc2, q4', hck], by omega⟩)⟩
    have hend : ∀ c' j, ¬ Stw (scOf x) w c' (to - 1) j := by
      intro c' j hst
      have e1 := (Stw_even hst).1
      rw [hc2] at e1
      have e1 := Option.some.inj e1
      omega
    have nogo : (¬ MR (scOf x).fd (scOf x).T (Stw (scOf x) w) ((scOf x).ms kN) (fr + 1) (to - 1)) → ¬ ∃ k, k < x.2.length ∧ Stw (scOf x) w k fr to := by
      rintro h1 ⟨k', h2⟩
      exact h1 ((hstep k').1 h2).2
    have hr40 : (1000000000000 : Nat) < room40 := by decide
    refine w_add (by omega) (by omega) ?_
    refine loopE_intro (fun mm e h2 => ∃ (i : Nat) (row : List Nat) (v12 : Value), fr + 1 ≤ i ∧ i ≤ to - 1 ∧ mm = to - 1 - i ∧ e 1 = wv ∧ e 2 = mv ∧ e 4 = .int .i64 (to : Nat) ∧ e 5 = .pointer (some ⟨h.length, 0, none⟩) ∧ e 11 = .int .i64 (c / 2) ∧ e 12 = v12 ∧ e 13 = .int .i64 (i : Nat) ∧ Ex h1 h2 ∧
        Pth (Stw (scOf x) w) (fr + 1) i row ∧ row.length ≤ i ∧ OwnG 1 (fun j => h1.length ≤ j) h2 v12 row.length (flat eI (row.map fun c : Nat => (c : Int)))) (to - 1 - (fr + 1))
      ⟨fr + 1, [], _, Nat.le_refl _, by
        rcases Nat.lt_or_ge fr (to - 1) with h | h
        · omega
        · have e1 : fr = to - 1 := by omega
          rw [← e1, hc] at hc2
          have := Option.some.inj hc2
          omega, rfl, rfl, rfl, rfl, rfl, rfl, rfl, congrArg (Value.int .i64) (by omega), Ex.refl _, .nil _, by simp, OwnG.nil _ _ _⟩ ?_
    rintro I mm e h2 ⟨i, row, v12, hi1, hi2, hmm, f1, f2, f4, f5, f11, f12, f13, x2, pth, hrl, o⟩ ih
    rw [f1, f2, f4, f5, f11, f12, f13]
    have X2 := x1.trans x2
    have g2 := x2.some g1
    have hw2 := hw.ex X2
    have hm2 := hm.ex X2
    have no2 : ∀ h3, Ex h2 h3 → (¬ ∃ k, k < x.2.length ∧ Stw (scOf x) w k fr to) → K (.bool false) h3 := fun h3 x3 hno => k false h3 (X2.trans x3) ⟨fun h => absurd h Bool.false_ne_true, fun h => absurd h hno⟩
    refine w_sub (by omega) (by omega) ?_
    rw [eto]
    refine w_lss (c_dec (fun r => ?_) (fun r => ?_))
    · obtain ⟨ci, hci⟩ := getElem?_of_lt (l := w) (i := i) (by omega)
      obtain ⟨hci0, hci1⟩ := hin ci (List.mem_of_getElem? hci)
      have hpi : (partners x.2.length w)[i]? = some ((mrun x.2.length w w.length).1 i) := partners_get (by omega)
      have hbd := mrun_in x.2.length w w.length i (by omega) (Nat.le_refl _)
      refine w_idxN (enc := eI) eI_len hw2 hci fun pp hpp => w_rd1 hpp (x := .int .i64 ci) rfl ?_
      refine w_offP (w_rdP g2 (v := .slice La x.2.length Lc) rfl (w_lenSl (w_mul (by omega) (by omega) (w_eql ?_))))
      have more : ∀ {h3 : AH} (cN i' : Nat) {K3 : Value → AH → Prop}, Ex h2 h3 → Stw (scOf x) w cN i i' →
          (∀ v' h5, Ex h1 h5 → OwnG 1 (fun j => h1.length ≤ j) h5 v' (row ++ [cN]).length (flat eI ((row ++ [cN]).map fun c : Nat => (c : Int))) → K3 v' h5) →
          optW (bldSl 1 [(.int .i64 0)] 1 [(0, .int .i64 ((cN : Nat) : Int))]) fun c_1 => newW none (.row c_1 true) h3 fun i_1 h_4 => appSl 1 v12 (.slice (some ⟨i_1, 0, none⟩) 1 1) h_4 fun v34 h_5 => K3 v34 h_5 := by
        intro h3 cN i' K3 x3 hst k3
        have o3 := o.mono (F' := fun j => h1.length ≤ j) (h' := h3) (fun _ _ h => h) fun j hj _ => x3.get j (o.on hj).2
        refine w_some (bldSl_one (v := .int .i64 ((cN : Nat) : Int)) rfl (by decide) rfl rfl) ?_
        refine n_newv fun h4 x4 l4 g4 => ?_
        refine appSl_of (app_g (by decide) (o3.mono (F' := fun j => h1.length ≤ j) (h' := h4) (fun _ _ h => h) fun j hj _ => x4.get j (o3.on hj).2) (srcL_new (n := 1) (s := 1) g4 (by decide) rfl) rfl (by omega) fun v' h5 a1 a2 a3 a4 => ?_)
        have hx2 := x2.len
        have hx3 := x3.len
        refine k3 v' h5 ⟨by omega, fun j hj => ?_⟩ ?_
        · rw [a3 j (by omega) (fun hon => by have := (o.on hon).1; omega), x4.get j (by omega), x3.get j (by omega)]
          exact x2.get j hj
        · rw [List.map_append, flat_append, List.length_append]
          exact a1.mono (fun j hj hF => hF.elim (fun h => h) fun h => by show h1.length ≤ j; omega) fun _ _ _ => rfl
      refine c_dec (fun r2 => ?_) (fun r2 => ?_)
      · refine w_offP (w_rdP g2 (v := .slice La x.2.length Lc) rfl (w_lenSl ?_))
        have hst : Stw (scOf x) w x.2.length i (i + 1) := (Stw_iff _ _ _ _ _).2 (.inl ⟨rfl, by rw [hci, r2]; rfl, rfl⟩)
        refine more x.2.length (i + 1) (Ex.refl _) hst fun v' h5 x5 o5 => w_add (by omega) (by omega) ?_
        exact ih (to - 1 - (i + 1)) _ _ (by omega) ⟨i + 1, row ++ [x.2.length], v', by omega, by omega, rfl, f1, f2, f4, f5, f11, rfl, congrArg (Value.int .i64) (by omega), x5, pth.snoc hst, by rw [List.length_append]; show row.length + 1 ≤ i + 1; omega, o5⟩
      · -- a child
        have stk : (∀ c' j, Stw (scOf x) w c' i j → ¬ j ≤ to - 1) → ¬ ∃ k, k < x.2.length ∧ Stw (scOf x) w k fr to := fun hno => nogo fun hmr => SchM.stuck pth (by omega) hno (MR_any _ hmr)
        have child : ∀ c' j, Stw (scOf x) w c' i j → c' < x.2.length ∧ (mrun x.2.length w w.length).1 i = (j : Int) - 1 := by
          intro c' j hst
          have hcl : c' < x.2.length := by
            rcases (Stw_iff _ _ _ _ _).1 hst with ⟨h1, h2, _⟩ | ⟨h1, _⟩
            · rw [hci] at h2
              exact absurd (Option.some.inj h2) r2
            · exact h1
          exact ⟨hcl, Stw_partner hst hcl (Stw_lt hst).2⟩
        refine w_idxN (enc := eI) eI_len hm2 hpi fun pp hpp => w_rd1 hpp (x := .int .i64 ((mrun x.2.length w w.length).1 i)) rfl (w_add (by omega) (by omega) (w_leq ?_))
        generalize hmi : (mrun x.2.length w w.length).1 i = mi at *
        by_cases q5 : mi + 1 ≤ ((i : Nat) : Int)
        · refine g_ft q5 (g_ft q5 (g_ft q5 (g_ft q5 (pk_tt q5 ?_))))
          refine gc_ft (gc_ft (gc_ft (gc_ft (gc_ft (gc_ft (gc_ft (pk_t (c_t ?_))))))))
          refine no2 _ (Ex.refl _) (stk fun c' j hst _ => ?_)
          have := (child c' j hst).2
          have := Stw_lt hst
          omega
        refine g_ff q5 (g_ff q5 (g_ff q5 (w_sub (by omega) (by omega) (g_ff q5 (w_gtr (pk_ff q5 ?_))))))
        rw [eto]
        by_cases q6 : ((to - 1 : Nat) : Int) < mi + 1
        · refine g_ft q6 (g_ft q6 (g_ft q6 (g_ft q6 (g_ft q6 (g_ft q6 (g_ft q6 (pk_tt q6 (c_t ?_))))))))
          refine no2 _ (Ex.refl _) (stk fun c' j hst hj => ?_)
          have := (child c' j hst).2
          omega
        obtain ⟨e', he'⟩ : ∃ e' : Nat, mi + 1 = (e' : Int) := ⟨(mi + 1).toNat, by omega⟩
        rw [he'] at q6
        rw [he']
        refine g_ff q6 ?_
        refine w_rdPA g2 (Nat.le_refl 2) ?_
        refine g_ff q6 (g_ff q6 (g_ff q6 (g_ff q6 (g_ff q6 ?_))))
        refine tree49 hx hn hin N i e' (by omega) (by omega) (by omega) h2 _ wv mv _ (hs.ex X2) hw2 hm2 fun t h3 x3 ht => ?_
        cases t with
        | false =>
          refine g_ff q6 ?_
          refine w_notb (pk_ff q6 (c_t ?_))
          refine no2 h3 x3 (stk fun c' j hst hj => ?_)
          obtain ⟨h4, h5⟩ := child c' j hst
          have : j = e' := by omega
          subst this
          exact absurd (ht.2 ⟨c', h4, hst⟩) Bool.false_ne_true
        | true =>
          refine g_ff q6 ?_
          refine w_notb (pk_ff q6 (c_f ?_))
          obtain ⟨c', hc', hst⟩ := ht.1 rfl
          have eci := (Stw_even hst).1
          rw [hci] at eci
          have eci := Option.some.inj eci
          refine w_idxN (enc := eI) eI_len (hw2.ex x3) hci fun pp hpp => w_rd1 hpp (x := .int .i64 ci) rfl (w_quo (by decide) hci0 (by omega) ?_)
          have e7 : ci / 2 = ((c' : Nat) : Int) := by omega
          rw [e7]
          refine more c' e' x3 hst fun v' h5 x5 o5 => ?_
          exact ih (to - 1 - e') _ _ (by omega) ⟨e', row ++ [c'], v', by omega, by omega, rfl, f1, f2, f4, f5, f11, rfl, rfl, x5, pth.snoc hst, by rw [List.length_append]; show row.length + 1 ≤ e'; have := Stw_lt hst; omega, o5⟩
    · have ei : i = to - 1 := by omega
      subst ei
      obtain ⟨el, hel⟩ := getElem?_of_lt (l := x.2) (i := kN) hkT
      obtain ⟨k1, n1, a1, ll, cp1, ecs, mh⟩ := EL.get _ _ Lel kN el hel
      refine w_rdPA g2 (Nat.le_refl 2) (w_offP (w_rdP g2 (v := .slice La x.2.length Lc) rfl ?_))
      rw [hkN]
      refine w_idx (Lsl.ex X2) (by omega) (by omega) fun p hp => ?_
      rw [Int.toNat_natCast, ecs] at hp
      refine w_off hp (by show 1 ≤ 4; decide) fun p' hp' => w_rdA hp' rfl ?_
      have hrow : SlT 1 eI h2 v12 (row.map fun c : Nat => (c : Int)) := by
        unfold SlT
        rw [List.length_map]
        exact o.sl
      obtain ⟨hok, hsz⟩ := hx.ok el (List.mem_of_getElem? hel)
      refine fits68 hT (by omega) (sz el.2) el.2 (Nat.le_refl _) hsz hok h2 _ _ v12 _ (hs.ex X2) (MH.mono (fun j hj => ⟨X2.get j hj, X2.lt hj⟩) _ _ mh) hrow fun v3 h3 x3 t3 => ?_
      refine t3.rd0 fun p3 rv ij b3 => ?_
      refine w_len o.sl ?_
      refine b3.rd (j := row.length) (Nat.le_refl _) fun t ht => ?_
      refine k t h3 (X2.trans x3) (ht.trans ?_)
      have ems : (scOf x).ms kN = el.2 := by show (x.2[kN]?.map (·.2)).getD _ = _; rw [hel]; rfl
      rw [ems] at hstep
      have hf := fits_iff pth hend el.2
      constructor
      · intro h
        exact ⟨kN, (hstep kN).2 ⟨rfl, hf.1 h⟩⟩
      · rintro ⟨k', hk'⟩
        exact hf.2 ((hstep k').1 hk').2
end Go.Proofs.Ytlenlhlipmkeeaa.W
end

section
/- Schema's laws: the document's Has. Conditions: none. -/
namespace Go.Proofs.Ytlenlhlipmkeeaa.W
open Go Go.AM SchM
set_option linter.unusedVariables false
set_option maxRecDepth 100000
theorem fd_bnd (x : W × List (W × Mdl)) (n : W) : -1 ≤ (scOf x).fd n ∧ (scOf x).fd n < x.2.length := by
  show -1 ≤ (x.2.findIdx? (fun e => decide (e.1 = n))).elim (-1) (fun i => (i : Int)) ∧ (x.2.findIdx? (fun e => decide (e.1 = n))).elim (-1) (fun i => (i : Int)) < _
  cases hf : x.2.findIdx? (fun e => decide (e.1 = n)) with
  | none => exact ⟨Int.le_refl _, by show (-1 : Int) < _; omega⟩
  | some i =>
    rw [List.findIdx?_eq_some_iff_getElem] at hf
    obtain ⟨hi, _⟩ := hf
    exact ⟨by show (-1 : Int) ≤ (i : Int); omega, by show (i : Int) < _; omega⟩
set_option maxHeartbeats 4000000 in
theorem has23 {h : AH} {x : W × List (W × Mdl)} {sv wv : Value} {w : List Int} {K : Value → AH → Prop} (hx : Hok x) (hs : SM h x sv) (hw : SlT 1 eI h wv w) (hn : w.length ≤ 100000000000)
    (k : ∀ (t : Bool) h', Ex h h' → (t = true ↔ Hs x w) → K (.bool t) h') : callW Try.prog 23 [sv, wv] h K := by
  have hT := hx.T
  obtain ⟨La, Lc, Lcs, rfl, Lsl, Lel⟩ := id hs
  refine c23 ?_
  unfold s23
  refine n_boxv rfl fun h1 x1 l1 g1 => ?_
  have g1 : h1[h.length]? = some (.row [.string (bs x.1), .slice La x.2.length Lc] true) := g1
  refine w_rdPA g1 (Nat.le_refl 2) ?_
  refine syms20 (hs.ex x1) hT fun v8 h2 x2 o2 => ?_
  have l20 : SlT 2 eSy h2 v8 (symsOf x) := o2.sl
  have sl := symsOf_len x
  have no : ∀ h3, Ex h2 h3 → ¬ Hs x w → K (.bool false) h3 := fun h3 x3 hno => k false h3 ((x1.trans x2).trans x3) ⟨fun h => absurd h Bool.false_ne_true, fun h => absurd h hno⟩
  refine loopE_intro (fun mm e h3 => ∃ j : Nat, j ≤ w.length ∧ mm = w.length - j ∧ e 1 = wv ∧ e 2 = .pointer (some ⟨h.length, 0, none⟩) ∧ e 5 = v8 ∧ e 6 = .int .i64 (j : Nat) ∧ h3 = h2 ∧ ∀ i c, i < j → w[i]? = some c → 0 ≤ c ∧ c ≤ 2 * (x.2.length : Int)) w.length
    ⟨0, Nat.zero_le _, rfl, rfl, rfl, rfl, rfl, rfl, fun i c h => by omega⟩ ?_
  rintro I mm e h3 ⟨j, hj, hmm, e1, e2, e5, e6, rfl, hin⟩ ih
  rw [e1, e2, e5, e6]
  have X2 := x1.trans x2
  have hw2 := hw.ex X2
  have g2 := x2.some g1
  refine w_len hw2 (w_lss (c_dec (fun q => ?_) (fun q => ?_)))
  · obtain ⟨c, hc⟩ := getElem?_of_lt (l := w) (i := j) (by omega)
    refine w_idxN (enc := eI) eI_len hw2 hc fun pp hpp => w_rd1 hpp (x := .int .i64 c) rfl (w_lss ?_)
    by_cases q1 : c < 0
    · refine g_ft q1 (g_ft q1 (g_ft q1 (g_ft q1 (g_ft q1 (g_ft q1 (g_ft q1 (pk_tt q1 (c_t ?_))))))))
      exact no _ (Ex.refl _) fun hh => by have := (hh.rng c (List.mem_of_getElem? hc)).1; omega
    refine g_ff q1 (g_ff q1 (g_ff q1 ?_))
    refine w_idxN (enc := eI) eI_len hw2 hc fun pp hpp => ?_
    refine g_ff q1 ?_
    refine w_rd1 hpp (x := .int .i64 c) rfl ?_
    refine g_ff q1 (g_ff q1 (w_len l20 (g_ff q1 (w_geq (pk_ff q1 ?_)))))
    rw [sl]
    refine c_dec (fun q2 => ?_) (fun q2 => ?_)
    · exact no _ (Ex.refl _) fun hh => by have := (hh.rng c (List.mem_of_getElem? hc)).2; have e9 : (scOf x).T = x.2.length := rfl; rw [e9] at this; omega
    · refine w_add (by omega) (by omega) (ih (w.length - (j + 1)) _ _ (by omega) ⟨j + 1, by omega, rfl, e1, e2, e5, rfl, rfl, fun i c' h1 h2 => ?_⟩)
      by_cases ei : i = j
      · subst ei
        rw [hc] at h2
        cases h2
        omega
      · exact hin i c' (by omega) h2
  · have ej : j = w.length := by omega
    subst ej
    have hin' : ∀ c ∈ w, 0 ≤ c ∧ c ≤ 2 * (x.2.length : Int) := fun c hc => by
      obtain ⟨i, hi⟩ := List.mem_iff_getElem?.1 hc
      exact hin i c (get_lt hi) hi
    refine w_len hw2 (w_eql ?_)
    by_cases q1 : ((w.length : Nat) : Int) = 0
    · refine gd_ft q1 (gd_ft q1 (gd_ft q1 (gd_ft q1 (gd_ft q1 (gd_ft q1 (gd_ft q1 (gd_ft q1 (gd_ft q1 (pk_tt q1 (c_t ?_))))))))))
      exact no _ (Ex.refl _) fun hh => by have := hh.len.1; omega
    obtain ⟨c0, hc0⟩ := getElem?_of_lt (l := w) (i := 0) (by omega)
    have bnd := fd_bnd x x.1
    refine gd_ff q1 (gd_ff q1 ?_)
    refine w_idxN (enc := eI) (i := 0) eI_len hw2 hc0 fun pp hpp => ?_
    refine gd_ff q1 (hist_nil ?_)
    refine w_rd1 hpp (x := .int .i64 c0) rfl ?_
    refine gd_ff q1 (hist_nil ?_)
    refine w_rdPA g2 (Nat.le_refl 2) ?_
    refine gd_ff q1 (w_offP (gd_ff q1 (hist_nil ?_)))
    refine w_rdP g2 (v := .string (bs x.1)) rfl ?_
    refine gd_ff q1 ?_
    refine find44x (hs.ex X2) hT fun h4 x4 => ?_
    have lt2 := lt_of_get g2
    refine read_all ?_ ?_
    · refine gd_ff q1 (w_mul (by omega) (by omega) (gd_ff q1 (w_neq (pk_ff q1 ?_))))
      refine c_dec (fun q2 => ?_) (fun q2 => ?_)
      · refine no _ x4 fun hh => ?_
        obtain ⟨k', h1, h2, h3⟩ := hh.len.2
        rw [hc0] at h3
        have := Option.some.inj h3
        rw [h1] at q2
        exact q2 this
      · have q2' : c0 = 2 * (scOf x).fd x.1 := Classical.not_not.1 q2
        have X4 := X2.trans x4
        refine w_rdPA (x4.some g2) (Nat.le_refl 2) ?_
        have l24 : SlT 2 eSy h4 v8 (symsOf x) := l20.ex x4
        refine match50 l24 (hw.ex X4) hn hT hin' fun v5 h5 x5 p5 => ?_
        refine ⟨idp x5 (x4.lt lt2), ?_⟩
        have X5 := X4.trans x5
        refine w_len (hw.ex X5) ?_
        refine tree49 hx hn hin' w.length 0 w.length (by omega) (by omega) (Nat.le_refl _) h5 _ wv v5 _ (hs.ex X5) (hw.ex X5) p5 fun t h6 x6 ht => ?_
        refine k t h6 (X5.trans x6) (ht.trans ?_)
        constructor
        · rintro ⟨k', h1, h2⟩
          have h3 := (Stw_even h2).1
          rw [hc0] at h3
          have h3 := Option.some.inj h3
          exact ⟨k', by omega, h1, h2⟩
        · rintro ⟨k', h1, h2, h3⟩
          exact ⟨k', h2, h3⟩
    · have ok8 : ∀ (n i off : Nat), i < h3.length → ∀ z ∈ ceOf n (.pointer (some ⟨i, off, none⟩)), vw z h3 = vw z h4 := fun n i off hi z hz => by
        rw [ce_id hz]
        exact vw_eq (x4.get i hi).symm
      have okp := PtrTo.ids (n := 1) hpp (Ex.refl _) x4
      intro t ht z hz
      simp only [List.mem_cons, List.not_mem_nil, or_false] at ht
      rcases ht with rfl | rfl | rfl
      · exact ok8 _ _ _ lt2 z hz
      · exact ok8 _ _ _ lt2 z hz
      · exact okp z hz
end Go.Proofs.Ytlenlhlipmkeeaa.W
end

section
/- Schema's laws: words of numbers; a word that is whole. Conditions: none. -/
namespace Go.Proofs.Ytlenlhlipmkeeaa.W
open Go Go.AM SchM
set_option linter.unusedVariables false
set_option maxRecDepth 100000
theorem within51 (a n : Int) (h : AH) (K : Value → AH → Prop) (h1 : 0 < n) (h2 : n ≤ 1152921504606846976)
   (k : K (.int .i64 (a % n)) h) : callW Try.prog 51 [.int .i64 a, .int .i64 n] h K := by
  obtain ⟨_, q1, q2, q3, q4⟩ := tmod_emod a n h1
  refine c51 ?_
  unfold s51
  refine w_tmod (by omega) ?_
  generalize hm : a.tmod n = m at *
  (repeat' (with_reducible first | refine w_lss ?_ | refine w_leq ?_ | refine w_gtr ?_ | refine w_geq ?_ | refine w_eql ?_ | refine w_neq ?_ | refine w_lenSl ?_ | refine w_lenStr ?_ | refine w_not ?_ | refine w_add (by omega) (by omega) ?_ | refine w_sub (by omega) (by omega) ?_ | refine w_rem (by omega) (by omega) ?_ | refine w_quo (by omega) (by omega) (by omega) ?_ | refine w_seql ?_ | refine w_sneq ?_ | refine c_t ?_ | refine c_f ?_ | refine c_tt (by first | assumption | omega) ?_ | refine c_ff (by first | assumption | omega) ?_ | refine c_dec (fun hc => ?_) (fun hc => ?_) | refine c_b (fun hc => ?_) (fun hc => ?_) | refine gc_tt ?_ | refine gc_ft ?_ | refine gc_tf ?_ | refine gc_ff ?_ | refine g_tt (by first | assumption | omega) ?_ | refine g_tf (by first | assumption | omega) ?_ | refine g_ft (by first | assumption | omega) ?_ | refine g_ff (by first | assumption | omega) ?_ | refine g_dec (fun hc => ?_) (fun hc => ?_) | refine g_decf (fun hc => ?_) (fun hc => ?_) | refine pk_t ?_ | refine pk_f ?_ | refine pk_tt (by first | assumption | omega) ?_ | refine pk_ff (by first | assumption | omega) ?_))
  · rw [q1 (by assumption)]; exact k
  · rw [q2 (by assumption)]; exact k
def wordOf (Lg : Nat) (ns : List Int) (most : Nat) : List Int := (ns.take most).map fun n => n % (Lg : Int)
theorem wordOf_len (Lg : Nat) (ns : List Int) (most : Nat) : (wordOf Lg ns most).length ≤ most := by
  unfold wordOf
  rw [List.length_map, List.length_take]
  omega
set_option maxHeartbeats 1000000 in
theorem word24 {h : AH} {vl vn : Value} {Lg : Nat} {csl : List Value} {ns : List Int} {most : Nat} {K : Value → AH → Prop} (hl : Sl 2 h vl Lg csl) (hL : 0 < Lg ∧ Lg ≤ 1000000000000) (hn : Ints h vn ns) (hm : most ≤ 1000)
    (k : ∀ v h', Ex h h' → OwnG 1 (fun j => h.length ≤ j) h' v (wordOf Lg ns most).length (flat eI (wordOf Lg ns most)) → K v h') : callW Try.prog 24 [vl, vn, .int .i64 (most : Nat)] h K := by
  have hr40 : (1000000000000 : Nat) < room40 := by decide
  refine c24 ?_
  unfold s24
  refine loopE_intro (fun mm e h2 => ∃ (j : Nat) (v7 : Value), j ≤ most ∧ j ≤ ns.length ∧ mm = most - j ∧ e 0 = vl ∧ e 1 = vn ∧ e 2 = .int .i64 (most : Nat) ∧ e 7 = v7 ∧ e 8 = .int .i64 (j : Nat) ∧ Ex h h2 ∧ OwnG 1 (fun j => h.length ≤ j) h2 v7 (wordOf Lg ns j).length (flat eI (wordOf Lg ns j))) most
    ⟨0, _, Nat.zero_le _, Nat.zero_le _, rfl, rfl, rfl, rfl, rfl, rfl, Ex.refl _, OwnG.nil _ _ _⟩ ?_
  rintro I mm e h2 ⟨j, v7, hj1, hj2, hmm, e0, e1, e2, e7, e8, x2, o⟩ ih
  rw [e0, e1, e2, e7, e8]
  have fin : ¬ (j < ns.length ∧ j < most) → K v7 h2 := by
    intro hno
    have e9 : ns.take j = ns.take most := by
      by_cases hq : j < most
      · rw [List.take_of_length_le (by omega), List.take_of_length_le (by omega)]
      · rw [show j = most by omega]
    have e10 : wordOf Lg ns j = wordOf Lg ns most := by unfold wordOf; rw [e9]
    rw [e10] at o
    exact k v7 h2 x2 o
  refine w_len (hn.ex x2) (w_lss ?_)
  by_cases q1 : ((j : Nat) : Int) < ((ns.length : Nat) : Int)
  · refine g_tt q1 (g_tt q1 (g_tt q1 (w_lss (pk_tt q1 (c_dec (fun q2 => ?_) (fun q2 => fin (fun h => by omega)))))))
    obtain ⟨z, hz⟩ := getElem?_of_lt (l := ns) (i := j) (by omega)
    refine w_idxN (enc := eI) eI_len (hn.ex x2) hz fun pp hpp => w_rd1 hpp (x := .int .i64 z) rfl (w_len (hl.ex x2) ?_)
    refine within51 _ _ _ _ (by omega) (by omega) ?_
    refine w_some (bldSl_one (v := .int .i64 (z % (Lg : Int))) rfl (by decide) rfl rfl) ?_
    refine n_newv fun h3 x3 l3 g3 => ?_
    have hlen := wordOf_len Lg ns j
    refine appSl_of (app_g (by decide) (o.mono (F' := fun j => h.length ≤ j) (h' := h3) (fun _ _ h => h) fun j hj _ => x3.get j (o.on hj).2) (srcL_new (n := 1) (s := 1) g3 (by decide) rfl) rfl (by omega) fun v' h4 a1 a2 a3 a4 => w_add (by omega) (by omega) ?_)
    have hx2 := x2.len
    refine ih (most - (j + 1)) _ _ (by omega) ⟨j + 1, v', by omega, by omega, rfl, e0, e1, e2, rfl, rfl, ⟨by omega, fun y hy => ?_⟩, ?_⟩
    · rw [a3 y (by omega) (fun hon => by have := (o.on hon).1; omega), x3.get y (by omega)]
      exact x2.get y hy
    · have e9 : wordOf Lg ns (j + 1) = wordOf Lg ns j ++ [z % (Lg : Int)] := by
        unfold wordOf
        rw [take_succ_get hz, List.map_append]
        rfl
      rw [e9, flat_append, List.length_append]
      exact a1.mono (fun y hy hF => hF.elim (fun h => h) fun hh => by show h.length ≤ y; omega) fun _ _ _ => rfl
  · exact g_tf q1 (g_tf q1 (g_tf q1 (pk_ff q1 (c_f (fin (fun h => by omega))))))
end Go.Proofs.Ytlenlhlipmkeeaa.W
end

section
/- Schema's laws: words that grow of numbers: an element's. Conditions: none. -/
namespace Go.Proofs.Ytlenlhlipmkeeaa.W
open Go Go.AM SchM
set_option linter.unusedVariables false
set_option maxRecDepth 100000
structure Grw (hb h0 : AH) (X : Nat) (ns : List Int) (v0 v1 : Value) (h : AH) (a : Nat) (v : Value) (w : List Int) : Prop where
  c : Chg (At X) h0 (At X) h
  mh : MkH hb h X [] ns v0 v1 a
  o : OwnG 1 (fun j => h0.length ≤ j) h v w.length (flat eI w)
  X : X < h0.length
section
variable {hb h0 h h' : AH} {X : Nat} {ns : List Int} {v0 v1 v : Value} {a : Nat} {w : List Int}
theorem MkH.step (m : MkH hb h X [] ns v0 v1 a) (hl : h.length ≤ h'.length) (hs : ∀ j, j < h0.length → h'[j]? = h[j]?) (hX : X < h0.length) : MkH hb h' X [] ns v0 v1 a :=
  ⟨(hs X hX).trans m.row, m.n0, m.n1, ⟨Nat.le_trans m.x.len hl, fun j hj => (hs j (by have := m.X; omega)).trans (m.x.get j hj)⟩, m.X⟩
theorem Grw.start (m : MkH hb h X [] ns v0 v1 a) : Grw hb h X ns v0 v1 h a (.slice none 0 0) [] := ⟨Chg.refl _ _, m, OwnG.nil _ _ _, m.lt⟩
theorem Grw.ext (g : Grw hb h0 X ns v0 v1 h a v w) (x : Ex h h') : Grw hb h0 X ns v0 v1 h' a v w :=
  ⟨g.c.trans (Chg.ex x), g.mh.ex x, g.o.mono (fun _ _ h => h) fun j hj _ => x.get j (g.o.on hj).2, g.X⟩
theorem Grw.chg {a' : Nat} (g : Grw hb h0 X ns v0 v1 h a v w) (c : Chg (At X) h (At X) h') (m : MkH hb h' X [] ns v0 v1 a') : Grw hb h0 X ns v0 v1 h' a' v w :=
  ⟨g.c.trans c, m, g.o.mono (fun _ _ h => h) fun j hj hF => c.get j (g.o.on hj).2 (fun e => by have e : j = X := e; have := g.X; omega), g.X⟩
theorem Grw.low {hs : AH} (g : Grw hb h0 X ns v0 v1 h a v w) (x : Ex hs h0) (hX : X < hs.length) : Grw hb hs X ns v0 v1 h a v w :=
  ⟨(Chg.ex x).trans g.c, g.mh, g.o.mono (fun j _ hj => Nat.le_trans x.len hj) fun _ _ _ => rfl, hX⟩
theorem Grw.app {x : Value} {u : List Int} {K : Value → AH → Prop} (g : Grw hb h0 X ns v0 v1 h a v w) (hx : Sl 1 h x u.length (flat eI u)) (hn : w.length + u.length ≤ 1000000000000)
    (k : ∀ v' h', Grw hb h0 X ns v0 v1 h' a v' (w ++ u) → K v' h') : appSl 1 v x h K := by
  have hr40 : (1000000000000 : Nat) < room40 := by decide
  refine appSl_sl hx (app_g (by decide) g.o (srcL_sl (by decide) hx) (by rw [flat_length eI_len]) (by omega) fun v' h' a1 a2 a3 a4 => ?_)
  have lo : h0.length ≤ h.length := g.c.len
  have same : ∀ j, j < h0.length → h'[j]? = h[j]? := fun j hj => a3 j (by omega) fun hon => by have := (g.o.on hon).1; omega
  refine k v' h' ⟨⟨Nat.le_trans lo a2, fun j hj hjX => (same j hj).trans (g.c.get j hj hjX), fun j hj => .inl hj⟩, g.mh.step a2 same g.X, ?_, g.X⟩
  rw [flat_append, List.length_append]
  exact a1.mono (fun j hj hF => hF.elim (fun h => h) fun e => by show h0.length ≤ j; omega) fun _ _ _ => rfl
theorem Grw.one {z : Int} {K : Value → AH → Prop} (g : Grw hb h0 X ns v0 v1 h a v w) (hn : w.length + 1 ≤ 1000000000000) (k : ∀ v' h', Grw hb h0 X ns v0 v1 h' a v' (w ++ [z]) → K v' h') :
    optW (bldSl 1 [(.int .i64 0)] 1 [(0, .int .i64 z)]) fun c => newW none (.row c true) h fun i h2 => appSl 1 v (.slice (some ⟨i, 0, none⟩) 1 1) h2 fun v' h' => K v' h' := by
  refine w_some (bldSl_one (v := .int .i64 z) rfl (by decide) rfl rfl) ?_
  refine n_newv fun h2 x2 l2 g2 => ?_
  have hs : Sl 1 h2 (.slice (some ⟨h.length, 0, none⟩) 1 1) [z].length (flat eI [z]) := ⟨rfl, .inr ⟨h.length, 0, 1, rfl, .inl ⟨by decide, Nat.le_refl _⟩, .inr ⟨_, true, g2, Nat.le_refl _, rfl⟩⟩⟩
  exact (g.ext x2).app hs hn k
structure Rs (hb h0 : AH) (X : Nat) (ns : List Int) (v0 v1 : Value) (h : AH) (a : Nat) (v : Value) (w : List Int) : Prop where
  c : Chg (At X) h0 (At X) h
  mh : MkH hb h X [] ns v0 v1 a
  sl : Sl 1 h v w.length (flat eI w)
  on : ∀ j, onId v j → h0.length ≤ j
theorem Grw.rs (g : Grw hb h0 X ns v0 v1 h a v w) : Rs hb h0 X ns v0 v1 h a v w := ⟨g.c, g.mh, g.o.sl, fun j hj => (g.o.on hj).1⟩
theorem Rs.low {hs : AH} (g : Rs hb h0 X ns v0 v1 h a v w) (x : Ex hs h0) : Rs hb hs X ns v0 v1 h a v w := ⟨(Chg.ex x).trans g.c, g.mh, g.sl, fun j hj => Nat.le_trans x.len (g.on j hj)⟩
def App1 (b : Nat) (h : AH) (v : Value) (w : List Int) : Prop := (∃ i, v = .slice (some ⟨i, 0, none⟩) 1 1 ∧ b ≤ i ∧ w.length = 1 ∧ h[i]? = some (.row (flat eI w) true)) ∨ OwnG 1 (fun j => b ≤ j) h v w.length (flat eI w)
theorem app_l1 {z : Int} {x : Value} {u : List Int} {b : Nat} {K : Value → AH → Prop} (hb : b ≤ h.length) (hx : Sl 1 h x u.length (flat eI u)) (hn : u.length < 1000000000000)
    (k : ∀ v' h', Ex h h' → App1 b h' v' ([z] ++ u) → K v' h') : optW (bldSl 1 [(.int .i64 0)] 1 [(0, .int .i64 z)]) fun c => newW none (.row c true) h fun i h2 => appSl 1 (.slice (some ⟨i, 0, none⟩) 1 1) x h2 fun v' h' => K v' h' := by
  have hr40 : (1000000000000 : Nat) < room40 := by decide
  have ho40 : (1000000000000 : Nat) < openCap := by decide
  refine w_some (bldSl_one (v := .int .i64 z) rfl (by decide) rfl rfl) ?_
  refine n_newv fun h2 x2 l2 g2 => ?_
  have g2 : h2[h.length]? = some (.row [.int .i64 z] true) := g2
  have hx2 := hx.ex x2
  have hsrc := srcL_sl (by decide) hx2
  refine appSl_sl hx2 (.inl ?_)
  by_cases h0 : u.length = 0
  · have hu : u = [] := List.eq_nil_of_length_eq_zero h0
    subst hu
    have : pAppS 1 (.slice (some ⟨h.length, 0, none⟩) 1 1) x h2 = some (.slice (some ⟨h.length, 0, none⟩) (1 + 0) 1, h2) := by
      unfold pAppS
      simp only [hsrc]
      rw [if_pos (by simp; omega), if_pos (by omega)]
      simp [pAppEx, stAt, flat]
    rw [this]
    exact k _ _ x2 (.inl ⟨h.length, rfl, hb, rfl, g2⟩)
  · have : pAppS 1 (.slice (some ⟨h.length, 0, none⟩) 1 1) x h2 = some (.slice (some ⟨h2.length, 0, none⟩) (1 + u.length) (openCap + 1), h2 ++ [AObj.row ([.int .i64 z] ++ flat eI u) true]) := by
      unfold pAppS
      simp only [hsrc]
      rw [if_pos (by omega), if_pos (by omega)]
      simp only [pAppEx]
      rw [if_neg (by omega)]
      simp [firstL, g2]
    rw [this]
    refine k _ _ (x2.trans (.app _ _)) (.inr ⟨flat_length eI_len _, .inr ⟨h2.length, _, by show b ≤ h2.length; omega, by show _ = Value.slice _ ([z] ++ u).length _; rw [List.length_append]; rfl, get_new _ _, ?_, ?_⟩⟩)
    · show ([z] ++ u).length * 1 ≤ (flat eI [z] ++ flat eI u).length
      rw [← flat_append, flat_length eI_len]
      exact Nat.le_refl _
    · show (flat eI [z] ++ flat eI u).take _ = _
      rw [← flat_append, List.take_of_length_le (by rw [flat_length eI_len]; exact Nat.le_refl _)]
theorem app_l2 {z : Int} {x : Value} {u : List Int} {b : Nat} {K : Value → AH → Prop} (hb : b ≤ h.length) (hx : App1 b h x u) (hn : u.length < 1000000000000)
    (k : ∀ v' h', h.length ≤ h'.length → (∀ j, j < b → h'[j]? = h[j]?) → OwnG 1 (fun j => b ≤ j) h' v' (u ++ [z]).length (flat eI (u ++ [z])) → K v' h') : optW (bldSl 1 [(.int .i64 0)] 1 [(0, .int .i64 z)]) fun c => newW none (.row c true) h fun i h2 => appSl 1 x (.slice (some ⟨i, 0, none⟩) 1 1) h2 fun v' h' => K v' h' := by
  have hr40 : (1000000000000 : Nat) < room40 := by decide
  have ho40 : (1000000000000 : Nat) < openCap := by decide
  refine w_some (bldSl_one (v := .int .i64 z) rfl (by decide) rfl rfl) ?_
  refine n_newv fun h2 x2 l2 g2 => ?_
  have g2 : h2[h.length]? = some (.row [.int .i64 z] true) := g2
  have hsrc := srcL_new (n := 1) (s := 1) (cap := 1) g2 (by decide) rfl
  rcases hx with ⟨i, rfl, hbi, hu, gi⟩ | o
  · refine appSl_of (.inl ?_)
    have gi2 := x2.some gi
    have : pAppS 1 (.slice (some ⟨i, 0, none⟩) 1 1) (.slice (some ⟨h.length, 0, none⟩) 1 1) h2 = some (.slice (some ⟨h2.length, 0, none⟩) (1 + 1) (openCap + 1), h2 ++ [AObj.row (flat eI u ++ [.int .i64 z]) true]) := by
      unfold pAppS
      simp only [hsrc]
      rw [if_pos (by omega), if_pos (by omega)]
      simp only [pAppEx]
      rw [if_neg (by omega)]
      have e1 : (flat eI u).length = 1 := by rw [flat_length eI_len, hu]
      simp [firstL, gi2, e1]
      rw [List.take_of_length_le (by omega)]
    rw [this]
    refine k _ _ (by simp; omega) (fun j hj => ?_) ⟨flat_length eI_len _, .inr ⟨h2.length, _, by show b ≤ h2.length; omega, by rw [List.length_append, hu]; rfl, get_new _ _, ?_, ?_⟩⟩
    · rw [List.getElem?_append_left (by omega)]
      exact x2.get j (by omega)
    · show (u ++ [z]).length * 1 ≤ (flat eI u ++ flat eI [z]).length
      rw [← flat_append, flat_length eI_len]
      exact Nat.le_refl _
    · show (flat eI u ++ flat eI [z]).take _ = _
      rw [← flat_append, List.take_of_length_le (by rw [flat_length eI_len]; exact Nat.le_refl _)]
  · refine appSl_of (app_g (by decide) (o.mono (F' := fun j => b ≤ j) (h' := h2) (fun _ _ h => h) fun j hj _ => x2.get j (o.on hj).2) hsrc rfl (by omega) fun v' h3 a1 a2 a3 a4 => ?_)
    refine k v' h3 (by omega) (fun j hj => ?_) ?_
    · rw [a3 j (by omega) (fun hon => by have := (o.on hon).1; omega)]
      exact x2.get j (by omega)
    · rw [flat_append, List.length_append]
      exact a1.mono (fun j hj hF => hF.elim (fun h => h) fun e => by show b ≤ j; omega) fun _ _ _ => rfl
end
def Bt : Nat → Nat
  | 0 => 0
  | D + 1 => (Bt D + 4) * 64 + 2
structure GCtx where
  hb : AH
  X : Nat
  ns : List Int
  v0 : Value
  v1 : Value
  x : W × List (W × Mdl)
  sv : Value
structure GOK (g : GCtx) : Prop where
  hx : Hok g.x
  s : SM g.hb g.x g.sv
  B : ∀ C, ∀ e ∈ g.x.2, cst C e.2 ≤ (C + 4) * 64
abbrev GCtx.Mk (g : GCtx) (h : AH) (a : Nat) : Prop := MkH g.hb h g.X [] g.ns g.v0 g.v1 a
abbrev GCtx.Rs (g : GCtx) (h0 h : AH) (a : Nat) (v : Value) (w : List Int) : Prop := Go.Proofs.Ytlenlhlipmkeeaa.W.Rs g.hb h0 g.X g.ns g.v0 g.v1 h a v w
abbrev GCtx.Gr (g : GCtx) (h0 h : AH) (a : Nat) (v : Value) (w : List Int) : Prop := Grw g.hb h0 g.X g.ns g.v0 g.v1 h a v w
def TreeC (g : GCtx) (D : Nat) : Prop := ∀ (h : AH) (a : Nat) (nm : W) (K : Value → AH → Prop), g.Mk h a → a + Bt D ≤ 100000000000 →
  (∀ v w (is : Bool) h' a', g.Rs h h' a' v w → a' ≤ a + Bt D → w.length ≤ Bt D → (is = true → ∃ k : Nat, (scOf g.x).fd nm = k ∧ k < g.x.2.length ∧ WT (scOf g.x) k w) → K (.tuple #[v, .bool is]) h') →
  callW Try.prog 47 [.pointer (some ⟨g.X, 0, none⟩), g.sv, .string (bs nm), .int .i64 (D : Nat)] h K
def GrowC (g : GCtx) (D : Nat) (md : Mdl) : Prop := ∀ (h : AH) (a : Nat) (mv : Value) (K : Value → AH → Prop), g.Mk h a → MH g.hb (fun j => j < g.hb.length) md mv → a + cst (Bt D) md ≤ 100000000000 →
  (∀ v w (is : Bool) h' a', g.Rs h h' a' v w → a' ≤ a + cst (Bt D) md → w.length ≤ cst (Bt D) md → (is = true → WM (scOf g.x) md w) → K (.tuple #[v, .bool is]) h') →
  callW Try.prog 65 [.pointer (some ⟨g.X, 0, none⟩), g.sv, mv, .int .i64 (D : Nat)] h K
theorem tree47 {g : GCtx} (ok : GOK g) {D : Nat} (hD : D ≤ 100) (hg : ∀ D', D = D' + 1 → ∀ e ∈ g.x.2, GrowC g D' e.2) : TreeC g D := by
  intro h a nm K m hB k
  have hT := ok.hx.T
  obtain ⟨La, Lc, Lcs, hsv, Lsl, Lel⟩ := id ok.s
  refine c47 ?_
  unfold s47
  rw [hsv]
  refine n_boxv rfl fun h1 x1 l1 g1 => ?_
  have g1 : h1[h.length]? = some (.row [.string (bs g.x.1), .slice La g.x.2.length Lc] true) := g1
  have xb := m.x
  have nothing : ∀ h', Ex h h' → K (.tuple #[.slice none 0 0, .bool false]) h' := fun h' x' => k _ [] false h' a ((Grw.start m).ext x').rs (Nat.le_add_right _ _) (Nat.zero_le _) fun h => absurd h Bool.false_ne_true
  refine w_rdPA g1 (Nat.le_refl 2) ?_
  have s1 : SM h1 g.x (.agg #[.string (bs g.x.1), .slice La g.x.2.length Lc]) := by rw [← hsv]; exact ok.s.ex (xb.trans x1)
  refine find44x s1 hT fun h2 x2 => ?_
  have bnd := fd_bnd g.x nm
  refine w_leq ?_
  by_cases q1 : ((D : Nat) : Int) ≤ 0
  · exact g_ft q1 (g_ft q1 (pk_tt q1 (c_t (nothing h2 (x1.trans x2)))))
  refine g_ff q1 (g_ff q1 (w_lss (pk_ff q1 (c_dec (fun q2 => nothing h2 (x1.trans x2)) (fun q2 => ?_)))))
  obtain ⟨D', rfl⟩ : ∃ D', D = D' + 1 := ⟨D - 1, by omega⟩
  obtain ⟨kN, hkN⟩ : ∃ kN : Nat, (scOf g.x).fd nm = (kN : Int) := ⟨((scOf g.x).fd nm).toNat, by omega⟩
  have hkT : kN < g.x.2.length := by omega
  obtain ⟨el, hel⟩ := getElem?_of_lt (l := g.x.2) (i := kN) hkT
  have hmem := List.mem_of_getElem? hel
  obtain ⟨k1, n1, a1, ll, cp1, ecs, mh⟩ := EL.get _ _ Lel kN el hel
  refine w_rdPA (x2.some g1) (Nat.le_refl 2) (w_offP (w_rdP (x2.some g1) (v := .slice La g.x.2.length Lc) rfl ?_))
  rw [hkN]
  refine w_idx (Lsl.ex (xb.trans (x1.trans x2))) (by omega) (by omega) fun p hp => ?_
  rw [Int.toNat_natCast, ecs] at hp
  refine w_off hp (by show 1 ≤ 4; decide) fun p' hp' => w_rdA hp' rfl (w_sub (by omega) (by omega) ?_)
  have eD : ((D' + 1 : Nat) : Int) - 1 = (D' : Nat) := by omega
  rw [eD]
  have hc := ok.B (Bt D') el hmem
  have hBt : Bt (D' + 1) = (Bt D' + 4) * 64 + 2 := rfl
  have m2 := m.ex (x1.trans x2)
  have hgr := hg D' rfl el hmem h2 a (.agg #[.int .i64 k1, .string (bs n1), .slice a1 ll cp1])
  rw [hsv] at hgr
  refine hgr _ m2 mh (by omega) fun v w is h5 a' gr ha' hw' his => ?_
  refine w_some (v := v) rfl ?_
  refine w_some (v := .bool is) rfl ?_
  refine w_mul (by omega) (by omega) ?_
  have lo := gr.c.len
  have hlt := m.lt
  refine app_l1 (b := h2.length) lo gr.sl (by omega) fun v40 h7 x7 ap => ?_
  refine w_mul (by omega) (by omega) (w_add (by omega) (by omega) ?_)
  refine app_l2 (b := h2.length) (by have := x7.len; omega) ap (by rw [List.length_append]; show 1 + w.length < _; omega) fun v45 h9 l9 s9 o9 => ?_
  have low9 : ∀ j, j < h2.length → h9[j]? = h5[j]? := fun j hj => (s9 j hj).trans (x7.get j (by omega))
  have h2X : g.X < h2.length := m2.lt
  refine k v45 _ is h9 a' (Grw.rs (Grw.low ⟨⟨by have := x7.len; omega, fun j hj hjX => (low9 j hj).trans (gr.c.get j hj hjX), fun j hj => .inl hj⟩, gr.mh.step (h0 := h2) (by have := x7.len; omega) low9 h2X, o9, h2X⟩ (x1.trans x2) hlt)) (by omega) ?_ fun hi => ⟨kN, hkN, hkT, ?_⟩
  · rw [List.length_append, List.length_append]
    show 1 + w.length + 1 ≤ _
    omega
  · have hwm := his hi
    have ems : (scOf g.x).ms kN = el.2 := by show (g.x.2[kN]?.map (·.2)).getD _ = _; rw [hel]; rfl
    rw [← ems] at hwm
    exact tree_word hkT hwm
end Go.Proofs.Ytlenlhlipmkeeaa.W
end

section
/- Schema's laws: words that grow of numbers: a model's. Conditions: none. -/
namespace SchM
theorem WM.seq0 {s : Sc} {n : W} : WR (fun w => MSeq s.fd s.T (Stw s w) []) [] := WR.nil fun w i => by rw [MSeq]
theorem WM.seqS {s : Sc} {l : List Mdl} {m : Mdl} {v u : List Int} (h1 : WR (fun w => MSeq s.fd s.T (Stw s w) l) v) (h2 : WM s m u) : WR (fun w => MSeq s.fd s.T (Stw s w) (l ++ [m])) (v ++ u) :=
  h1.app (fun w i k j a b => (MSeq_snoc _ _ _ _).2 ⟨k, a, b⟩) h2
theorem WM.rep0 {s : Sc} {m : Mdl} : WR (fun w => RT (MR s.fd s.T (Stw s w) m)) [] := WR.nil fun w i => .nil i
theorem WM.repS {s : Sc} {m : Mdl} {v u : List Int} (h1 : WR (fun w => RT (MR s.fd s.T (Stw s w) m)) v) (h2 : WM s m u) : WR (fun w => RT (MR s.fd s.T (Stw s w) m)) (v ++ u) :=
  h1.app (fun w i k j a b => a.snoc b) h2
theorem MOr_mem {fd : W → Int} {T : Nat} {S : Stp} {m : Mdl} {i j : Nat} (h : MR fd T S m i j) : ∀ {l : List Mdl}, m ∈ l → MOr fd T S l i j
  | [], hm => by cases hm
  | a :: l, hm => by
    rw [MOr]
    rcases List.mem_cons.1 hm with rfl | hm
    · exact .inl h
    · exact .inr (MOr_mem h hm)
end SchM
namespace Go.Proofs.Ytlenlhlipmkeeaa.W
open Go Go.AM SchM
set_option linter.unusedVariables false
set_option maxRecDepth 100000
theorem MRk {s : Sc} {w : List Int} {k : Int} {n : W} {l : List Mdl} {i j : Nat} (h : (k = 1 ∧ i = j) ∨ (k = 2 ∧ RT (Any (Stw s w)) i j) ∨ (k = 3 ∧ Stw s w s.T i j) ∨ (k = 4 ∧ ∃ c : Nat, s.fd n = c ∧ Stw s w c i j) ∨ (k = 5 ∧ MSeq s.fd s.T (Stw s w) l i j) ∨ (k = 6 ∧ MOr s.fd s.T (Stw s w) l i j) ∨
      (k = 7 ∧ RT (MHd s.fd s.T (Stw s w) l) i j) ∨ (k = 8 ∧ ∃ m, MHd s.fd s.T (Stw s w) l i m ∧ RT (MHd s.fd s.T (Stw s w) l) m j) ∨ (k = 9 ∧ (i = j ∨ MHd s.fd s.T (Stw s w) l i j))) : MR s.fd s.T (Stw s w) (.mk k n l) i j := by
  rw [MR]; exact h
theorem MHd1 {s : Sc} {w : List Int} {m : Mdl} : MHd s.fd s.T (Stw s w) [m] = MR s.fd s.T (Stw s w) m := by
  funext a b
  rw [MHd]
inductive Rep (s : Sc) (m : Mdl) : Nat → List Int → Prop where
  | z : Rep s m 0 []
  | s {i : Nat} {v u : List Int} : Rep s m i v → WM s m u → Rep s m (i + 1) (v ++ u)
theorem Rep.rt {s : Sc} {m : Mdl} {i : Nat} {v : List Int} (h : Rep s m i v) : WR (fun w => RT (MR s.fd s.T (Stw s w) m)) v := by
  induction h with
  | z => exact WM.rep0
  | s _ h2 ih => exact WM.repS ih h2
theorem Rep.plus {s : Sc} {m : Mdl} : ∀ {i : Nat} {v : List Int}, Rep s m i v → 0 < i → WR (fun w a b => ∃ c, MR s.fd s.T (Stw s w) m a c ∧ RT (MR s.fd s.T (Stw s w) m) c b) v
  | 0, _, _, h0 => by omega
  | i + 1, _, .s h1 h2, _ => by
    cases i with
    | zero =>
      cases h1
      rw [List.nil_append]
      exact h2.imp fun w a b h => ⟨b, h, .nil b⟩
    | succ i => exact (Rep.plus h1 (Nat.succ_pos _)).app (fun w a c b ⟨d, h3, h4⟩ h5 => ⟨d, h3, h4.snoc h5⟩) h2
theorem Rep.star {s : Sc} {m : Mdl} {n : W} {i : Nat} {v : List Int} (h : Rep s m i v) : WM s (.mk 7 n [m]) v := h.rt.imp fun w a b hr => MRk (.inr (.inr (.inr (.inr (.inr (.inr (.inl ⟨rfl, by rw [MHd1]; exact hr⟩)))))))
theorem Rep.plusM {s : Sc} {m : Mdl} {n : W} {i : Nat} {v : List Int} (h : Rep s m i v) (h0 : 0 < i) : WM s (.mk 8 n [m]) v := (h.plus h0).imp fun w a b hr => MRk (.inr (.inr (.inr (.inr (.inr (.inr (.inr (.inl ⟨rfl, by rw [MHd1]; exact hr⟩))))))))
theorem Rep.opt {s : Sc} {m : Mdl} {n : W} {i : Nat} {v : List Int} (h : Rep s m i v) (h0 : i ≤ 1) : WM s (.mk 9 n [m]) v := by
  cases h with
  | z => exact WR.nil fun w i => MRk (.inr (.inr (.inr (.inr (.inr (.inr (.inr (.inr ⟨rfl, .inl rfl⟩))))))))
  | s h1 h2 =>
    rename_i i v u
    have : i = 0 := by omega
    subst this
    cases h1
    rw [List.nil_append]
    exact h2.imp fun w a b h => MRk (.inr (.inr (.inr (.inr (.inr (.inr (.inr (.inr ⟨rfl, .inr (by rw [MHd1]; exact h)⟩))))))))
set_option maxHeartbeats 4000000 in
theorem grow65 {g : GCtx} (ok : GOK g) {D : Nat} (hD : D ≤ 100) (ht : TreeC g D) : ∀ (N : Nat) (md : Mdl), sz md ≤ N → N ≤ 100000000000 → okM md = true → GrowC g D md
  | 0, md, hN, _, _ => by have := sz_pos md; omega
  | N + 1, .mk kk n l, hN, hN2, hok => by
    intro h a mv K m hm hB k
    have hT := ok.hx.T
    obtain ⟨La, Lc, Lcs, hsv, Lsl, Lel⟩ := id ok.s
    obtain ⟨okl, cases_⟩ := okM_cases hok
    have hszl : ∀ i m', l[i]? = some m' → sz m' ≤ N := fun i m' hi => by
      have := sz_get l i m' hi
      have h2 : sz (.mk kk n l) = 1 + szL l := rfl
      omega
    have hln : l.length ≤ 100000000000 := by
      have h1 := szL_len l
      have h2 : sz (.mk kk n l) = 1 + szL l := rfl
      omega
    unfold MH at hm
    obtain ⟨sa, cp, cs, rfl, sl, _, ml⟩ := hm
    refine c65 ?_
    unfold s65
    rw [hsv]
    refine n_boxv rfl fun h1 x1 l1 g1 => ?_
    refine n_boxv rfl fun h2 x2 l2 g2 => ?_
    have G1 : h2[h.length]? = some (.row [.string (bs g.x.1), .slice La g.x.2.length Lc] true) := x2.some g1
    have G2 : h2[h1.length]? = some (.row [.int .i64 kk, .string (bs n), .slice sa l.length cp] true) := g2
    have x12 := x1.trans x2
    have hlt := m.lt
    have m2 : g.Mk h2 a := m.ex x12
    have gr0 : g.Gr h2 h2 a (.slice none 0 0) [] := Grw.start m2
    have lt1 := lt_of_get G1
    have lt2 := lt_of_get G2
    have nX1 : h.length ≠ g.X := by omega
    have nX2 : h1.length ≠ g.X := by omega
    generalize hC : cst (Bt D) (.mk kk n l) = C at *
    have kf : ∀ v w (is : Bool) h' a', g.Rs h2 h' a' v w → a' ≤ a + C → w.length ≤ C → (is = true → WM (scOf g.x) (.mk kk n l) w) → K (.tuple #[v, .bool is]) h' := fun v w is h' a' gr h3 h4 h5 => k v w is h' a' (gr.low x12) h3 h4 h5
    have box1 : ∀ {h' : AH}, Chg (At g.X) h2 (At g.X) h' → h'[h.length]? = some (.row [.string (bs g.x.1), .slice La g.x.2.length Lc] true) := fun c => (c.get _ lt1 nX1).trans G1
    have box2 : ∀ {h' : AH}, Chg (At g.X) h2 (At g.X) h' → h'[h1.length]? = some (.row [.int .i64 kk, .string (bs n), .slice sa l.length cp] true) := fun c => (c.get _ lt2 nX2).trans G2
    have part : ∀ {h5 : AH} {j : Int} {m' : Mdl} {K2 : Value → Value → Prop}, Ex g.hb h5 → 0 ≤ j → l[j.toNat]? = some m' → (∀ p mv', MH g.hb (fun j => j < g.hb.length) m' mv' → K2 p mv') →
        optW (pIdxS 3 (.slice sa l.length cp) (.int .i64 j)) fun p => optW (rdRow true 3 p h5) fun mv' => K2 p mv' := by
      intro h5 j m' K2 X5 hj0 hj k2
      have hlt := get_lt hj
      obtain ⟨cx, cy, cz, ec, mh⟩ := ML.get l cs ml j.toNat m' hj
      refine w_idx (sl.ex X5) (by omega) (by omega) fun p hp => ?_
      rw [ec] at hp
      exact w_rdA hp rfl (k2 _ _ mh)
    have rec_ : ∀ {h5 : AH} {a5 : Nat} {i : Nat} {m' : Mdl} {mv' : Value} {K2 : Value → AH → Prop}, g.Mk h5 a5 → l[i]? = some m' → MH g.hb (fun j => j < g.hb.length) m' mv' → a5 + cst (Bt D) m' ≤ 100000000000 →
        (∀ v w (is : Bool) h' a', g.Rs h5 h' a' v w → a' ≤ a5 + cst (Bt D) m' → w.length ≤ cst (Bt D) m' → (is = true → WM (scOf g.x) m' w) → K2 (.tuple #[v, .bool is]) h') →
        callW Try.prog 65 [.pointer (some ⟨g.X, 0, none⟩), .agg #[.string (bs g.x.1), .slice La g.x.2.length Lc], mv', .int .i64 (D : Nat)] h5 K2 := by
      intro h5 a5 i m' mv' K2 m5 hi mh hb5 k2
      have := grow65 ok hD ht N m' (hszl i m' hi) (by omega) (okML_get l okl m' (List.mem_of_getElem? hi)) h5 a5 mv' K2 m5 mh hb5 k2
      rw [hsv] at this
      exact this
    refine joinE_intro (fun e h' => ∃ v w a', e 10 = v ∧ g.Gr h2 h' a' v w ∧ a' ≤ a + C ∧ w.length ≤ C ∧ WM (scOf g.x) (.mk kk n l) w) ?_ ?_
    · rintro e h' ⟨v, w, a', e10, gr, h3, h4, h5⟩
      rw [e10]
      exact w_len gr.o.sl (w_lss (kf v w _ h' a' gr.rs h3 h4 fun _ => h5))
    intro J hJ
    refine w_offP (w_rdP G2 (v := .int .i64 kk) rfl (w_eql ?_))
    refine c_dec (fun q => ?_) (fun q3 => ?_)
    · refine w_offP (w_rdP G1 (v := .slice La g.x.2.length Lc) rfl (w_lenSl (w_mul (by omega) (by omega) ?_)))
      refine w_some (bldSl_one (v := .int .i64 (2 * ((g.x.2.length : Nat) : Int))) rfl (by decide) rfl rfl) ?_
      refine n_newv fun h3 x3 l3 g3 => ?_
      have hs : Sl 1 h3 (.slice (some ⟨h2.length, 0, none⟩) 1 1) [2 * ((g.x.2.length : Nat) : Int)].length (flat eI [2 * ((g.x.2.length : Nat) : Int)]) := ⟨rfl, .inr ⟨h2.length, 0, 1, rfl, .inl ⟨by decide, Nat.le_refl _⟩, .inr ⟨_, true, g3, Nat.le_refl _, rfl⟩⟩⟩
      have hC1 : C = 1 := by rw [← hC]; subst q; simp [cst]
      refine kf _ [2 * ((g.x.2.length : Nat) : Int)] true h3 a ⟨Chg.ex x3, m2.ex x3, hs, fun j hj => ?_⟩ (Nat.le_add_right _ _) (by rw [hC1]; exact Nat.le_refl _) fun _ => ?_
      · have : h2.length = j := hj
        omega
      · exact (text_word (scOf g.x)).imp fun w i j h => MRk (.inr (.inr (.inl ⟨q, h⟩)))
    refine w_eql (c_dec (fun q => ?_) (fun q4 => ?_))
    · refine w_rdPA G1 (Nat.le_refl 2) (w_offP (w_rdP G2 (v := .string (bs n)) rfl ?_))
      have hC1 : C = Bt D := by rw [← hC]; subst q; simp [cst]
      have htr := ht h2 a n
      rw [hsv] at htr
      refine htr _ m2 (by omega) fun v w is h' a' gr h3 h4 h5 => ?_
      refine w_some (v := v) rfl ?_
      refine w_some (v := .bool is) rfl ?_
      refine kf v w is h' a' gr (by omega) (by omega) fun hi => ?_
      obtain ⟨kN, h6, h7, h8⟩ := h5 hi
      exact h8.imp fun w i j h => MRk (.inr (.inr (.inr (.inl ⟨q, kN, h6, h⟩))))
    refine w_eql (c_dec (fun q => ?_) (fun q2 => ?_))
    · have hC1 : C = 2 := by rw [← hC]; subst q; simp [cst]
      refine nx30 m2 (by omega) (by decide) fun h3 c3 l3 m3 => ?_
      have nxb := nxA_le g.ns a
      have n3 := nx_in g.ns a (show (0 : Int) < 3 by decide)
      refine loopE_intro (fun mm e h4 => ∃ (j : Nat) (v : Value) (w : List Int), mm = j ∧ j + w.length ≤ 2 ∧ e 5 = .pointer (some ⟨h.length, 0, none⟩) ∧ e 10 = v ∧ e 11 = .int .i64 (j : Nat) ∧ g.Gr h2 h4 (nxA g.ns a) v w ∧ WR (fun w => RT (Any (Stw (scOf g.x) w))) w) (nx g.ns a 3).toNat
        ⟨(nx g.ns a 3).toNat, _, [], rfl, by show (nx g.ns a 3).toNat + 0 ≤ 2; omega, rfl, rfl, congrArg (Value.int .i64) (by omega), gr0.chg c3 m3, WR.nil fun w i => .nil i⟩ ?_
      rintro I mm e h4 ⟨j, v, w, hmm, hjw, f5, f10, f11, gr, hw⟩ ih
      rw [f5, f10, f11]
      refine w_gtr (c_dec (fun r => ?_) (fun r => ?_))
      · refine w_offP (w_rdP (box1 gr.c) (v := .slice La g.x.2.length Lc) rfl (w_lenSl (w_mul (by omega) (by omega) ?_)))
        refine gr.one (by omega) fun v' h5 gr5 => w_sub (by omega) (by omega) ?_
        refine ih (j - 1) _ _ (by omega) ⟨j - 1, v', _, rfl, by rw [List.length_append]; show j - 1 + (w.length + 1) ≤ 2; omega, f5, rfl, congrArg (Value.int .i64) (by omega), gr5, ?_⟩
        exact hw.app (fun w i k j a b => a.snoc ⟨_, b⟩) (text_word (scOf g.x))
      · refine hJ _ _ ⟨v, w, _, f10, gr, by omega, by omega, hw.imp fun w i j h => MRk (.inr (.inl ⟨q, h⟩))⟩
    refine w_eql (c_dec (fun q => ?_) (fun q5 => ?_))
    · have hC1 : C = cstL (Bt D) l := by rw [← hC]; subst q; simp [cst]
      refine loopE_intro (fun mm e h4 => ∃ (j : Nat) (v : Value) (w : List Int) (a4 : Nat), j ≤ l.length ∧ mm = l.length - j ∧ e 0 = .pointer (some ⟨g.X, 0, none⟩) ∧ e 3 = .int .i64 (D : Nat) ∧ e 5 = .pointer (some ⟨h.length, 0, none⟩) ∧ e 6 = .pointer (some ⟨h1.length, 0, none⟩) ∧ e 10 = v ∧ e 12 = .int .i64 (j : Nat) ∧
          g.Gr h2 h4 a4 v w ∧ a4 ≤ a + cstL (Bt D) (l.take j) ∧ w.length ≤ cstL (Bt D) (l.take j) ∧ WR (fun w => MSeq (scOf g.x).fd (scOf g.x).T (Stw (scOf g.x) w) (l.take j)) w) l.length
        ⟨0, _, [], a, Nat.zero_le _, rfl, rfl, rfl, rfl, rfl, rfl, rfl, gr0, Nat.le_add_right _ _, Nat.zero_le _, by rw [List.take_zero]; exact WM.seq0 (n := n)⟩ ?_
      rintro I mm e h4 ⟨j, v, w, a4, hj, hmm, f0, f3, f5, f6, f10, f12, gr, ha4, hw4, hw⟩ ih
      rw [f0, f3, f5, f6, f10, f12]
      refine w_offP (w_rdP (box2 gr.c) (v := .slice sa l.length cp) rfl (w_lenSl (w_lss (c_dec (fun r => ?_) (fun r => ?_)))))
      · obtain ⟨m', hm'⟩ := getElem?_of_lt (l := l) (i := j) (by omega)
        have hcs := cstL_snoc (Bt D) (l.take j) m'
        rw [← take_succ_get hm'] at hcs
        have hct := cstL_take (Bt D) l (j + 1)
        refine w_rdPA (box1 gr.c) (Nat.le_refl 2) (w_offP (w_rdP (box2 gr.c) (v := .slice sa l.length cp) rfl ?_))
        refine part (j := (j : Int)) gr.mh.x (by omega) (by rw [Int.toNat_natCast]; exact hm') fun p mv' mh => ?_
        refine rec_ gr.mh hm' mh (by omega) fun v5 w5 is h5 a5 rs ha5 hw5 his => ?_
        refine w_some (v := v5) rfl ?_
        refine w_some (v := .bool is) rfl (w_notb ?_)
        cases is with
        | false =>
          refine c_t ?_
          refine kf _ [] false h5 a5 ⟨gr.c.trans rs.c, rs.mh, (OwnG.nil 1 (fun _ => True) _).sl, fun j hj => hj.elim⟩ (by omega) (Nat.zero_le _) fun h => absurd h Bool.false_ne_true
        | true =>
          refine c_f ?_
          refine (gr.chg rs.c rs.mh).app rs.sl (by omega) fun v6 h6 gr6 => w_add (by omega) (by omega) ?_
          refine ih (l.length - (j + 1)) _ _ (by omega) ⟨j + 1, v6, w ++ w5, a5, by omega, rfl, f0, f3, f5, f6, rfl, rfl, gr6, by omega, by rw [List.length_append]; omega, ?_⟩
          rw [take_succ_get hm']
          exact WM.seqS hw (his rfl)
      · have ej : l.take j = l := List.take_of_length_le (by omega)
        rw [ej] at ha4 hw4 hw
        exact hJ _ _ ⟨v, w, a4, f10, gr, by omega, by omega, hw.imp fun w i j h => MRk (.inr (.inr (.inr (.inr (.inl ⟨q, h⟩)))))⟩
    refine w_eql (c_dec (fun q => ?_) (fun q6 => ?_))
    · have hC1 : C = 1 + cstL (Bt D) l := by rw [← hC]; subst q; simp [cst]
      have hl2 : 2 ≤ l.length := by
        rcases cases_ with ⟨h, _⟩ | ⟨h, _⟩ | ⟨_, h, _⟩ | ⟨h, _⟩
        case inr.inr.inl => exact h
        all_goals omega
      refine w_rdPA G1 (Nat.le_refl 2) (w_offP (w_rdP G2 (v := .slice sa l.length cp) rfl (w_offP (w_rdP G2 (v := .slice sa l.length cp) rfl (w_lenSl ?_)))))
      refine nx30 m2 (by omega) (by omega) fun h3 c3 l3 m3 => ?_
      have nxb := nxA_le g.ns a
      have nin := nx_in g.ns a (show (0 : Int) < (l.length : Nat) by omega)
      refine ⟨idrow G2 (box2 c3), idrow G1 (box1 c3), ?_⟩
      obtain ⟨m', hm'⟩ := getElem?_of_lt (l := l) (i := (nx g.ns a l.length).toNat) (by omega)
      have hcg := cstL_get (Bt D) l _ m' hm'
      refine part m3.x nin.1 hm' fun p mv' mh => ?_
      refine rec_ m3 hm' mh (by omega) fun v5 w5 is h5 a5 rs ha5 hw5 his => ?_
      refine w_some (v := v5) rfl ?_
      refine w_some (v := .bool is) rfl ?_
      refine kf v5 w5 is h5 a5 ⟨c3.trans rs.c, rs.mh, rs.sl, fun j hj => by have := rs.on j hj; have := c3.len; omega⟩ (by omega) (by omega) fun hi => ?_
      exact (his hi).imp fun w i j h => MRk (.inr (.inr (.inr (.inr (.inr (.inl ⟨q, MOr_mem h (List.mem_of_getElem? hm')⟩))))))
    refine joinE_intro (fun e h' => e 0 = .pointer (some ⟨g.X, 0, none⟩) ∧ e 3 = .int .i64 (D : Nat) ∧ e 5 = .pointer (some ⟨h.length, 0, none⟩) ∧ e 6 = .pointer (some ⟨h1.length, 0, none⟩) ∧ e 10 = .slice none 0 0 ∧ e 96 = .bool (decide (kk = 7 ∨ kk = 8 ∨ kk = 9)) ∧ h2 = h') ?_ ?_
    case refine_2 =>
      intro J1 hJ1
      refine w_eql (c_dec (fun q7 => hJ1 _ _ ⟨rfl, rfl, rfl, rfl, rfl, congrArg Value.bool (decide_eq_decide.2 ⟨fun _ => by omega, fun _ => by omega⟩), rfl⟩) (fun q7 => ?_))
      refine w_eql (c_dec (fun q8 => hJ1 _ _ ⟨rfl, rfl, rfl, rfl, rfl, congrArg Value.bool (decide_eq_decide.2 ⟨fun _ => by omega, fun _ => by omega⟩), rfl⟩) (fun q8 => ?_))
      exact w_eql (hJ1 _ _ ⟨rfl, rfl, rfl, rfl, rfl, congrArg Value.bool (decide_eq_decide.2 ⟨fun _ => by omega, fun _ => by omega⟩), rfl⟩)
    rintro e h' ⟨f0, f3, f5, f6, f10, f96, rfl⟩
    rw [f96]
    refine c_dec (fun q => ?_) (fun q => ?_)
    rotate_left
    · exact hJ _ _ ⟨_, [], a, f10, gr0, Nat.le_add_right _ _, Nat.zero_le _, WR.nil fun w i => MRk (.inl ⟨by omega, rfl⟩)⟩
    obtain ⟨m0, rfl⟩ : ∃ m0, l = [m0] := by
      rcases cases_ with ⟨h, _⟩ | ⟨h, _⟩ | ⟨h, _⟩ | ⟨_, h, _⟩
      case inr.inr.inr => exact h
      all_goals omega
    have hm0 : ([m0] : List Mdl)[(0 : Int).toNat]? = some m0 := rfl
    obtain ⟨cc, hcc⟩ : ∃ cc, cc = cst (Bt D) m0 := ⟨_, rfl⟩
    have hC1 : C = 1 + 3 * cc := by
      rw [← hC, hcc]
      rcases q with rfl | rfl | rfl <;> simp [cst, cstL]
    rw [f0, f6]
    refine nx30 m2 (by omega) (by decide) fun h3 c3 l3 m3 => ?_
    have nxb := nxA_le g.ns a
    have n3 := nx_in g.ns a (show (0 : Int) < 3 by decide)
    refine w_offP (w_rdP (box2 c3) (v := .int .i64 kk) rfl (w_eql ?_))
    refine c_dec (fun q8 => ?_) (fun q8 => ?_)
    · refine w_add (by omega) (by omega) ?_
      have t9 : ¬ kk = 9 := by omega
      refine w_offP (w_rdP (box2 c3) (v := .int .i64 kk) rfl (w_eql (c_ff t9 ?_)))
      obtain ⟨cnt, hcnt⟩ : ∃ cnt : Nat, nx g.ns a 3 + 1 = (cnt : Int) := ⟨(nx g.ns a 3 + 1).toNat, by omega⟩
      refine loopE_intro (fun mm e h4 => ∃ (j : Nat) (v : Value) (w : List Int) (a4 : Nat), j ≤ cnt ∧ mm = cnt - j ∧ e 0 = .pointer (some ⟨g.X, 0, none⟩) ∧ e 3 = .int .i64 (D : Nat) ∧ e 5 = .pointer (some ⟨h.length, 0, none⟩) ∧ e 6 = .pointer (some ⟨h1.length, 0, none⟩) ∧ e 10 = v ∧ e 15 = .int .i64 (cnt : Nat) ∧ e 16 = .int .i64 (j : Nat) ∧
          g.Gr h2 h4 a4 v w ∧ a4 ≤ a + 1 + j * cc ∧ w.length ≤ j * cc ∧ Rep (scOf g.x) m0 j w) cnt
        ⟨0, _, [], nxA g.ns a, Nat.zero_le _, rfl, f0, f3, f5, f6, f10, congrArg (Value.int .i64) hcnt, rfl, gr0.chg c3 m3, by omega, Nat.zero_le _, .z⟩ ?_
      clear f0 f3 f5 f6 f10
      rintro I mm e h4 ⟨j, v, w, a4, hj, hmm, f0, f3, f5, f6, f10, f15, f16, gr, ha4, hw4, hw⟩ ih
      rw [f0, f3, f5, f6, f10, f15, f16]
      have hsm : (j + 1) * cc = j * cc + cc := Nat.succ_mul _ _
      refine w_lss (c_dec (fun r => ?_) (fun r => ?_))
      · have h3c : (j + 1) * cc ≤ 3 * cc := Nat.mul_le_mul_right _ (by omega)
        refine w_rdPA (box1 gr.c) (Nat.le_refl 2) (w_offP (w_rdP (box2 gr.c) (v := .slice sa ([m0] : List Mdl).length cp) rfl ?_))
        refine part (j := 0) gr.mh.x (Int.le_refl _) hm0 fun p mv' mh => ?_
        refine rec_ (i := 0) gr.mh hm0 mh (by omega) fun v5 w5 is h5 a5 rs ha5 hw5 his => ?_
        refine w_some (v := v5) rfl ?_
        refine w_some (v := .bool is) rfl (w_notb ?_)
        have gr5 := gr.chg rs.c rs.mh
        cases is with
        | false =>
          refine c_t ?_
          refine w_offP (w_rdP (box2 gr5.c) (v := .int .i64 kk) rfl (w_neq ?_))
          have t8 : ¬ ¬ (kk = 8) := fun h => h q8
          refine g_ff t8 (g_ff t8 (w_gtr (pk_ff t8 ?_)))
          exact kf v w _ h5 a5 gr5.rs (by omega) (by omega) fun hi => by
            have h0 : (0 : Int) < (j : Nat) := of_decide_eq_true hi
            have := hw.plusM (n := n) (show 0 < j by omega)
            rw [← q8] at this
            exact this
        | true =>
          refine c_f ?_
          refine gr5.app rs.sl (by omega) fun v6 h6 gr6 => w_add (by omega) (by omega) ?_
          exact ih (cnt - (j + 1)) _ _ (by omega) ⟨j + 1, v6, w ++ w5, a5, by omega, rfl, f0, f3, f5, f6, rfl, f15, rfl, gr6, by omega, by rw [List.length_append]; omega, .s hw (his rfl)⟩
      · have ej : j = cnt := by omega
        have h3c : j * cc ≤ 3 * cc := Nat.mul_le_mul_right _ (by omega)
        exact hJ _ _ ⟨v, w, a4, f10, gr, by omega, by omega, by have := hw.plusM (n := n) (show 0 < j by omega); rw [← q8] at this; exact this⟩
    · refine w_offP (w_rdP (box2 c3) (v := .int .i64 kk) rfl (w_eql ?_))
      refine c_dec (fun q9 => ?_) (fun q9 => ?_)
      · obtain ⟨cnt, hcnt, hc1⟩ : ∃ cnt : Nat, (if (1 : Int) < nx g.ns a 3 then 1 else nx g.ns a 3) = (cnt : Int) ∧ cnt ≤ 1 := by
          split
          · exact ⟨1, rfl, Nat.le_refl _⟩
          · exact ⟨(nx g.ns a 3).toNat, by omega, by omega⟩
        refine w_some (v := .int .i64 (if (1 : Int) < nx g.ns a 3 then 1 else nx g.ns a 3)) rfl ?_
        refine loopE_intro (fun mm e h4 => ∃ (j : Nat) (v : Value) (w : List Int) (a4 : Nat), j ≤ cnt ∧ mm = cnt - j ∧ e 0 = .pointer (some ⟨g.X, 0, none⟩) ∧ e 3 = .int .i64 (D : Nat) ∧ e 5 = .pointer (some ⟨h.length, 0, none⟩) ∧ e 6 = .pointer (some ⟨h1.length, 0, none⟩) ∧ e 10 = v ∧ e 15 = .int .i64 (cnt : Nat) ∧ e 16 = .int .i64 (j : Nat) ∧
            g.Gr h2 h4 a4 v w ∧ a4 ≤ a + 1 + j * cc ∧ w.length ≤ j * cc ∧ Rep (scOf g.x) m0 j w) cnt
          ⟨0, _, [], nxA g.ns a, Nat.zero_le _, rfl, f0, f3, f5, f6, f10, congrArg (Value.int .i64) hcnt, rfl, gr0.chg c3 m3, by omega, Nat.zero_le _, .z⟩ ?_
        clear f0 f3 f5 f6 f10
        rintro I mm e h4 ⟨j, v, w, a4, hj, hmm, f0, f3, f5, f6, f10, f15, f16, gr, ha4, hw4, hw⟩ ih
        rw [f0, f3, f5, f6, f10, f15, f16]
        have hsm : (j + 1) * cc = j * cc + cc := Nat.succ_mul _ _
        refine w_lss (c_dec (fun r => ?_) (fun r => ?_))
        · have h3c : (j + 1) * cc ≤ 3 * cc := Nat.mul_le_mul_right _ (by omega)
          refine w_rdPA (box1 gr.c) (Nat.le_refl 2) (w_offP (w_rdP (box2 gr.c) (v := .slice sa ([m0] : List Mdl).length cp) rfl ?_))
          refine part (j := 0) gr.mh.x (Int.le_refl _) hm0 fun p mv' mh => ?_
          refine rec_ (i := 0) gr.mh hm0 mh (by omega) fun v5 w5 is h5 a5 rs ha5 hw5 his => ?_
          refine w_some (v := v5) rfl ?_
          refine w_some (v := .bool is) rfl (w_notb ?_)
          have gr5 := gr.chg rs.c rs.mh
          cases is with
          | false =>
            refine c_t ?_
            refine w_offP (w_rdP (box2 gr5.c) (v := .int .i64 kk) rfl (w_neq ?_))
            have t8 : ¬ (kk = 8) := q8
            refine g_ft t8 (g_ft t8 (pk_tt t8 ?_))
            exact kf v w true h5 a5 gr5.rs (by omega) (by omega) fun _ => by have := hw.opt (n := n) (show j ≤ 1 by omega); rw [← q9] at this; exact this
          | true =>
            refine c_f ?_
            refine gr5.app rs.sl (by omega) fun v6 h6 gr6 => w_add (by omega) (by omega) ?_
            exact ih (cnt - (j + 1)) _ _ (by omega) ⟨j + 1, v6, w ++ w5, a5, by omega, rfl, f0, f3, f5, f6, rfl, f15, rfl, gr6, by omega, by rw [List.length_append]; omega, .s hw (his rfl)⟩
        · have ej : j = cnt := by omega
          have h3c : j * cc ≤ 3 * cc := Nat.mul_le_mul_right _ (by omega)
          exact hJ _ _ ⟨v, w, a4, f10, gr, by omega, by omega, by have := hw.opt (n := n) (show j ≤ 1 by omega); rw [← q9] at this; exact this⟩
      · have q7 : kk = 7 := by omega
        obtain ⟨cnt, hcnt⟩ : ∃ cnt : Nat, nx g.ns a 3 = (cnt : Int) := ⟨(nx g.ns a 3).toNat, by omega⟩
        refine loopE_intro (fun mm e h4 => ∃ (j : Nat) (v : Value) (w : List Int) (a4 : Nat), j ≤ cnt ∧ mm = cnt - j ∧ e 0 = .pointer (some ⟨g.X, 0, none⟩) ∧ e 3 = .int .i64 (D : Nat) ∧ e 5 = .pointer (some ⟨h.length, 0, none⟩) ∧ e 6 = .pointer (some ⟨h1.length, 0, none⟩) ∧ e 10 = v ∧ e 15 = .int .i64 (cnt : Nat) ∧ e 16 = .int .i64 (j : Nat) ∧
            g.Gr h2 h4 a4 v w ∧ a4 ≤ a + 1 + j * cc ∧ w.length ≤ j * cc ∧ Rep (scOf g.x) m0 j w) cnt
          ⟨0, _, [], nxA g.ns a, Nat.zero_le _, rfl, f0, f3, f5, f6, f10, congrArg (Value.int .i64) hcnt, rfl, gr0.chg c3 m3, by omega, Nat.zero_le _, .z⟩ ?_
        clear f0 f3 f5 f6 f10
        rintro I mm e h4 ⟨j, v, w, a4, hj, hmm, f0, f3, f5, f6, f10, f15, f16, gr, ha4, hw4, hw⟩ ih
        rw [f0, f3, f5, f6, f10, f15, f16]
        have hsm : (j + 1) * cc = j * cc + cc := Nat.succ_mul _ _
        refine w_lss (c_dec (fun r => ?_) (fun r => ?_))
        · have h3c : (j + 1) * cc ≤ 3 * cc := Nat.mul_le_mul_right _ (by omega)
          refine w_rdPA (box1 gr.c) (Nat.le_refl 2) (w_offP (w_rdP (box2 gr.c) (v := .slice sa ([m0] : List Mdl).length cp) rfl ?_))
          refine part (j := 0) gr.mh.x (Int.le_refl _) hm0 fun p mv' mh => ?_
          refine rec_ (i := 0) gr.mh hm0 mh (by omega) fun v5 w5 is h5 a5 rs ha5 hw5 his => ?_
          refine w_some (v := v5) rfl ?_
          refine w_some (v := .bool is) rfl (w_notb ?_)
          have gr5 := gr.chg rs.c rs.mh
          cases is with
          | false =>
            refine c_t ?_
            refine w_offP (w_rdP (box2 gr5.c) (v := .int .i64 kk) rfl (w_neq ?_))
            have t8 : ¬ (kk = 8) := q8
            refine g_ft t8 (g_ft t8 (pk_tt t8 ?_))
            exact kf v w true h5 a5 gr5.rs (by omega) (by omega) fun _ => by have := hw.star (n := n); rw [← q7] at this; exact this
          | true =>
            refine c_f ?_
            refine gr5.app rs.sl (by omega) fun v6 h6 gr6 => w_add (by omega) (by omega) ?_
            exact ih (cnt - (j + 1)) _ _ (by omega) ⟨j + 1, v6, w ++ w5, a5, by omega, rfl, f0, f3, f5, f6, rfl, f15, rfl, gr6, by omega, by rw [List.length_append]; omega, .s hw (his rfl)⟩
        · have ej : j = cnt := by omega
          have h3c : j * cc ≤ 3 * cc := Nat.mul_le_mul_right _ (by omega)
          exact hJ _ _ ⟨v, w, a4, f10, gr, by omega, by omega, by have := hw.star (n := n); rw [← q7] at this; exact this⟩
end Go.Proofs.Ytlenlhlipmkeeaa.W
end

section
/- Schema's laws: a word of numbers that a schema has. Conditions: none. -/
namespace Go.Proofs.Ytlenlhlipmkeeaa.W
open Go Go.AM SchM
set_option linter.unusedVariables false
set_option maxRecDepth 100000
theorem treeAll {g : GCtx} (ok : GOK g) : ∀ D, D ≤ 100 → TreeC g D
  | 0, hD => tree47 ok hD fun D' h => by omega
  | D + 1, hD => tree47 ok hD fun D' h e he => by
    have : D' = D := by omega
    subst this
    exact grow65 ok (by omega) (treeAll ok D' (by omega)) (sz e.2) e.2 (Nat.le_refl _) (ok.hx.ok e he).2 (ok.hx.ok e he).1
theorem some21 {h : AH} {x : W × List (W × Mdl)} {sv vn : Value} {ns : List Int} {K : Value → AH → Prop} (hx : Hok x) (s : SM h x sv) (hB : ∀ C, ∀ e ∈ x.2, cst C e.2 ≤ (C + 4) * 64) (hns : Ints h vn ns)
    (k : ∀ v w (is : Bool) h', Ex h h' → Sl 1 h' v w.length (flat eI w) → (∀ j, onId v j → h.length ≤ j) → w.length ≤ 1000000000 → (is = true → Hs x w ∧ w.length < 40) → K (.tuple #[v, .bool is]) h') : callW Try.prog 21 [sv, vn] h K := by
  obtain ⟨La, Lc, Lcs, rfl, Lsl, Lel⟩ := id s
  obtain ⟨na, nc, rfl⟩ := hns.shape
  refine c21 ?_
  unfold s21
  refine n_boxv rfl fun h1 x1 l1 g1 => ?_
  have g1 : h1[h.length]? = some (.row [.string (bs x.1), .slice La x.2.length Lc] true) := g1
  refine w_some (v := .agg #[.slice none 0 0, .slice na ns.length nc, .int .i64 0]) rfl ?_
  refine n_boxv rfl fun h2 x2 l2 g2 => ?_
  have g2 : h2[h1.length]? = some (.row [.slice none 0 0, .slice na ns.length nc, .int .i64 ((0 : Nat) : Int)] true) := g2
  let g : GCtx := ⟨h1, h1.length, ns, .slice none 0 0, .slice na ns.length nc, x, .agg #[.string (bs x.1), .slice La x.2.length Lc]⟩
  have ok : GOK g := ⟨hx, s.ex x1, hB⟩
  have m : g.Mk h2 0 := ⟨g2, ⟨rfl, .inl ⟨rfl, rfl⟩⟩, hns.ex x1, x2, Nat.le_refl _⟩
  have G1 := x2.some g1
  have e4 : Bt 4 ≤ 1000000000 := by decide
  refine w_rdPA G1 (Nat.le_refl 2) (w_offP (w_rdP G1 (v := .string (bs x.1)) rfl ?_))
  refine treeAll ok 4 (by decide) h2 0 x.1 _ m (by omega) fun v w is h' a' rs ha hw his => ?_
  refine w_some (v := v) rfl ?_
  refine w_some (v := .bool is) rfl ?_
  have X' : Ex h h' := ⟨by have := rs.c.len; omega, fun j hj => by
    rw [rs.c.get j (by omega) (fun e => by have e : j = h1.length := e; omega)]
    exact (x1.trans x2).get j hj⟩
  have on' : ∀ j, onId v j → h.length ≤ j := fun j hj => by have := rs.on j hj; omega
  cases is with
  | false =>
    refine gc_tf (gc_tf (gc_tf (pk_f ?_)))
    exact k v w false h' X' rs.sl on' (by omega) fun h => absurd h Bool.false_ne_true
  | true =>
    refine gc_tt (gc_tt (w_len rs.sl (gc_tt (w_lss (pk_t ?_)))))
    refine k v w _ h' X' rs.sl on' (by omega) fun hi => ⟨?_, ?_⟩
    · obtain ⟨kN, h1, h2, h3⟩ := his rfl
      have h4 := h3 [] []
      rw [List.append_nil, List.nil_append] at h4
      refine ⟨kN, h1, h2, ?_⟩
      have h4 : Stw (scOf x) w kN 0 (0 + w.length) := h4
      rw [Nat.zero_add] at h4
      exact h4
    · have := of_decide_eq_true hi
      omega
end Go.Proofs.Ytlenlhlipmkeeaa.W
end

section
/- strings.Join of this program is the kit's. Conditions: none. -/
namespace Go.Proofs.Ytlenlhlipmkeeaa.W
open Go Go.AM Go.Proofs Go.Shelf
set_option maxRecDepth 100000
def jf : Nat → Nat := fun x => cond (Nat.beq x 156) 88 ( cond (Nat.beq x 165) 94 ( cond (Nat.beq x 166) 95 ( cond (Nat.beq x 169) 96 ( cond (Nat.beq x 240) 100 ( cond (Nat.beq x 241) 101 ( cond (Nat.beq x 276) 102 ( cond (Nat.beq x 277) 103 (x))))))))
def jt : Nat → Nat := fun x => cond (Nat.beq x 0) 0 ( cond (Nat.beq x 3) 3 ( cond (Nat.beq x 4) 4 ( cond (Nat.beq x 5) 5 ( cond (Nat.beq x 9) 9 ( cond (Nat.beq x 20) 20 ( cond (Nat.beq x 31) 30 ( cond (Nat.beq x 37) 54 ( cond (Nat.beq x 70) 131 ( cond (Nat.beq x 72) 133 ( cond (Nat.beq x 75) 136 ( cond (Nat.beq x 76) 137 ( cond (Nat.beq x 80) 75 ( cond (Nat.beq x 127) 140 ( cond (Nat.beq x 164) 141 (x)))))))))))))))
def ren : Ren := ⟨jf, jt, fun x => x⟩
theorem lays : Lays.n156 Try.prog ren where
  mixed := by kernel_rfl
  f156 := by kernel_rfl
  f165 := by kernel_rfl
  f166 := by kernel_rfl
  f169 := by kernel_rfl
  f240 := by kernel_rfl
  f241 := by kernel_rfl
  f276 := by kernel_rfl
  f277 := by kernel_rfl
  t0 := Try.underlying0
  a0 := Try.isAgg0
  z0 := Try.sizeOf0
  v0 := Try.zeroValue0
  t3 := Try.underlying3
  a3 := Try.isAgg3
  z3 := Try.sizeOf3
  v3 := Try.zeroValue3
  t4 := Try.underlying4
  a4 := Try.isAgg4
  z4 := Try.sizeOf4
  v4 := Try.zeroValue4
  t9 := Try.underlying9
  a9 := Try.isAgg9
  z9 := Try.sizeOf9
  v9 := Try.zeroValue9
  t20 := Try.underlying20
  a20 := Try.isAgg20
  z20 := Try.sizeOf20
  v20 := Try.zeroValue20
  t31 := Try.underlying30
  a31 := Try.isAgg30
  z31 := Try.sizeOf30
  v31 := Try.zeroValue30
  t37 := Try.underlying54
  a37 := Try.isAgg54
  z37 := Try.sizeOf54
  v37 := Try.zeroValue54
  t70 := Try.underlying131
  a70 := Try.isAgg131
  z70 := Try.sizeOf131
  v70 := Try.zeroValue131
  t72 := Try.underlying133
  a72 := Try.isAgg133
  z72 := Try.sizeOf133
  v72 := Try.zeroValue133
  t75 := Try.underlying136
  a75 := Try.isAgg136
  z75 := Try.sizeOf136
  v75 := Try.zeroValue136
  t76 := Try.underlying137
  a76 := Try.isAgg137
  z76 := Try.sizeOf137
  v76 := Try.zeroValue137
  t127 := Try.underlying140
  a127 := Try.isAgg140
  z127 := Try.sizeOf140
  v127 := Try.zeroValue140
  t164 := Try.underlying141
  a164 := Try.isAgg141
  z164 := Try.sizeOf141
  v164 := Try.zeroValue141
theorem extra : Builder.Extra Try.prog ren where
  sizeBuilder := by kernel_rfl
  liesBuilder := by kernel_rfl
  t5 := Try.underlying5
  a5 := Try.isAgg5
  z5 := Try.sizeOf5
  v5 := Try.zeroValue5
  infoByte := by kernel_rfl
  cellsByte := by kernel_rfl
  sizeByte := by kernel_rfl
  neB5 := by decide
theorem join88 : isJoin Try.prog 88 := ⟨ren, rfl, lays, extra⟩
end Go.Proofs.Ytlenlhlipmkeeaa.W
end
