/- Parts of a proof, joined by a program. Conditions: none. -/
import Derived.Test.YtlenlhlipmkeeaaRB2
import Derived.Test.YtlenlhlipmkeeaaRB3
import Derived.Test.YtlenlhlipmkeeaaRS0

section
/- Schema's laws: a word that a schema has is whole. Conditions: none. -/
namespace Go.Proofs.Ytlenlhlipmkeeaa.W
open Go Go.AM SchM
set_option linter.unusedVariables false
set_option maxRecDepth 100000
def HOK (hB : AH) (H : HT) : Prop := ∀ t ∈ H, Ex hB t.2.1 ∧ Ex hB t.2.2
def SOK (hB : AH) (S : ST) : Prop := ∀ t ∈ S, ∀ z ∈ t.2, z.id < hB.length
theorem HOK.nil (hB : AH) : HOK hB [] := fun t ht => by cases ht
theorem SOK.nil (hB : AH) : SOK hB [] := fun t ht => by cases ht
theorem HOK.cons {hB a b : AH} {k : Nat} {H : HT} (h : HOK hB H) (ha : Ex hB a) (hb : Ex hB b) : HOK hB ((k, a, b) :: H) := fun t ht => by
  rcases List.mem_cons.1 ht with rfl | ht
  · exact ⟨ha, hb⟩
  · exact h t ht
theorem SOK.cons {hB : AH} {k : Nat} {xs : List Go.AM.Loc} {S : ST} (h : SOK hB S) (hx : ∀ z ∈ xs, z.id < hB.length) : SOK hB ((k, xs) :: S) := fun t ht => by
  rcases List.mem_cons.1 ht with rfl | ht
  · exact hx
  · exact h t ht
theorem hist_ex {hB : AH} {b : Array Nat} {j : Nat} {xs : List Go.AM.Loc} {K : Prop} {H : HT} (h : HOK hB H) (hx : ∀ z ∈ xs, z.id < hB.length) (k : K) : histC b j xs H K :=
  hist_all k fun t ht z hz => (vw_eq ((h t ht).1.get _ (hx z hz))).trans (vw_eq ((h t ht).2.get _ (hx z hz))).symm
theorem read_ex {hB a a' : AH} {b : Array Nat} {j : Nat} {K : Prop} {S : ST} (h : SOK hB S) (ha : Ex hB a) (hb : Ex hB a') (k : K) : readC b j a a' S K :=
  read_all k fun t ht z hz => (vw_eq (ha.get _ (h t ht z hz))).trans (vw_eq (hb.get _ (h t ht z hz))).symm
theorem ce_lt {hB : AH} {n i off : Nat} (hi : i < hB.length) : ∀ z ∈ ceOf n (.pointer (some ⟨i, off, none⟩)), z.id < hB.length := fun z hz => by
  rw [ce_id hz]
  exact hi
theorem app_nil {h : AH} {i : Nat} {x : Value} {u : List Int} {b : Nat} {K : Value → AH → Prop} (hi : b ≤ i) (gi : h[i]? = some (.row [] true)) (hb : b ≤ h.length) (hx : Sl 1 h x u.length (flat eI u)) (hn : u.length < 1000000000000)
    (k : ∀ v' h', Ex h h' → Sl 1 h' v' u.length (flat eI u) → (∀ j, onId v' j → b ≤ j) → (0 < u.length → OwnG 1 (fun j => b ≤ j) h' v' u.length (flat eI u)) → K v' h') : appSl 1 (.slice (some ⟨i, 0, none⟩) 0 0) x h K := by
  have hr40 : (1000000000000 : Nat) < room40 := by decide
  have ho40 : (1000000000000 : Nat) < openCap := by decide
  have hsrc := srcL_sl (by decide) hx
  refine appSl_sl hx (.inl ?_)
  by_cases h0 : u.length = 0
  · have hu : u = [] := List.eq_nil_of_length_eq_zero h0
    subst hu
    have : pAppS 1 (.slice (some ⟨i, 0, none⟩) 0 0) x h = some (.slice (some ⟨i, 0, none⟩) (0 + 0) 0, h) := by
      unfold pAppS
      simp only [hsrc]
      rw [if_pos (by simp; omega), if_pos (by omega)]
      simp [pAppEx, stAt, flat]
    rw [this]
    exact k _ _ (Ex.refl h) ⟨rfl, .inr ⟨i, 0, 0, rfl, .inl ⟨by omega, Nat.le_refl _⟩, .inl rfl⟩⟩ (fun j hj => by have : i = j := hj; omega) (fun h => absurd h (Nat.lt_irrefl 0))
  · have : pAppS 1 (.slice (some ⟨i, 0, none⟩) 0 0) x h = some (.slice (some ⟨h.length, 0, none⟩) (0 + u.length) (openCap + 1), h ++ [AObj.row ([] ++ flat eI u) true]) := by
      unfold pAppS
      simp only [hsrc]
      rw [if_pos (by omega), if_pos (by omega)]
      simp only [pAppEx]
      rw [if_neg (by omega), Nat.zero_mul]
      simp [firstL]
    rw [this, Nat.zero_add, List.nil_append]
    have o : OwnG 1 (fun j => b ≤ j) (h ++ [AObj.row (flat eI u) true]) (.slice (some ⟨h.length, 0, none⟩) u.length (openCap + 1)) u.length (flat eI u) := ⟨flat_length eI_len _, .inr ⟨h.length, _, hb, rfl, get_new _ _, by rw [flat_length eI_len]; exact Nat.le_refl _, by rw [List.take_of_length_le (by rw [flat_length eI_len]; exact Nat.le_refl _)]⟩⟩
    exact k _ _ (.app _ _) o.sl (fun j hj => (o.on hj).1) fun _ => o
theorem app_any {h : AH} {x y : Value} {u u' : List Int} {b : Nat} {K : Value → AH → Prop} (o : OwnG 1 (fun j => b ≤ j) h x u.length (flat eI u)) (hb : b ≤ h.length) (hy : Sl 1 h y u'.length (flat eI u')) (hn : u.length + u'.length < 1000000000000)
    (k : ∀ v' h', h.length ≤ h'.length → (∀ j, j < b → h'[j]? = h[j]?) → OwnG 1 (fun j => b ≤ j) h' v' (u ++ u').length (flat eI (u ++ u')) → K v' h') : appSl 1 x y h K := by
  have hr40 : (1000000000000 : Nat) < room40 := by decide
  refine appSl_sl hy (app_g (by decide) o (srcL_sl (by decide) hy) (by rw [flat_length eI_len]) (by omega) fun v' h' a1 a2 a3 a4 => ?_)
  refine k v' h' a2 (fun j hj => a3 j (by omega) fun hon => by have := (o.on hon).1; omega) ?_
  rw [flat_append, List.length_append]
  exact a1.mono (fun j hj hF => hF.elim (fun h => h) fun e => by show b ≤ j; omega) fun _ _ _ => rfl
theorem make_hok (size : Int) (ns : List Int) : Hok (make size ns 3) ∧ (∀ C, ∀ e ∈ (make size ns 3).2, cst C e.2 ≤ (C + 4) * 64) := by
  have mk := make_ok size ns 3
  refine ⟨⟨mk.nd, fun e he => ?_, by have := mk.l.1; omega⟩, fun C e he => make_cost C size ns 3 e he⟩
  obtain ⟨nm, g⟩ := mk.g e he
  exact ⟨g.ok, Nat.le_trans g.s (by decide)⟩
end Go.Proofs.Ytlenlhlipmkeeaa.W
end

section
/- Schema's laws: whether a schema has a word is told as the document says. Conditions: none. -/
namespace Go.Proofs.Ytlenlhlipmkeeaa.W
open Go Go.AM SchM
set_option linter.unusedVariables false
set_option maxRecDepth 100000
theorem w_beq {a b : Bool} {K : Value → Prop} (e : a = b) (k : K (.bool true)) : optW (pBin Try.prog .eql 4 (.bool a) (.bool b)) K := by
  subst e
  refine w_some (v := .bool true) ?_ k
  cases a <;> kernel_rfl
def Ap (b : Nat) (h : AH) (v : Value) (u : List Int) : Prop := (u = [] ∧ ∃ i, v = .slice (some ⟨i, 0, none⟩) 0 0 ∧ b ≤ i ∧ h[i]? = some (.row [] true)) ∨ OwnG 1 (fun j => b ≤ j) h v u.length (flat eI u)
theorem Ap.sl {b : Nat} {h : AH} {v : Value} {u : List Int} (a : Ap b h v u) : SlT 1 eI h v u := by
  rcases a with ⟨rfl, i, rfl, hi, g⟩ | o
  · exact ⟨rfl, .inr ⟨i, 0, 0, rfl, .inl ⟨by decide, Nat.le_refl _⟩, .inl rfl⟩⟩
  · exact o.sl
theorem Ap.ex {b : Nat} {h h' : AH} {v : Value} {u : List Int} (a : Ap b h v u) (x : Ex h h') : Ap b h' v u := by
  rcases a with ⟨e, i, e2, hi, g⟩ | o
  · exact .inl ⟨e, i, e2, hi, x.some g⟩
  · exact .inr (o.mono (fun _ _ h => h) fun j hj _ => x.get j (o.on hj).2)
theorem app_ap {h : AH} {v x : Value} {u u' : List Int} {b : Nat} {K : Value → AH → Prop} (a : Ap b h v u) (hb : b ≤ h.length) (hx : SlT 1 eI h x u') (hn : u.length + u'.length < 1000000000000)
    (k : ∀ v' h', h.length ≤ h'.length → (∀ j, j < b → h'[j]? = h[j]?) → Ap b h' v' (u ++ u') → K v' h') : appSl 1 v x h K := by
  rcases a with ⟨rfl, i, rfl, hi, g⟩ | o
  · rw [List.nil_append] at k
    rw [List.length_nil, Nat.zero_add] at hn
    by_cases h0 : u' = []
    · subst h0
      have hr40 : (1000000000000 : Nat) < room40 := by decide
      have hsrc := srcL_sl (by decide) hx
      refine appSl_sl hx (.inl ?_)
      have : pAppS 1 (.slice (some ⟨i, 0, none⟩) 0 0) x h = some (.slice (some ⟨i, 0, none⟩) (0 + 0) 0, h) := by
        unfold pAppS
        simp only [hsrc]
        rw [if_pos (by simp; omega), if_pos (by decide)]
        simp [pAppEx, stAt, flat]
      rw [this]
      exact k _ _ (Nat.le_refl _) (fun _ _ => rfl) (.inl ⟨rfl, i, rfl, hi, g⟩)
    · refine app_nil hi g hb hx hn fun v' h' x' s' on' o' => k v' h' x'.len (fun j hj => x'.get j (by omega)) (.inr (o' (List.length_pos_iff.2 h0)))
  · exact app_any o hb hx hn fun v' h' l' s' o' => k v' h' l' s' (.inr o')
theorem mk_ap {h : AH} {K : Nat → AH → Prop} {b : Nat} (hb : b ≤ h.length) (k : ∀ h', Ex h h' → h'.length = h.length + 1 → Ap b h' (.slice (some ⟨h.length, 0, none⟩) 0 0) [] → K h.length h') :
    optW (bldSl 1 [(.int .i64 0)] 0 []) fun c => newW none (.row c true) h fun i h2 => K i h2 := by
  have hb0 : bldSl 1 [(.int .i64 0)] 0 [] = some [] := by kernel_rfl
  refine w_some hb0 ?_
  exact n_newv fun h2 x2 l2 g2 => k h2 x2 l2 (.inl ⟨rfl, h.length, rfl, hb, g2⟩)
theorem st_ap {h : AH} {v : Value} {u : List Int} {b j : Nat} {z : Int} {K : Value → AH → Prop} (a : Ap b h v u) (hj : j < u.length) (k : ∀ p h', h'.length = h.length → (∀ j, j < b → h'[j]? = h[j]?) → Ap b h' v (u.set j z) → K p h') :
    optW (pIdxS 1 v (.int .i64 (j : Nat))) fun p => optW (pStore 1 p (.int .i64 z) h) fun h' => K p h' := by
  rcases a with ⟨rfl, _⟩ | o
  · exact absurd hj (Nat.not_lt_zero _)
  · obtain ⟨h0, ⟨rfl, h1⟩ | ⟨id, c, hf, rfl, h1, h2, h3⟩⟩ := o
    · omega
    · rw [Nat.mul_one] at h2 h3
      refine ix1 hj (w_stP h1 (by omega) rfl rfl ?_)
      have hb' : b ≤ id := hf
      refine k _ _ (by simp) (fun y hy => get_ne (by omega) _) (.inr ⟨flat_length eI_len _, .inr ⟨id, _, hf, by rw [List.length_set], get_set _ (lt_of_get h1) _, by simpa using h2, ?_⟩⟩)
      rw [Nat.mul_one, List.length_set, ← flat_eI_set, ← h3]
      rw [List.take_set]
set_option maxHeartbeats 8000000 in
theorem schemaHas_walk (h : AH) (size : Int) (_ : -9223372036854775808 ≤ size ∧ size ≤ 9223372036854775807) (v1 : Value) (ns : List Int) (i1 : Ints h v1 ns) (_ : ∀ n ∈ ns, -9223372036854775808 ≤ n ∧ n ≤ 9223372036854775807) (v2 : Value) (ws : List Int) (i2 : Ints h v2 ws) (_ : ∀ n ∈ ws, -9223372036854775808 ≤ n ∧ n ≤ 9223372036854775807) (at_ : Int) (hat : -9223372036854775808 ≤ at_ ∧ at_ ≤ 9223372036854775807) (by_ : Int) (hby : -9223372036854775808 ≤ by_ ∧ by_ ≤ 9223372036854775807) (hm : h.length = 2) :
    callW Try.prog 4 [.int .i64 size, v1, v2, .int .i64 at_, .int .i64 by_] h fun v _ => v = .bool true := by
  refine c4 ?_
  unfold s4
  refine known12 (.inr (.inr hm)) fun h1 x1 => w_notb (c_f ?_)
  obtain ⟨hx, hB⟩ := make_hok size ns
  refine make14 (d := 3) (i1.ex x1) (by decide) fun sv h2 x2 sh => ?_
  generalize make size ns 3 = x at *
  have hT := hx.T
  obtain ⟨La, Lc, Lcs, hsv, Lsl, Lon, Lel⟩ := id sh
  subst hsv
  refine n_var rfl rfl rfl fun h3 x3 l3 g3 => ?_
  have g3 : h3[h2.length]? = some (.row [.string (bs x.1), .slice La x.2.length Lc] true) := g3
  have sh3 := sh.ex x3
  refine w_rdPA g3 (Nat.le_refl 2) ?_
  refine syms20 sh3.sm hT fun v25 h5 x5 o5 => ?_
  have sl5 : SlT 2 eSy h5 v25 (symsOf x) := o5.sl
  have slen := symsOf_len x
  refine w_rdPA (x5.some g3) (Nat.le_refl 2) ?_
  have X5 := (x1.trans x2).trans (x3.trans x5)
  refine some21 hx (sh3.sm.ex x5) hB (i2.ex X5) fun vv w is h6 x6 s22 on22 len22 his => ?_
  have G6 := (x5.trans x6).some g3
  have sh6 := sh3.ex (x5.trans x6)
  have hw6 : SlT 1 eI h6 vv w := s22
  have ia6 := i2.ex (X5.trans x6)
  have sl6 := sl5.ex x6
  refine w_some (v := vv) rfl ?_
  refine w_some (v := .bool is) rfl ?_
  cases is with
  | false =>
    refine gc_tf (gc_tf (gc_tf (gc_tf (gc_tf (g_un (g_un (g_un (g_un (gc_tf (pk_f (c_f ?_)))))))))))
    have x8 : Ex h6 h6 := Ex.refl _
    obtain ⟨h8, hh8⟩ : ∃ h8, h8 = h6 := ⟨_, rfl⟩
    rw [← hh8] at x8 ⊢
    have x8 : Ex h6 h8 := by rw [hh8]; exact Ex.refl _
    have X8 := (x5.trans x6).trans x8
    have G8 := X8.some g3
    have lt8 := lt_of_get G8
    have sh8 := sh3.ex X8
    have hw8 := hw6.ex x8
    have ia8 := ia6.ex x8
    have sl8 := sl6.ex x8
    refine mk_ap (b := h8.length) (Nat.le_refl _) fun h9 x9 l9 ap9 => ?_
    refine app_ap ap9 (by omega) (hw8.ex x9) (by simp; omega) fun v47 h10 l10 s10 ap10 => ?_
    rw [List.nil_append] at ap10
    have X10 : Ex h8 h10 := ⟨by omega, fun j hj => (s10 j hj).trans (x9.get j hj)⟩
    refine joinE_intro (fun e h' => e 2 = v2 ∧ e 3 = .int .i64 at_ ∧ e 11 = .pointer (some ⟨h2.length, 0, none⟩) ∧ e 12 = v25 ∧ e 13 = vv ∧ ∃ vu u, e 15 = vu ∧ Ex h8 h' ∧ SlT 1 eI h' vu u ∧ u.length ≤ 1000000000) ?_ ?_
    case refine_2 =>
      intro J hJ
      refine w_len ap10.sl (w_gtr (c_dec (fun r => ?_) (fun r => ?_)))
      · refine w_len ap10.sl ?_
        refine within15 _ _ _ _ (by omega) (by omega) ?_
        refine w_len (sl8.ex X10) ?_
        refine within15 _ _ _ _ (by omega) (by omega) ?_
        have m1 := Int.emod_nonneg at_ (show ((w.length : Nat) : Int) ≠ 0 by omega)
        have m2 := Int.emod_lt_of_pos at_ (show (0 : Int) < ((w.length : Nat) : Int) by omega)
        obtain ⟨kN, hkN⟩ : ∃ kN : Nat, at_ % ((w.length : Nat) : Int) = (kN : Int) := ⟨(at_ % ((w.length : Nat) : Int)).toNat, by omega⟩
        rw [hkN]
        refine st_ap ap10 (by omega) fun p h11 l11 s11 ap11 => ?_
        refine hJ _ _ ⟨rfl, rfl, rfl, rfl, rfl, v47, _, rfl, ⟨by omega, fun j hj => (s11 j hj).trans (X10.get j hj)⟩, ap11.sl, by rw [List.length_set]; exact len22⟩
      · exact hJ _ _ ⟨rfl, rfl, rfl, rfl, rfl, v47, _, rfl, X10, ap10.sl, len22⟩
    rintro e h11 ⟨e2, e3, e11, e12, e13, vu, u, e15, X11, su, lu⟩
    rw [e2, e3, e11, e12, e13, e15]
    have hl11 := X11.len
    refine mk_ap (b := h11.length) (Nat.le_refl _) fun h12 x12 l12 ap12 => ?_
    refine app_ap ap12 (by omega) ((hw8.ex X11).ex x12) (by simp; omega) fun v63 h13 l13 s13 ap13 => ?_
    rw [List.nil_append] at ap13
    have X13 : Ex h11 h13 := ⟨by omega, fun j hj => (s13 j hj).trans (x12.get j hj)⟩
    refine w_len ap13.sl (w_gtr (c_dec (fun r => ?_) (fun r => ?_)))
    · refine w_len ap13.sl ?_
      refine within15 _ _ _ _ (by omega) (by omega) ?_
      have m1 := Int.emod_nonneg at_ (show ((w.length : Nat) : Int) ≠ 0 by omega)
      have m2 := Int.emod_lt_of_pos at_ (show (0 : Int) < ((w.length : Nat) : Int) by omega)
      obtain ⟨kN, hkN⟩ : ∃ kN : Nat, at_ % ((w.length : Nat) : Int) = (kN : Int) := ⟨(at_ % ((w.length : Nat) : Int)).toNat, by omega⟩
      rw [hkN]
      have hb0 : bldSl 1 [(.int .i64 0)] 0 [] = some [] := by kernel_rfl
      refine w_some hb0 ?_
      refine n_slot ?_
      rw [reserve_set]
      have xA : Ex h13 (h13 ++ [AObj.row [] true]) := .app _ _
      have gA : (h13 ++ [AObj.row [] true])[h13.length]? = some (.row [] true) := get_new _ _
      have lA : (h13 ++ [AObj.row [] true]).length = h13.length + 1 := by simp
      generalize h13 ++ [AObj.row [] true] = hA at *
      have hwA := ((hw8.ex X11).ex X13).ex xA
      refine w_sliceT (enc := eI) eI_len (i := 0) (j := kN) hwA (Nat.zero_le _) (by omega) (.inl ⟨rfl, rfl⟩) (.inr ⟨_, rfl⟩) fun v74 s74 on74 => ?_
      rw [List.drop_zero, Nat.sub_zero] at s74
      refine app_ap (b := h13.length) (.inl ⟨rfl, h13.length, rfl, Nat.le_refl _, gA⟩) (by omega) s74 (by simp; omega) fun v75 hC lC sC apC => ?_
      rw [List.nil_append] at apC
      have XC : Ex h13 hC := ⟨by omega, fun j hj => (sC j hj).trans (xA.get j (by omega))⟩
      have hwC := ((hw8.ex X11).ex X13).ex XC
      refine w_add (by omega) (by omega) ?_
      have ek : ((kN : Nat) : Int) + 1 = ((kN + 1 : Nat) : Int) := by omega
      rw [ek]
      refine w_sliceT (enc := eI) eI_len (i := kN + 1) (j := w.length) hwC (by omega) (Nat.le_refl _) (.inr ⟨_, rfl⟩) (.inl ⟨rfl, rfl⟩) fun v79 s79 on79 => ?_
      refine app_ap apC (by omega) s79 (by simp; omega) fun v80 hD lD sD apD => ?_
      have XD : Ex h13 hD := ⟨by omega, fun j hj => (sD j hj).trans (XC.get j hj)⟩
      have hdl : (w.take kN ++ (w.drop (kN + 1)).take (w.length - (kN + 1))).length ≤ 1000000000 := by
        rw [List.length_append, List.length_take, List.length_take, List.length_drop]
        omega
      have sd := apD.sl
      generalize w.take kN ++ (w.drop (kN + 1)).take (w.length - (kN + 1)) = d at *
      have XB : Ex h8 hD := X11.trans (X13.trans XD)
      have suB := (su.ex X13).ex XD
      generalize v80 = vd at *
      have GB := XB.some G8
      have ltB := lt_of_get GB
      have shB := sh8.ex XB
      have iaB := ia8.ex XB
      have eq2 : ∀ {a b : Bool} {l : List Int}, (a = true ↔ Hs x l) → (b = true ↔ Hs x l) → a = b := fun ha hb => Bool.eq_iff_iff.2 (ha.trans hb.symm)
      refine word24 (most := 8) (sl8.ex XB) (by have e := symsOf_len x; constructor <;> omega) iaB (by decide) fun v83 f1 y1 o83 => ?_
      have wl := wordOf_len (symsOf x).length ws 8
      generalize wordOf (symsOf x).length ws 8 = wd at *
      have s83 : SlT 1 eI f1 v83 wd := o83.sl
      refine w_rdPA (y1.some GB) (Nat.le_refl 2) ?_
      refine has22 hx (shB.ex y1) s83 (by omega) fun t1 f2 y2 ht1 => ?_
      have Y2 := y1.trans y2
      refine ⟨idrow (y1.some GB) (Y2.some GB), ?_⟩
      refine w_rdPA (Y2.some GB) (Nat.le_refl 2) ?_
      refine has23 hx (shB.ex Y2).sm (s83.ex y2) (by omega) fun t2 f3 y3 ht2 => ?_
      have Y3 := Y2.trans y3
      refine w_beq (eq2 ht1 ht2) ?_
      refine gdc_tt ?_
      refine w_rdPA (Y3.some GB) (Nat.le_refl 2) ?_
      have cl : ∀ z ∈ ceOf 2 (.pointer (some ⟨h2.length, 0, none⟩)), z.id < hD.length := ce_lt ltB
      have S0 := (((SOK.nil hD).cons (k := 0) cl).cons (k := 3) cl).cons (k := 8) cl
      have H0 := ((HOK.nil hD).cons (k := 2) y1 Y2).cons (k := 5) Y2 Y3
      refine gdc_tt (gdc_tt ?_)
      refine has22 hx (shB.ex Y3) (suB.ex Y3) (by omega) fun t3 f4 y4 ht3 => ?_
      have Y4 := Y3.trans y4
      refine read_ex S0 Y3 Y4 ?_
      have H1 := H0.cons (k := 10) Y3 Y4
      refine gdc_tt (hist_ex H1 cl ?_)
      refine w_rdPA (Y4.some GB) (Nat.le_refl 2) ?_
      have S1 := S0.cons (k := 11) cl
      refine gdc_tt (gdc_tt ?_)
      refine has23 hx (shB.ex Y4).sm (suB.ex Y4) (by omega) fun t4 f5 y5 ht4 => ?_
      have Y5 := Y4.trans y5
      refine read_ex S1 Y4 Y5 ?_
      have H2 := H1.cons (k := 13) Y4 Y5
      refine gdc_tt (w_beq (eq2 ht3 ht4) (pk_t ?_))
      refine gdc_tt (hist_ex H2 cl ?_)
      refine w_rdPA (Y5.some GB) (Nat.le_refl 2) ?_
      have S2 := S1.cons (k := 17) cl
      refine gdc_tt (gdc_tt ?_)
      refine has22 hx (shB.ex Y5) (Sl.ex sd Y5) (by omega) fun t5 f6 y6 ht5 => ?_
      have Y6 := Y5.trans y6
      refine read_ex S2 Y5 Y6 ?_
      have H3 := H2.cons (k := 19) Y5 Y6
      refine gdc_tt (hist_ex H3 cl ?_)
      refine w_rdPA (Y6.some GB) (Nat.le_refl 2) ?_
      have S3 := S2.cons (k := 20) cl
      refine gdc_tt (gdc_tt ?_)
      refine has23 hx (shB.ex Y6).sm (Sl.ex sd Y6) (by omega) fun t6 f7 y7 ht6 => ?_
      have Y7 := Y6.trans y7
      refine read_ex S3 Y6 Y7 ?_
      have H4 := H3.cons (k := 22) Y6 Y7
      refine gdc_tt (w_beq (eq2 ht5 ht6) (pk_t ?_))
      refine gdc_tt (hist_ex H4 cl ?_)
      refine w_rdPA (Y7.some GB) (Nat.le_refl 2) ?_
      have S4 := S3.cons (k := 26) cl
      obtain ⟨mi, hmi, hmi2⟩ : ∃ mi : Nat, (if (5 : Int) < ((ws.length : Nat) : Int) then 5 else ((ws.length : Nat) : Int)) = (mi : Int) ∧ mi ≤ ws.length ∧ mi ≤ 5 := by
        split
        · exact ⟨5, rfl, by omega, Nat.le_refl _⟩
        · exact ⟨ws.length, rfl, Nat.le_refl _, by omega⟩
      have hmx : pMax2 false (.int .i64 ((ws.length : Nat) : Int)) (.int .i64 5) = some (.int .i64 mi) := by rw [← hmi]; rfl
      refine gdc_tt (gdc_tt (gdc_tt (w_len iaB (gdc_tt (w_some hmx (gdc_tt ?_))))))
      refine w_sliceT (enc := eI) eI_len (i := 0) (j := mi) (Sl.ex iaB Y7) (Nat.zero_le _) hmi2.1 (.inl ⟨rfl, rfl⟩) (.inr ⟨_, rfl⟩) fun v115 s115 on115 => ?_
      refine gdc_tt ?_
      have l115 : ((ws.drop 0).take (mi - 0)).length ≤ 100 := by rw [List.length_take]; omega
      refine has22 hx (shB.ex Y7) s115 (by omega) fun t7 f8 y8 ht7 => ?_
      have Y8 := Y7.trans y8
      refine read_ex S4 Y7 Y8 ?_
      have H5 := H4.cons (k := 32) Y7 Y8
      refine gdc_tt (hist_ex H5 cl ?_)
      refine w_rdPA (Y8.some GB) (Nat.le_refl 2) ?_
      have S5 := S4.cons (k := 33) cl
      refine gdc_tt (gdc_tt (gdc_tt (w_len iaB (gdc_tt (w_some hmx (gdc_tt ?_))))))
      refine w_sliceT (enc := eI) eI_len (i := 0) (j := mi) (Sl.ex iaB Y8) (Nat.zero_le _) hmi2.1 (.inl ⟨rfl, rfl⟩) (.inr ⟨_, rfl⟩) fun v122 s122 on122 => ?_
      refine gdc_tt ?_
      refine has23 hx (shB.ex Y8).sm s122 (by omega) fun t8 f9 y9 ht8 => ?_
      have Y9 := Y8.trans y9
      refine read_ex S5 Y8 Y9 ?_
      exact gdc_tt (w_beq (eq2 ht7 ht8) (pk_t rfl))
    · have sd := ap13.sl
      have hdl := len22
      have XB : Ex h8 h13 := X11.trans X13
      have suB := su.ex X13
      generalize w = d at *
      generalize v63 = vd at *
      generalize h13 = hD at *
      have GB := XB.some G8
      have ltB := lt_of_get GB
      have shB := sh8.ex XB
      have iaB := ia8.ex XB
      have eq2 : ∀ {a b : Bool} {l : List Int}, (a = true ↔ Hs x l) → (b = true ↔ Hs x l) → a = b := fun ha hb => Bool.eq_iff_iff.2 (ha.trans hb.symm)
      refine word24 (most := 8) (sl8.ex XB) (by have e := symsOf_len x; constructor <;> omega) iaB (by decide) fun v83 f1 y1 o83 => ?_
      have wl := wordOf_len (symsOf x).length ws 8
      generalize wordOf (symsOf x).length ws 8 = wd at *
      have s83 : SlT 1 eI f1 v83 wd := o83.sl
      refine w_rdPA (y1.some GB) (Nat.le_refl 2) ?_
      refine has22 hx (shB.ex y1) s83 (by omega) fun t1 f2 y2 ht1 => ?_
      have Y2 := y1.trans y2
      refine ⟨idrow (y1.some GB) (Y2.some GB), ?_⟩
      refine w_rdPA (Y2.some GB) (Nat.le_refl 2) ?_
      refine has23 hx (shB.ex Y2).sm (s83.ex y2) (by omega) fun t2 f3 y3 ht2 => ?_
      have Y3 := Y2.trans y3
      refine w_beq (eq2 ht1 ht2) ?_
      refine gdc_tt ?_
      refine w_rdPA (Y3.some GB) (Nat.le_refl 2) ?_
      have cl : ∀ z ∈ ceOf 2 (.pointer (some ⟨h2.length, 0, none⟩)), z.id < hD.length := ce_lt ltB
      have S0 := (((SOK.nil hD).cons (k := 0) cl).cons (k := 3) cl).cons (k := 8) cl
      have H0 := ((HOK.nil hD).cons (k := 2) y1 Y2).cons (k := 5) Y2 Y3
      refine gdc_tt (gdc_tt ?_)
      refine has22 hx (shB.ex Y3) (suB.ex Y3) (by omega) fun t3 f4 y4 ht3 => ?_
      have Y4 := Y3.trans y4
      refine read_ex S0 Y3 Y4 ?_
      have H1 := H0.cons (k := 10) Y3 Y4
      refine gdc_tt (hist_ex H1 cl ?_)
      refine w_rdPA (Y4.some GB) (Nat.le_refl 2) ?_
      have S1 := S0.cons (k := 11) cl
      refine gdc_tt (gdc_tt ?_)
      refine has23 hx (shB.ex Y4).sm (suB.ex Y4) (by omega) fun t4 f5 y5 ht4 => ?_
      have Y5 := Y4.trans y5
      refine read_ex S1 Y4 Y5 ?_
      have H2 := H1.cons (k := 13) Y4 Y5
      refine gdc_tt (w_beq (eq2 ht3 ht4) (pk_t ?_))
      refine gdc_tt (hist_ex H2 cl ?_)
      refine w_rdPA (Y5.some GB) (Nat.le_refl 2) ?_
      have S2 := S1.cons (k := 17) cl
      refine gdc_tt (gdc_tt ?_)
      refine has22 hx (shB.ex Y5) (Sl.ex sd Y5) (by omega) fun t5 f6 y6 ht5 => ?_
      have Y6 := Y5.trans y6
      refine read_ex S2 Y5 Y6 ?_
      have H3 := H2.cons (k := 19) Y5 Y6
      refine gdc_tt (hist_ex H3 cl ?_)
      refine w_rdPA (Y6.some GB) (Nat.le_refl 2) ?_
      have S3 := S2.cons (k := 20) cl
      refine gdc_tt (gdc_tt ?_)
      refine has23 hx (shB.ex Y6).sm (Sl.ex sd Y6) (by omega) fun t6 f7 y7 ht6 => ?_
      have Y7 := Y6.trans y7
      refine read_ex S3 Y6 Y7 ?_
      have H4 := H3.cons (k := 22) Y6 Y7
      refine gdc_tt (w_beq (eq2 ht5 ht6) (pk_t ?_))
      refine gdc_tt (hist_ex H4 cl ?_)
      refine w_rdPA (Y7.some GB) (Nat.le_refl 2) ?_
      have S4 := S3.cons (k := 26) cl
      obtain ⟨mi, hmi, hmi2⟩ : ∃ mi : Nat, (if (5 : Int) < ((ws.length : Nat) : Int) then 5 else ((ws.length : Nat) : Int)) = (mi : Int) ∧ mi ≤ ws.length ∧ mi ≤ 5 := by
        split
        · exact ⟨5, rfl, by omega, Nat.le_refl _⟩
        · exact ⟨ws.length, rfl, Nat.le_refl _, by omega⟩
      have hmx : pMax2 false (.int .i64 ((ws.length : Nat) : Int)) (.int .i64 5) = some (.int .i64 mi) := by rw [← hmi]; rfl
      refine gdc_tt (gdc_tt (gdc_tt (w_len iaB (gdc_tt (w_some hmx (gdc_tt ?_))))))
      refine w_sliceT (enc := eI) eI_len (i := 0) (j := mi) (Sl.ex iaB Y7) (Nat.zero_le _) hmi2.1 (.inl ⟨rfl, rfl⟩) (.inr ⟨_, rfl⟩) fun v115 s115 on115 => ?_
      refine gdc_tt ?_
      have l115 : ((ws.drop 0).take (mi - 0)).length ≤ 100 := by rw [List.length_take]; omega
      refine has22 hx (shB.ex Y7) s115 (by omega) fun t7 f8 y8 ht7 => ?_
      have Y8 := Y7.trans y8
      refine read_ex S4 Y7 Y8 ?_
      have H5 := H4.cons (k := 32) Y7 Y8
      refine gdc_tt (hist_ex H5 cl ?_)
      refine w_rdPA (Y8.some GB) (Nat.le_refl 2) ?_
      have S5 := S4.cons (k := 33) cl
      refine gdc_tt (gdc_tt (gdc_tt (w_len iaB (gdc_tt (w_some hmx (gdc_tt ?_))))))
      refine w_sliceT (enc := eI) eI_len (i := 0) (j := mi) (Sl.ex iaB Y8) (Nat.zero_le _) hmi2.1 (.inl ⟨rfl, rfl⟩) (.inr ⟨_, rfl⟩) fun v122 s122 on122 => ?_
      refine gdc_tt ?_
      refine has23 hx (shB.ex Y8).sm s122 (by omega) fun t8 f9 y9 ht8 => ?_
      have Y9 := Y8.trans y9
      refine read_ex S5 Y8 Y9 ?_
      exact gdc_tt (w_beq (eq2 ht7 ht8) (pk_t rfl))
  | true =>
    obtain ⟨hh, hlen'⟩ := his rfl
    refine gc_tt (w_rdPA G6 (Nat.le_refl 2) (gc_tt (gc_tt ?_)))
    refine has22 hx sh6 hw6 (by omega) fun t h7 x7 ht => ?_
    have et : t = true := ht.2 hh
    subst et
    refine gc_tt (w_notb (gc_tt ?_))
    refine gc_ff (w_rdPA (x7.some G6) (Nat.le_refl 2) (gc_ff (gc_ff ?_)))
    refine has23 hx (sh6.sm.ex x7) (hw6.ex x7) (by omega) fun t h8 x8' ht => ?_
    have et : t = true := ht.2 hh
    subst et
    refine gc_ff (w_notb (gc_tt (pk_f (pk_t (c_f ?_)))))
    have x8 := x7.trans x8'
    have X8 := (x5.trans x6).trans x8
    have G8 := X8.some g3
    have lt8 := lt_of_get G8
    have sh8 := sh3.ex X8
    have hw8 := hw6.ex x8
    have ia8 := ia6.ex x8
    have sl8 := sl6.ex x8
    refine mk_ap (b := h8.length) (Nat.le_refl _) fun h9 x9 l9 ap9 => ?_
    refine app_ap ap9 (by omega) (hw8.ex x9) (by simp; omega) fun v47 h10 l10 s10 ap10 => ?_
    rw [List.nil_append] at ap10
    have X10 : Ex h8 h10 := ⟨by omega, fun j hj => (s10 j hj).trans (x9.get j hj)⟩
    refine joinE_intro (fun e h' => e 2 = v2 ∧ e 3 = .int .i64 at_ ∧ e 11 = .pointer (some ⟨h2.length, 0, none⟩) ∧ e 12 = v25 ∧ e 13 = vv ∧ ∃ vu u, e 15 = vu ∧ Ex h8 h' ∧ SlT 1 eI h' vu u ∧ u.length ≤ 1000000000) ?_ ?_
    case refine_2 =>
      intro J hJ
      refine w_len ap10.sl (w_gtr (c_dec (fun r => ?_) (fun r => ?_)))
      · refine w_len ap10.sl ?_
        refine within15 _ _ _ _ (by omega) (by omega) ?_
        refine w_len (sl8.ex X10) ?_
        refine within15 _ _ _ _ (by omega) (by omega) ?_
        have m1 := Int.emod_nonneg at_ (show ((w.length : Nat) : Int) ≠ 0 by omega)
        have m2 := Int.emod_lt_of_pos at_ (show (0 : Int) < ((w.length : Nat) : Int) by omega)
        obtain ⟨kN, hkN⟩ : ∃ kN : Nat, at_ % ((w.length : Nat) : Int) = (kN : Int) := ⟨(at_ % ((w.length : Nat) : Int)).toNat, by omega⟩
        rw [hkN]
        refine st_ap ap10 (by omega) fun p h11 l11 s11 ap11 => ?_
        refine hJ _ _ ⟨rfl, rfl, rfl, rfl, rfl, v47, _, rfl, ⟨by omega, fun j hj => (s11 j hj).trans (X10.get j hj)⟩, ap11.sl, by rw [List.length_set]; exact len22⟩
      · exact hJ _ _ ⟨rfl, rfl, rfl, rfl, rfl, v47, _, rfl, X10, ap10.sl, len22⟩
    rintro e h11 ⟨e2, e3, e11, e12, e13, vu, u, e15, X11, su, lu⟩
    rw [e2, e3, e11, e12, e13, e15]
    have hl11 := X11.len
    refine mk_ap (b := h11.length) (Nat.le_refl _) fun h12 x12 l12 ap12 => ?_
    refine app_ap ap12 (by omega) ((hw8.ex X11).ex x12) (by simp; omega) fun v63 h13 l13 s13 ap13 => ?_
    rw [List.nil_append] at ap13
    have X13 : Ex h11 h13 := ⟨by omega, fun j hj => (s13 j hj).trans (x12.get j hj)⟩
    refine w_len ap13.sl (w_gtr (c_dec (fun r => ?_) (fun r => ?_)))
    · refine w_len ap13.sl ?_
      refine within15 _ _ _ _ (by omega) (by omega) ?_
      have m1 := Int.emod_nonneg at_ (show ((w.length : Nat) : Int) ≠ 0 by omega)
      have m2 := Int.emod_lt_of_pos at_ (show (0 : Int) < ((w.length : Nat) : Int) by omega)
      obtain ⟨kN, hkN⟩ : ∃ kN : Nat, at_ % ((w.length : Nat) : Int) = (kN : Int) := ⟨(at_ % ((w.length : Nat) : Int)).toNat, by omega⟩
      rw [hkN]
      have hb0 : bldSl 1 [(.int .i64 0)] 0 [] = some [] := by kernel_rfl
      refine w_some hb0 ?_
      refine n_slot ?_
      rw [reserve_set]
      have xA : Ex h13 (h13 ++ [AObj.row [] true]) := .app _ _
      have gA : (h13 ++ [AObj.row [] true])[h13.length]? = some (.row [] true) := get_new _ _
      have lA : (h13 ++ [AObj.row [] true]).length = h13.length + 1 := by simp
      generalize h13 ++ [AObj.row [] true] = hA at *
      have hwA := ((hw8.ex X11).ex X13).ex xA
      refine w_sliceT (enc := eI) eI_len (i := 0) (j := kN) hwA (Nat.zero_le _) (by omega) (.inl ⟨rfl, rfl⟩) (.inr ⟨_, rfl⟩) fun v74 s74 on74 => ?_
      rw [List.drop_zero, Nat.sub_zero] at s74
      refine app_ap (b := h13.length) (.inl ⟨rfl, h13.length, rfl, Nat.le_refl _, gA⟩) (by omega) s74 (by simp; omega) fun v75 hC lC sC apC => ?_
      rw [List.nil_append] at apC
      have XC : Ex h13 hC := ⟨by omega, fun j hj => (sC j hj).trans (xA.get j (by omega))⟩
      have hwC := ((hw8.ex X11).ex X13).ex XC
      refine w_add (by omega) (by omega) ?_
      have ek : ((kN : Nat) : Int) + 1 = ((kN + 1 : Nat) : Int) := by omega
      rw [ek]
      refine w_sliceT (enc := eI) eI_len (i := kN + 1) (j := w.length) hwC (by omega) (Nat.le_refl _) (.inr ⟨_, rfl⟩) (.inl ⟨rfl, rfl⟩) fun v79 s79 on79 => ?_
      refine app_ap apC (by omega) s79 (by simp; omega) fun v80 hD lD sD apD => ?_
      have XD : Ex h13 hD := ⟨by omega, fun j hj => (sD j hj).trans (XC.get j hj)⟩
      have hdl : (w.take kN ++ (w.drop (kN + 1)).take (w.length - (kN + 1))).length ≤ 1000000000 := by
        rw [List.length_append, List.length_take, List.length_take, List.length_drop]
        omega
      have sd := apD.sl
      generalize w.take kN ++ (w.drop (kN + 1)).take (w.length - (kN + 1)) = d at *
      have XB : Ex h8 hD := X11.trans (X13.trans XD)
      have suB := (su.ex X13).ex XD
      generalize v80 = vd at *
      have GB := XB.some G8
      have ltB := lt_of_get GB
      have shB := sh8.ex XB
      have iaB := ia8.ex XB
      have eq2 : ∀ {a b : Bool} {l : List Int}, (a = true ↔ Hs x l) → (b = true ↔ Hs x l) → a = b := fun ha hb => Bool.eq_iff_iff.2 (ha.trans hb.symm)
      refine word24 (most := 8) (sl8.ex XB) (by have e := symsOf_len x; constructor <;> omega) iaB (by decide) fun v83 f1 y1 o83 => ?_
      have wl := wordOf_len (symsOf x).length ws 8
      generalize wordOf (symsOf x).length ws 8 = wd at *
      have s83 : SlT 1 eI f1 v83 wd := o83.sl
      refine w_rdPA (y1.some GB) (Nat.le_refl 2) ?_
      refine has22 hx (shB.ex y1) s83 (by omega) fun t1 f2 y2 ht1 => ?_
      have Y2 := y1.trans y2
      refine ⟨idrow (y1.some GB) (Y2.some GB), ?_⟩
      refine w_rdPA (Y2.some GB) (Nat.le_refl 2) ?_
      refine has23 hx (shB.ex Y2).sm (s83.ex y2) (by omega) fun t2 f3 y3 ht2 => ?_
      have Y3 := Y2.trans y3
      refine w_beq (eq2 ht1 ht2) ?_
      refine gdc_tt ?_
      refine w_rdPA (Y3.some GB) (Nat.le_refl 2) ?_
      have cl : ∀ z ∈ ceOf 2 (.pointer (some ⟨h2.length, 0, none⟩)), z.id < hD.length := ce_lt ltB
      have S0 := (((SOK.nil hD).cons (k := 0) cl).cons (k := 3) cl).cons (k := 8) cl
      have H0 := ((HOK.nil hD).cons (k := 2) y1 Y2).cons (k := 5) Y2 Y3
      refine gdc_tt (gdc_tt ?_)
      refine has22 hx (shB.ex Y3) (suB.ex Y3) (by omega) fun t3 f4 y4 ht3 => ?_
      have Y4 := Y3.trans y4
      refine read_ex S0 Y3 Y4 ?_
      have H1 := H0.cons (k := 10) Y3 Y4
      refine gdc_tt (hist_ex H1 cl ?_)
      refine w_rdPA (Y4.some GB) (Nat.le_refl 2) ?_
      have S1 := S0.cons (k := 11) cl
      refine gdc_tt (gdc_tt ?_)
      refine has23 hx (shB.ex Y4).sm (suB.ex Y4) (by omega) fun t4 f5 y5 ht4 => ?_
      have Y5 := Y4.trans y5
      refine read_ex S1 Y4 Y5 ?_
      have H2 := H1.cons (k := 13) Y4 Y5
      refine gdc_tt (w_beq (eq2 ht3 ht4) (pk_t ?_))
      refine gdc_tt (hist_ex H2 cl ?_)
      refine w_rdPA (Y5.some GB) (Nat.le_refl 2) ?_
      have S2 := S1.cons (k := 17) cl
      refine gdc_tt (gdc_tt ?_)
      refine has22 hx (shB.ex Y5) (Sl.ex sd Y5) (by omega) fun t5 f6 y6 ht5 => ?_
      have Y6 := Y5.trans y6
      refine read_ex S2 Y5 Y6 ?_
      have H3 := H2.cons (k := 19) Y5 Y6
      refine gdc_tt (hist_ex H3 cl ?_)
      refine w_rdPA (Y6.some GB) (Nat.le_refl 2) ?_
      have S3 := S2.cons (k := 20) cl
      refine gdc_tt (gdc_tt ?_)
      refine has23 hx (shB.ex Y6).sm (Sl.ex sd Y6) (by omega) fun t6 f7 y7 ht6 => ?_
      have Y7 := Y6.trans y7
      refine read_ex S3 Y6 Y7 ?_
      have H4 := H3.cons (k := 22) Y6 Y7
      refine gdc_tt (w_beq (eq2 ht5 ht6) (pk_t ?_))
      refine gdc_tt (hist_ex H4 cl ?_)
      refine w_rdPA (Y7.some GB) (Nat.le_refl 2) ?_
      have S4 := S3.cons (k := 26) cl
      obtain ⟨mi, hmi, hmi2⟩ : ∃ mi : Nat, (if (5 : Int) < ((ws.length : Nat) : Int) then 5 else ((ws.length : Nat) : Int)) = (mi : Int) ∧ mi ≤ ws.length ∧ mi ≤ 5 := by
        split
        · exact ⟨5, rfl, by omega, Nat.le_refl _⟩
        · exact ⟨ws.length, rfl, Nat.le_refl _, by omega⟩
      have hmx : pMax2 false (.int .i64 ((ws.length : Nat) : Int)) (.int .i64 5) = some (.int .i64 mi) := by rw [← hmi]; rfl
      refine gdc_tt (gdc_tt (gdc_tt (w_len iaB (gdc_tt (w_some hmx (gdc_tt ?_))))))
      refine w_sliceT (enc := eI) eI_len (i := 0) (j := mi) (Sl.ex iaB Y7) (Nat.zero_le _) hmi2.1 (.inl ⟨rfl, rfl⟩) (.inr ⟨_, rfl⟩) fun v115 s115 on115 => ?_
      refine gdc_tt ?_
      have l115 : ((ws.drop 0).take (mi - 0)).length ≤ 100 := by rw [List.length_take]; omega
      refine has22 hx (shB.ex Y7) s115 (by omega) fun t7 f8 y8 ht7 => ?_
      have Y8 := Y7.trans y8
      refine read_ex S4 Y7 Y8 ?_
      have H5 := H4.cons (k := 32) Y7 Y8
      refine gdc_tt (hist_ex H5 cl ?_)
      refine w_rdPA (Y8.some GB) (Nat.le_refl 2) ?_
      have S5 := S4.cons (k := 33) cl
      refine gdc_tt (gdc_tt (gdc_tt (w_len iaB (gdc_tt (w_some hmx (gdc_tt ?_))))))
      refine w_sliceT (enc := eI) eI_len (i := 0) (j := mi) (Sl.ex iaB Y8) (Nat.zero_le _) hmi2.1 (.inl ⟨rfl, rfl⟩) (.inr ⟨_, rfl⟩) fun v122 s122 on122 => ?_
      refine gdc_tt ?_
      refine has23 hx (shB.ex Y8).sm s122 (by omega) fun t8 f9 y9 ht8 => ?_
      have Y9 := Y8.trans y9
      refine read_ex S5 Y8 Y9 ?_
      exact gdc_tt (w_beq (eq2 ht7 ht8) (pk_t rfl))
    · have sd := ap13.sl
      have hdl := len22
      have XB : Ex h8 h13 := X11.trans X13
      have suB := su.ex X13
      generalize w = d at *
      generalize v63 = vd at *
      generalize h13 = hD at *
      have GB := XB.some G8
      have ltB := lt_of_get GB
      have shB := sh8.ex XB
      have iaB := ia8.ex XB
      have eq2 : ∀ {a b : Bool} {l : List Int}, (a = true ↔ Hs x l) → (b = true ↔ Hs x l) → a = b := fun ha hb => Bool.eq_iff_iff.2 (ha.trans hb.symm)
      refine word24 (most := 8) (sl8.ex XB) (by have e := symsOf_len x; constructor <;> omega) iaB (by decide) fun v83 f1 y1 o83 => ?_
      have wl := wordOf_len (symsOf x).length ws 8
      generalize wordOf (symsOf x).length ws 8 = wd at *
      have s83 : SlT 1 eI f1 v83 wd := o83.sl
      refine w_rdPA (y1.some GB) (Nat.le_refl 2) ?_
      refine has22 hx (shB.ex y1) s83 (by omega) fun t1 f2 y2 ht1 => ?_
      have Y2 := y1.trans y2
      refine ⟨idrow (y1.some GB) (Y2.some GB), ?_⟩
      refine w_rdPA (Y2.some GB) (Nat.le_refl 2) ?_
      refine has23 hx (shB.ex Y2).sm (s83.ex y2) (by omega) fun t2 f3 y3 ht2 => ?_
      have Y3 := Y2.trans y3
      refine w_beq (eq2 ht1 ht2) ?_
      refine gdc_tt ?_
      refine w_rdPA (Y3.some GB) (Nat.le_refl 2) ?_
      have cl : ∀ z ∈ ceOf 2 (.pointer (some ⟨h2.length, 0, none⟩)), z.id < hD.length := ce_lt ltB
      have S0 := (((SOK.nil hD).cons (k := 0) cl).cons (k := 3) cl).cons (k := 8) cl
      have H0 := ((HOK.nil hD).cons (k := 2) y1 Y2).cons (k := 5) Y2 Y3
      refine gdc_tt (gdc_tt ?_)
      refine has22 hx (shB.ex Y3) (suB.ex Y3) (by omega) fun t3 f4 y4 ht3 => ?_
      have Y4 := Y3.trans y4
      refine read_ex S0 Y3 Y4 ?_
      have H1 := H0.cons (k := 10) Y3 Y4
      refine gdc_tt (hist_ex H1 cl ?_)
      refine w_rdPA (Y4.some GB) (Nat.le_refl 2) ?_
      have S1 := S0.cons (k := 11) cl
      refine gdc_tt (gdc_tt ?_)
      refine has23 hx (shB.ex Y4).sm (suB.ex Y4) (by omega) fun t4 f5 y5 ht4 => ?_
      have Y5 := Y4.trans y5
      refine read_ex S1 Y4 Y5 ?_
      have H2 := H1.cons (k := 13) Y4 Y5
      refine gdc_tt (w_beq (eq2 ht3 ht4) (pk_t ?_))
      refine gdc_tt (hist_ex H2 cl ?_)
      refine w_rdPA (Y5.some GB) (Nat.le_refl 2) ?_
      have S2 := S1.cons (k := 17) cl
      refine gdc_tt (gdc_tt ?_)
      refine has22 hx (shB.ex Y5) (Sl.ex sd Y5) (by omega) fun t5 f6 y6 ht5 => ?_
      have Y6 := Y5.trans y6
      refine read_ex S2 Y5 Y6 ?_
      have H3 := H2.cons (k := 19) Y5 Y6
      refine gdc_tt (hist_ex H3 cl ?_)
      refine w_rdPA (Y6.some GB) (Nat.le_refl 2) ?_
      have S3 := S2.cons (k := 20) cl
      refine gdc_tt (gdc_tt ?_)
      refine has23 hx (shB.ex Y6).sm (Sl.ex sd Y6) (by omega) fun t6 f7 y7 ht6 => ?_
      have Y7 := Y6.trans y7
      refine read_ex S3 Y6 Y7 ?_
      have H4 := H3.cons (k := 22) Y6 Y7
      refine gdc_tt (w_beq (eq2 ht5 ht6) (pk_t ?_))
      refine gdc_tt (hist_ex H4 cl ?_)
      refine w_rdPA (Y7.some GB) (Nat.le_refl 2) ?_
      have S4 := S3.cons (k := 26) cl
      obtain ⟨mi, hmi, hmi2⟩ : ∃ mi : Nat, (if (5 : Int) < ((ws.length : Nat) : Int) then 5 else ((ws.length : Nat) : Int)) = (mi : Int) ∧ mi ≤ ws.length ∧ mi ≤ 5 := by
        split
        · exact ⟨5, rfl, by omega, Nat.le_refl _⟩
        · exact ⟨ws.length, rfl, Nat.le_refl _, by omega⟩
      have hmx : pMax2 false (.int .i64 ((ws.length : Nat) : Int)) (.int .i64 5) = some (.int .i64 mi) := by rw [← hmi]; rfl
      refine gdc_tt (gdc_tt (gdc_tt (w_len iaB (gdc_tt (w_some hmx (gdc_tt ?_))))))
      refine w_sliceT (enc := eI) eI_len (i := 0) (j := mi) (Sl.ex iaB Y7) (Nat.zero_le _) hmi2.1 (.inl ⟨rfl, rfl⟩) (.inr ⟨_, rfl⟩) fun v115 s115 on115 => ?_
      refine gdc_tt ?_
      have l115 : ((ws.drop 0).take (mi - 0)).length ≤ 100 := by rw [List.length_take]; omega
      refine has22 hx (shB.ex Y7) s115 (by omega) fun t7 f8 y8 ht7 => ?_
      have Y8 := Y7.trans y8
      refine read_ex S4 Y7 Y8 ?_
      have H5 := H4.cons (k := 32) Y7 Y8
      refine gdc_tt (hist_ex H5 cl ?_)
      refine w_rdPA (Y8.some GB) (Nat.le_refl 2) ?_
      have S5 := S4.cons (k := 33) cl
      refine gdc_tt (gdc_tt (gdc_tt (w_len iaB (gdc_tt (w_some hmx (gdc_tt ?_))))))
      refine w_sliceT (enc := eI) eI_len (i := 0) (j := mi) (Sl.ex iaB Y8) (Nat.zero_le _) hmi2.1 (.inl ⟨rfl, rfl⟩) (.inr ⟨_, rfl⟩) fun v122 s122 on122 => ?_
      refine gdc_tt ?_
      refine has23 hx (shB.ex Y8).sm s122 (by omega) fun t8 f9 y9 ht8 => ?_
      have Y9 := Y8.trans y9
      refine read_ex S5 Y8 Y9 ?_
      exact gdc_tt (w_beq (eq2 ht7 ht8) (pk_t rfl))
end Go.Proofs.Ytlenlhlipmkeeaa.W
end
