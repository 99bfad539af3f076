/- Parts of a proof, joined by a program. Conditions: none. -/
import Derived.Test.YtlenlhlipmkeeaaRB1
import Derived.Test.YtlenlhlipmkeeaaRB2
import Derived.Test.YtlenlhlipmkeeaaRS0

section
/- Schema's laws: a word that a schema has is whole. Conditions: none. -/
namespace Go.Proofs.Ytlenlhlipmkeeaa.W
open Go Go.AM SchM
set_option linter.unusedVariables false
set_option maxRecDepth 100000
def HOK (hB : AH) (H : HT) : Prop := ∀ t ∈ H, Ex hB t.2.1 ∧ Ex hB t.2.2
def SOK (hB : AH) (S : ST) : Prop := ∀ t ∈ S, ∀ z ∈ t.2, z.id < hB.length
theorem HOK.nil (hB : AH) : HOK hB [] := fun t ht => by cases ht
theorem SOK.nil (hB : AH) : SOK hB [] := fun t ht => by cases ht
theorem HOK.cons {hB a b : AH} {k : Nat} {H : HT} (h : HOK hB H) (ha : Ex hB a) (hb : Ex hB b) : HOK hB ((k, a, b) :: H) := fun t ht => by
  rcases List.mem_cons.1 ht with rfl | ht
  · exact ⟨ha, hb⟩
  · exact h t ht
theorem SOK.cons {hB : AH} {k : Nat} {xs : List Go.AM.Loc} {S : ST} (h : SOK hB S) (hx : ∀ z ∈ xs, z.id < hB.length) : SOK hB ((k, xs) :: S) := fun t ht => by
  rcases List.mem_cons.1 ht with rfl | ht
  · exact hx
  · exact h t ht
theorem hist_ex {hB : AH} {b : Array Nat} {j : Nat} {xs : List Go.AM.Loc} {K : Prop} {H : HT} (h : HOK hB H) (hx : ∀ z ∈ xs, z.id < hB.length) (k : K) : histC b j xs H K :=
  hist_all k fun t ht z hz => (vw_eq ((h t ht).1.get _ (hx z hz))).trans (vw_eq ((h t ht).2.get _ (hx z hz))).symm
theorem read_ex {hB a a' : AH} {b : Array Nat} {j : Nat} {K : Prop} {S : ST} (h : SOK hB S) (ha : Ex hB a) (hb : Ex hB a') (k : K) : readC b j a a' S K :=
  read_all k fun t ht z hz => (vw_eq (ha.get _ (h t ht z hz))).trans (vw_eq (hb.get _ (h t ht z hz))).symm
theorem ce_lt {hB : AH} {n i off : Nat} (hi : i < hB.length) : ∀ z ∈ ceOf n (.pointer (some ⟨i, off, none⟩)), z.id < hB.length := fun z hz => by
  rw [ce_id hz]
  exact hi
theorem pt_lt {hB : AH} {n : Nat} {p : Value} {cs : List Value} (hp : PtrTo hB p cs) : ∀ z ∈ ceOf n p, z.id < hB.length := by
  obtain ⟨id, off, c, w, rfl, g, _⟩ := hp
  exact ce_lt (lt_of_get g)
theorem app_nil {h : AH} {i : Nat} {x : Value} {u : List Int} {b : Nat} {K : Value → AH → Prop} (hi : b ≤ i) (gi : h[i]? = some (.row [] true)) (hb : b ≤ h.length) (hx : Sl 1 h x u.length (flat eI u)) (hn : u.length < 1000000000000)
    (k : ∀ v' h', Ex h h' → Sl 1 h' v' u.length (flat eI u) → (∀ j, onId v' j → b ≤ j) → (0 < u.length → OwnG 1 (fun j => b ≤ j) h' v' u.length (flat eI u)) → K v' h') : appSl 1 (.slice (some ⟨i, 0, none⟩) 0 0) x h K := by
  have hr40 : (1000000000000 : Nat) < room40 := by decide
  have ho40 : (1000000000000 : Nat) < openCap := by decide
  have hsrc := srcL_sl (by decide) hx
  refine appSl_sl hx (.inl ?_)
  by_cases h0 : u.length = 0
  · have hu : u = [] := List.eq_nil_of_length_eq_zero h0
    subst hu
    have : pAppS 1 (.slice (some ⟨i, 0, none⟩) 0 0) x h = some (.slice (some ⟨i, 0, none⟩) (0 + 0) 0, h) := by
      unfold pAppS
      simp only [hsrc]
      rw [if_pos (by simp; omega), if_pos (by omega)]
      simp [pAppEx, stAt, flat]
    rw [this]
    exact k _ _ (Ex.refl h) ⟨rfl, .inr ⟨i, 0, 0, rfl, .inl ⟨by omega, Nat.le_refl _⟩, .inl rfl⟩⟩ (fun j hj => by have : i = j := hj; omega) (fun h => absurd h (Nat.lt_irrefl 0))
  · have : pAppS 1 (.slice (some ⟨i, 0, none⟩) 0 0) x h = some (.slice (some ⟨h.length, 0, none⟩) (0 + u.length) (openCap + 1), h ++ [AObj.row ([] ++ flat eI u) true]) := by
      unfold pAppS
      simp only [hsrc]
      rw [if_pos (by omega), if_pos (by omega)]
      simp only [pAppEx]
      rw [if_neg (by omega), Nat.zero_mul]
      simp [firstL]
    rw [this, Nat.zero_add, List.nil_append]
    have o : OwnG 1 (fun j => b ≤ j) (h ++ [AObj.row (flat eI u) true]) (.slice (some ⟨h.length, 0, none⟩) u.length (openCap + 1)) u.length (flat eI u) := ⟨flat_length eI_len _, .inr ⟨h.length, _, hb, rfl, get_new _ _, by rw [flat_length eI_len]; exact Nat.le_refl _, by rw [List.take_of_length_le (by rw [flat_length eI_len]; exact Nat.le_refl _)]⟩⟩
    exact k _ _ (.app _ _) o.sl (fun j hj => (o.on hj).1) fun _ => o
theorem app_any {h : AH} {x y : Value} {u u' : List Int} {b : Nat} {K : Value → AH → Prop} (o : OwnG 1 (fun j => b ≤ j) h x u.length (flat eI u)) (hb : b ≤ h.length) (hy : Sl 1 h y u'.length (flat eI u')) (hn : u.length + u'.length < 1000000000000)
    (k : ∀ v' h', h.length ≤ h'.length → (∀ j, j < b → h'[j]? = h[j]?) → OwnG 1 (fun j => b ≤ j) h' v' (u ++ u').length (flat eI (u ++ u')) → K v' h') : appSl 1 x y h K := by
  have hr40 : (1000000000000 : Nat) < room40 := by decide
  refine appSl_sl hy (app_g (by decide) o (srcL_sl (by decide) hy) (by rw [flat_length eI_len]) (by omega) fun v' h' a1 a2 a3 a4 => ?_)
  refine k v' h' a2 (fun j hj => a3 j (by omega) fun hon => by have := (o.on hon).1; omega) ?_
  rw [flat_append, List.length_append]
  exact a1.mono (fun j hj hF => hF.elim (fun h => h) fun e => by show b ≤ j; omega) fun _ _ _ => rfl
theorem make_hok (size : Int) (ns : List Int) : Hok (make size ns 3) ∧ (∀ C, ∀ e ∈ (make size ns 3).2, cst C e.2 ≤ (C + 4) * 64) := by
  have mk := make_ok size ns 3
  refine ⟨⟨mk.nd, fun e he => ?_, by have := mk.l.1; omega⟩, fun C e he => make_cost C size ns 3 e he⟩
  obtain ⟨nm, g⟩ := mk.g e he
  exact ⟨g.ok, Nat.le_trans g.s (by decide)⟩
set_option maxHeartbeats 4000000 in
theorem schemaTrees_walk (h : AH) (size : Int) (_ : -9223372036854775808 ≤ size ∧ size ≤ 9223372036854775807) (v1 : Value) (ns : List Int) (i1 : Ints h v1 ns) (_ : ∀ n ∈ ns, -9223372036854775808 ≤ n ∧ n ≤ 9223372036854775807) (v2 : Value) (ws : List Int) (i2 : Ints h v2 ws) (_ : ∀ n ∈ ws, -9223372036854775808 ≤ n ∧ n ≤ 9223372036854775807) (hm : h.length = 2) :
    callW Try.prog 6 [.int .i64 size, v1, v2] h fun v _ => v = .bool true := by
  refine c6 ?_
  unfold s6
  refine known12 (.inr (.inr hm)) fun h1 x1 => w_notb (c_f ?_)
  obtain ⟨hx, hB⟩ := make_hok size ns
  refine make14 (d := 3) (i1.ex x1) (by decide) fun sv h2 x2 sh => ?_
  generalize make size ns 3 = x at *
  have hT := hx.T
  obtain ⟨La, Lc, Lcs, hsv, Lsl, Lon, Lel⟩ := id sh
  subst hsv
  refine n_var rfl rfl rfl fun h3 x3 l3 g3 => ?_
  have g3 : h3[h2.length]? = some (.row [.string (bs x.1), .slice La x.2.length Lc] true) := g3
  have sh3 := sh.ex x3
  refine w_rdPA g3 (Nat.le_refl 2) ?_
  refine syms20 sh3.sm hT fun v17 h5 x5 o5 => ?_
  have sl5 : SlT 2 eSy h5 v17 (symsOf x) := o5.sl
  have slen := symsOf_len x
  refine w_rdPA (x5.some g3) (Nat.le_refl 2) ?_
  have X5 := (x1.trans x2).trans (x3.trans x5)
  refine some21 hx (sh3.sm.ex x5) hB (i2.ex X5) fun v22 w22 is h6 x6 s22 on22 len22 his => ?_
  have G6 := (x5.trans x6).some g3
  refine w_some (v := v22) rfl ?_
  refine w_some (v := .bool is) rfl ?_
  cases is with
  | false =>
    refine w_notb (c_t ?_)
    refine word24 (most := 6) (sl5.ex x6) (by have e := symsOf_len x; constructor <;> omega) (i2.ex (X5.trans x6)) (by decide) fun vw h7 x7 o7 => ?_
    have X7 := x5.trans (x6.trans x7)
    refine w_rdPA (X7.some g3) (Nat.le_refl 2) ?_
    have wl := wordOf_len (symsOf x).length ws 6
    generalize wordOf (symsOf x).length ws 6 = w at *
    have hw7 : SlT 1 eI h7 vw w := o7.sl
    have hlen : w.length ≤ 100 := by omega
    refine has22 hx (sh3.ex X7) hw7 (by omega) fun t h8 x8 ht => ?_
    refine w_notb ?_
    have X8 := X7.trans x8
    have hw8 := hw7.ex x8
    cases t with
    | false => exact c_t rfl
    | true =>
      refine c_f ?_
      have hh : Hs x w := ht.1 rfl
      have G8 : h8[h2.length]? = some (.row [.string (bs x.1), .slice La x.2.length Lc] true) := X8.some g3
      have lt8 := lt_of_get G8
      have sl8 : SlT 2 eSy h8 v17 (symsOf x) := sl5.ex (by first | exact x6.trans (x7.trans x8) | exact x6.trans x8)
      have sh8 := sh3.ex X8
      have hrng := hh.rng
      have hle := hh.len
      have xr : Ex h8 (reserve 1 h8) := Ex.res h8
      refine whole25 (sl8.ex xr) (hw8.ex xr) (by omega) hT hrng (fun i hi => hh.whole i hi) fun h9 x9 => ?_
      have X9 := xr.trans x9
      have l9 : h8.length < h9.length := by
        have := x9.len
        rw [reserve_one] at this
        simp at this
        omega
      have H1 : HOK h8 ((2, reserve 1 h8, h9) :: []) := (HOK.nil h8).cons xr X9
      refine gdc_tt (gdc_tt (w_len (hw8.ex X9) (gdc_tt (w_gtr (pk_t ?_)))))
      have q1 : (1 : Int) < ((w.length : Nat) : Int) := by omega
      obtain ⟨kN, hfd, hkT, hc0⟩ := hle.2
      obtain ⟨el, hel⟩ := getElem?_of_lt (l := x.2) (i := kN) hkT
      have hnm : el.1 = x.1 := by
        obtain ⟨e', h3', h4'⟩ := (fd_iff hx.nd x.1 kN).1 hfd
        rw [hel] at h3'
        cases h3'
        exact h4'
      refine gd_tt q1 (gd_tt q1 (gd_tt q1 ?_))
      refine w_idxN (enc := eI) (i := 0) eI_len hw8 hc0 fun pp hpp => ?_
      refine gd_tt q1 (hist_ex H1 (pt_lt hpp) ?_)
      refine w_rd1 (hpp.ex X9) (x := .int .i64 (2 * (kN : Int))) rfl ?_
      refine gd_tt q1 ?_
      have hsy : (symsOf x)[(2 * (kN : Int)).toNat]? = some (el.1, 1) := by
        rw [show (2 * (kN : Int)).toNat = 2 * kN by omega]
        exact (symsOf_get hel).1
      refine w_idxT (enc := eSy) eSy_len sl8 (by omega) hsy fun p hp => ?_
      refine gd_tt q1 ?_
      refine w_off hp (Nat.zero_le _) fun p2 hp2 => ?_
      refine gd_tt q1 (hist_ex H1 (pt_lt hp2) ?_)
      refine w_rd1 (hp2.ex X9) (x := .string (bs el.1)) rfl ?_
      refine gd_tt q1 (w_offP (gd_tt q1 (hist_ex H1 (ce_lt lt8) ?_)))
      refine w_rdP (X9.some G8) (v := .string (bs x.1)) rfl ?_
      refine gd_tt q1 (w_seql (pk_tt q1 ?_))
      have S1 : SOK h8 ((17, ceOf 1 (.pointer (some ⟨h2.length, 0 + 0, none⟩))) :: (15, ceOf 1 p2) :: (12, ceOf 1 pp) :: []) := (((SOK.nil h8).cons (pt_lt hpp)).cons (pt_lt hp2)).cons (ce_lt lt8)
      refine gd_tt hnm (hist_ex H1 (ce_lt lt8) ?_)
      refine w_rdPA (X9.some G8) (Nat.le_refl 2) ?_
      have S2 : SOK h8 ((21, ceOf 2 (.pointer (some ⟨h2.length, 0, none⟩))) :: (17, ceOf 1 (.pointer (some ⟨h2.length, 0 + 0, none⟩))) :: (15, ceOf 1 p2) :: (12, ceOf 1 pp) :: []) := S1.cons (ce_lt lt8)
      refine gd_tt hnm ?_
      have hb0 : bldSl 1 [(.int .i64 0)] 0 [] = some [] := by kernel_rfl
      refine w_some hb0 ?_
      refine n_slot ?_
      have gA : (h9.set h8.length (.row [] true))[h8.length]? = some (.row [] true) := get_set _ l9 _
      have XA : Ex h8 (h9.set h8.length (.row [] true)) := X9.set (Nat.le_refl _) _
      have lA : (h9.set h8.length (.row [] true)).length = h9.length := by simp
      generalize h9.set h8.length (.row [] true) = hA at *
      have H2 : HOK h8 ((22, h9, hA) :: (2, reserve 1 h8, h9) :: []) := H1.cons X9 XA
      refine gd_tt hnm (gd_tt hnm ?_)
      refine app_nil (b := h8.length) (Nat.le_refl _) gA (by omega) (hw8.ex XA) (by omega) fun v59 hC xC s59 on59 o59 => ?_
      have o59 := o59 (by omega)
      have XC := XA.trans xC
      refine read_ex S2 XA XC ?_
      refine gd_tt hnm (gd_tt hnm ?_)
      refine app_any o59 XC.len (hw8.ex XC) (by omega) fun v61 hD lD sD o61 => ?_
      have XD : Ex h8 hD := ⟨by have := XC.len; omega, fun j hj => (sD j hj).trans (XC.get j hj)⟩
      refine read_ex S2 XC XD ?_
      refine gd_tt hnm ?_
      refine has22 hx (sh8.ex XD) (show SlT 1 eI hD v61 (w ++ w) from o61.sl) (by rw [List.length_append]; omega) fun t1 hE xE ht1 => ?_
      have XE := XD.trans xE
      refine read_ex S2 XD XE ?_
      have et1 : t1 = false := Bool.eq_false_iff.2 fun h => hh.twice (ht1.1 h)
      subst et1
      refine gd_tt hnm (w_notb (pk_tt hnm ?_))
      have H3 : HOK h8 ((27, hD, hE) :: (26, hC, hD) :: (24, hA, hC) :: (22, h9, hA) :: (2, reserve 1 h8, h9) :: []) := ((H2.cons XA XC).cons XC XD).cons XD XE
      refine gdc_tt (hist_ex H3 (ce_lt lt8) ?_)
      refine w_rdPA (XE.some G8) (Nat.le_refl 2) ?_
      refine gdc_tt (gdc_tt (gdc_tt (w_len (hw8.ex XE) (gdc_tt (w_sub (by omega) (by omega) (gdc_tt ?_))))))
      have e1 : ((w.length : Nat) : Int) - 1 = ((w.length - 1 : Nat) : Int) := by omega
      rw [e1]
      refine w_sliceT (enc := eI) eI_len (i := 0) (j := w.length - 1) (hw8.ex XE) (Nat.zero_le _) (by omega) (.inl ⟨rfl, rfl⟩) (.inr ⟨_, rfl⟩) fun v71 s71 on71 => ?_
      rw [List.drop_zero, Nat.sub_zero] at s71
      refine gdc_tt ?_
      refine has22 hx (sh8.ex XE) s71 (by rw [List.length_take]; omega) fun t2 hF xF ht2 => ?_
      have XF := XE.trans xF
      have S3 : SOK h8 ((31, ceOf 2 (.pointer (some ⟨h2.length, 0, none⟩))) :: (21, ceOf 2 (.pointer (some ⟨h2.length, 0, none⟩))) :: (17, ceOf 1 (.pointer (some ⟨h2.length, 0 + 0, none⟩))) :: (15, ceOf 1 p2) :: (12, ceOf 1 pp) :: []) := S2.cons (ce_lt lt8)
      refine read_ex S3 XE XF ?_
      have et2 : t2 = false := Bool.eq_false_iff.2 fun h => hh.cut (ht2.1 h)
      subst et2
      exact gdc_tt (w_notb (pk_t rfl))
  | true =>
    refine w_notb (c_f ?_)
    obtain ⟨hh, hlen'⟩ := his rfl
    have hlen : w22.length ≤ 100 := by omega
    refine w_rdPA G6 (Nat.le_refl 2) ?_
    have hw6 : SlT 1 eI h6 v22 w22 := s22
    refine has22 hx (sh3.ex (x5.trans x6)) hw6 (by omega) fun t h8 x8 ht => ?_
    refine w_notb ?_
    have X8 := x5.trans (x6.trans x8)
    have hw8 := hw6.ex x8
    cases t with
    | false => exact absurd (ht.2 hh) Bool.false_ne_true
    | true =>
      refine c_f ?_
      generalize w22 = w at *
      generalize v22 = vw at *
      have G8 : h8[h2.length]? = some (.row [.string (bs x.1), .slice La x.2.length Lc] true) := X8.some g3
      have lt8 := lt_of_get G8
      have sl8 : SlT 2 eSy h8 v17 (symsOf x) := sl5.ex (by first | exact x6.trans (x7.trans x8) | exact x6.trans x8)
      have sh8 := sh3.ex X8
      have hrng := hh.rng
      have hle := hh.len
      have xr : Ex h8 (reserve 1 h8) := Ex.res h8
      refine whole25 (sl8.ex xr) (hw8.ex xr) (by omega) hT hrng (fun i hi => hh.whole i hi) fun h9 x9 => ?_
      have X9 := xr.trans x9
      have l9 : h8.length < h9.length := by
        have := x9.len
        rw [reserve_one] at this
        simp at this
        omega
      have H1 : HOK h8 ((2, reserve 1 h8, h9) :: []) := (HOK.nil h8).cons xr X9
      refine gdc_tt (gdc_tt (w_len (hw8.ex X9) (gdc_tt (w_gtr (pk_t ?_)))))
      have q1 : (1 : Int) < ((w.length : Nat) : Int) := by omega
      obtain ⟨kN, hfd, hkT, hc0⟩ := hle.2
      obtain ⟨el, hel⟩ := getElem?_of_lt (l := x.2) (i := kN) hkT
      have hnm : el.1 = x.1 := by
        obtain ⟨e', h3', h4'⟩ := (fd_iff hx.nd x.1 kN).1 hfd
        rw [hel] at h3'
        cases h3'
        exact h4'
      refine gd_tt q1 (gd_tt q1 (gd_tt q1 ?_))
      refine w_idxN (enc := eI) (i := 0) eI_len hw8 hc0 fun pp hpp => ?_
      refine gd_tt q1 (hist_ex H1 (pt_lt hpp) ?_)
      refine w_rd1 (hpp.ex X9) (x := .int .i64 (2 * (kN : Int))) rfl ?_
      refine gd_tt q1 ?_
      have hsy : (symsOf x)[(2 * (kN : Int)).toNat]? = some (el.1, 1) := by
        rw [show (2 * (kN : Int)).toNat = 2 * kN by omega]
        exact (symsOf_get hel).1
      refine w_idxT (enc := eSy) eSy_len sl8 (by omega) hsy fun p hp => ?_
      refine gd_tt q1 ?_
      refine w_off hp (Nat.zero_le _) fun p2 hp2 => ?_
      refine gd_tt q1 (hist_ex H1 (pt_lt hp2) ?_)
      refine w_rd1 (hp2.ex X9) (x := .string (bs el.1)) rfl ?_
      refine gd_tt q1 (w_offP (gd_tt q1 (hist_ex H1 (ce_lt lt8) ?_)))
      refine w_rdP (X9.some G8) (v := .string (bs x.1)) rfl ?_
      refine gd_tt q1 (w_seql (pk_tt q1 ?_))
      have S1 : SOK h8 ((17, ceOf 1 (.pointer (some ⟨h2.length, 0 + 0, none⟩))) :: (15, ceOf 1 p2) :: (12, ceOf 1 pp) :: []) := (((SOK.nil h8).cons (pt_lt hpp)).cons (pt_lt hp2)).cons (ce_lt lt8)
      refine gd_tt hnm (hist_ex H1 (ce_lt lt8) ?_)
      refine w_rdPA (X9.some G8) (Nat.le_refl 2) ?_
      have S2 : SOK h8 ((21, ceOf 2 (.pointer (some ⟨h2.length, 0, none⟩))) :: (17, ceOf 1 (.pointer (some ⟨h2.length, 0 + 0, none⟩))) :: (15, ceOf 1 p2) :: (12, ceOf 1 pp) :: []) := S1.cons (ce_lt lt8)
      refine gd_tt hnm ?_
      have hb0 : bldSl 1 [(.int .i64 0)] 0 [] = some [] := by kernel_rfl
      refine w_some hb0 ?_
      refine n_slot ?_
      have gA : (h9.set h8.length (.row [] true))[h8.length]? = some (.row [] true) := get_set _ l9 _
      have XA : Ex h8 (h9.set h8.length (.row [] true)) := X9.set (Nat.le_refl _) _
      have lA : (h9.set h8.length (.row [] true)).length = h9.length := by simp
      generalize h9.set h8.length (.row [] true) = hA at *
      have H2 : HOK h8 ((22, h9, hA) :: (2, reserve 1 h8, h9) :: []) := H1.cons X9 XA
      refine gd_tt hnm (gd_tt hnm ?_)
      refine app_nil (b := h8.length) (Nat.le_refl _) gA (by omega) (hw8.ex XA) (by omega) fun v59 hC xC s59 on59 o59 => ?_
      have o59 := o59 (by omega)
      have XC := XA.trans xC
      refine read_ex S2 XA XC ?_
      refine gd_tt hnm (gd_tt hnm ?_)
      refine app_any o59 XC.len (hw8.ex XC) (by omega) fun v61 hD lD sD o61 => ?_
      have XD : Ex h8 hD := ⟨by have := XC.len; omega, fun j hj => (sD j hj).trans (XC.get j hj)⟩
      refine read_ex S2 XC XD ?_
      refine gd_tt hnm ?_
      refine has22 hx (sh8.ex XD) (show SlT 1 eI hD v61 (w ++ w) from o61.sl) (by rw [List.length_append]; omega) fun t1 hE xE ht1 => ?_
      have XE := XD.trans xE
      refine read_ex S2 XD XE ?_
      have et1 : t1 = false := Bool.eq_false_iff.2 fun h => hh.twice (ht1.1 h)
      subst et1
      refine gd_tt hnm (w_notb (pk_tt hnm ?_))
      have H3 : HOK h8 ((27, hD, hE) :: (26, hC, hD) :: (24, hA, hC) :: (22, h9, hA) :: (2, reserve 1 h8, h9) :: []) := ((H2.cons XA XC).cons XC XD).cons XD XE
      refine gdc_tt (hist_ex H3 (ce_lt lt8) ?_)
      refine w_rdPA (XE.some G8) (Nat.le_refl 2) ?_
      refine gdc_tt (gdc_tt (gdc_tt (w_len (hw8.ex XE) (gdc_tt (w_sub (by omega) (by omega) (gdc_tt ?_))))))
      have e1 : ((w.length : Nat) : Int) - 1 = ((w.length - 1 : Nat) : Int) := by omega
      rw [e1]
      refine w_sliceT (enc := eI) eI_len (i := 0) (j := w.length - 1) (hw8.ex XE) (Nat.zero_le _) (by omega) (.inl ⟨rfl, rfl⟩) (.inr ⟨_, rfl⟩) fun v71 s71 on71 => ?_
      rw [List.drop_zero, Nat.sub_zero] at s71
      refine gdc_tt ?_
      refine has22 hx (sh8.ex XE) s71 (by rw [List.length_take]; omega) fun t2 hF xF ht2 => ?_
      have XF := XE.trans xF
      have S3 : SOK h8 ((31, ceOf 2 (.pointer (some ⟨h2.length, 0, none⟩))) :: (21, ceOf 2 (.pointer (some ⟨h2.length, 0, none⟩))) :: (17, ceOf 1 (.pointer (some ⟨h2.length, 0 + 0, none⟩))) :: (15, ceOf 1 p2) :: (12, ceOf 1 pp) :: []) := S2.cons (ce_lt lt8)
      refine read_ex S3 XE XF ?_
      have et2 : t2 = false := Bool.eq_false_iff.2 fun h => hh.cut (ht2.1 h)
      subst et2
      exact gdc_tt (w_notb (pk_t rfl))
end Go.Proofs.Ytlenlhlipmkeeaa.W
end
