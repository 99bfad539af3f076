/- Parts of a proof, joined by a program. Conditions: none. -/
import Derived.Test.YtdlbiliolbdbmaaGreatRB0
import Derived.Test.YtdlbiliolbdbmaaGreatRA2

section
/- Top's laws, package fold: the code's Check. Conditions: none. -/
namespace Go.Proofs.YtdlbiliolbdbmaaGreat.W
open Go Go.AM
set_option linter.unusedVariables false
set_option maxRecDepth 100000
def RowOK (m : Mo) (l : List Int) (long c : Int) : Prop := (l.length : Int) = long ∧ ∀ (k : Nat) (x : Int), l[k]? = some x → Mem m.Of m.Of.length c x
def RetOK (m : Mo) (r : List (List Int)) : Prop := (r.length : Int) = m.cl ∧ ∀ (j : Nat) (l : List Int), r[j]? = some l → l.length = m.Of.length ∧ ∀ (k : Nat) (x : Int), l[k]? = some x → ∃ c, m.Of[k]? = some c ∧ Mem m.Of m.Of.length c x
def InOK (m : Mo) (p : Nat) : Prop := ∀ (c : Int) (l : List Int), m.Of[p]? = some c → m.In[p]? = some l → RowOK m l m.pl c
def ClOK (m : Mo) (p : Nat) : Prop := ∀ (c : Int) (lo : List Int) (re : List (List Int)), m.Of[p]? = some c → m.Low[p]? = some lo → m.Ret[p]? = some re → (c = 0 → re.length = 0 ∧ RowOK m lo m.cl 0) ∧ (c ≠ 0 → lo.length = 0 ∧ RetOK m re)
structure Valid (m : Mo) : Prop where
  pl : 0 ≤ m.pl ∧ m.pl < 21
  cl : 0 ≤ m.cl ∧ m.cl < 21
  n1 : 1 ≤ (m.Of.length : Int)
  n2 : (m.Of.length : Int) ≤ 60
  k1 : 1 ≤ (m.En.length : Int)
  k2 : (m.En.length : Int) ≤ 21
  of : ∀ (k : Nat) (x : Int), m.Of[k]? = some x → 0 ≤ x ∧ x < (m.En.length : Int)
  en : ∀ (k : Nat) (x : Int), m.En[k]? = some x → Mem m.Of m.Of.length k x
  lf : m.Fi.length = m.Of.length
  li : m.In.length = m.Of.length
  ll : m.Low.length = m.Of.length
  lr : m.Ret.length = m.Of.length
  st : ∀ p, p < m.Of.length → InOK m p ∧ ClOK m p
theorem read_cons {b : Array Nat} {j k : Nat} {xs : List AM.Loc} {hb ha : AH} {S : ST} {K : Prop} (h : ∀ x ∈ xs, vw x hb = vw x ha) (r : readC b j hb ha S K) : readC b j hb ha ((k, xs) :: S) K := by
  unfold readC
  split
  · exact ⟨h, r⟩
  · exact r
theorem idxV {h : AH} {v : Value} {n : Nat} {vals : List Value} {i : Nat} {x : Value} {K : Value → Prop} (hv : Sl 1 h v n vals) (hx : vals[i]? = some x) (k : ∀ p, PtrTo h p [x] → K p) : optW (pIdxS 1 v (.int .i64 (i : Nat))) K := by
  have hl : vals.length = n := by have := hv.1; omega
  have hi := (List.getElem?_eq_some_iff.1 hx).1
  refine w_idx hv (by omega) (by omega) fun p hp => k p ?_
  have e : (vals.drop (((i : Nat) : Int).toNat * 1)).take 1 = [x] := by
    rw [Int.toNat_natCast, Nat.mul_one, List.drop_eq_getElem_cons hi]
    have := (List.getElem?_eq_some_iff.1 hx).2
    rw [this]
    rfl
  rw [e] at hp
  exact hp
theorem cls50 {h : AH} {b b5 : Nat} {u : MoV} {m : Mo} {w w' : Bool} {k : Nat} {x : Int} {K : Value → AH → Prop} (g : h[b]? = some (.row (moRow u m) w)) (g5 : h[b5]? = some (.row [.func (.func 144) #[] #[.pointer (some ⟨b, 0, none⟩)]] w')) (mh : MoH h u m)
    (kk : ∀ r h', Ex h h' → (r = true ↔ ∃ c, m.Of[k]? = some c ∧ Mem m.Of m.Of.length c x) → K (.bool r) h') : callV (callW Tryz.prog) (.func (.func 146) #[] #[.pointer (some ⟨b, 0, none⟩), .pointer (some ⟨b5, 0, none⟩)]) [.int .i64 (k : Nat), .int .i64 x] h K := by
  show callW Tryz.prog 146 [.int .i64 (k : Nat), .int .i64 x, .pointer (some ⟨b, 0, none⟩), .pointer (some ⟨b5, 0, none⟩)] h K
  refine c146 ?_
  unfold s146
  have of := mh.of
  refine w_offP (w_rdP g (v := sv u.vo) rfl (w_len of (w_lss ?_)))
  by_cases q : (k : Int) < ((m.Of.length : Nat) : Int)
  · obtain ⟨c, hc⟩ := getElem?_of_lt (l := m.Of) (i := k) (by omega)
    refine gd_tt q (w_rdP g5 rfl (gd_tt q (w_offP (gd_tt q (hist_nil (w_rdP g (v := sv u.vo) rfl (gd_tt q (gd_tt q (w_idxN eI_len of hc fun z hz => gd_tt q (hist_nil (w_rd1 hz rfl (gd_tt q ?_))))))))))))
    refine cls48 fun h1 x1 g1 => ?_
    refine read_cons (hz.ids (Ex.refl _) x1) (read_cons (idrow g (x1.some g)) (read_cons (idrow g5 (x1.some g5)) (read_cons (idrow g (x1.some g)) (read_nil ?_))))
    refine gd_tt q (gd_tt q (gd_tt q ?_))
    refine cls49 (x1.some g) g1 (mh.ex x1) fun r hr => read_same ?_
    refine pk_tt q (kk r h1 x1 ⟨fun h => ⟨c, hc, hr.1 h⟩, fun ⟨d, hd, hm⟩ => ?_⟩)
    rw [hc] at hd
    cases hd
    exact hr.2 hm
  · refine gd_tf q (gd_tf q (gd_tf q (gd_tf q (gd_tf q (gd_tf q (gd_tf q (gd_tf q (gd_tf q (gd_tf q (pk_ff q ?_))))))))))
    refine kk _ h (Ex.refl _) ⟨fun h => (by cases h), fun ⟨d, hd, hm⟩ => ?_⟩
    have := (List.getElem?_eq_some_iff.1 hd).1
    exact absurd (by omega) q
theorem closings36 {h : AH} {u : MoV} {m : Mo} {p : Nat} {c : Int} {lo : List Int} {re : List (List Int)} {K : Value → AH → Prop} (mh : MoH h u m) (hc : m.Of[p]? = some c) (hlo : m.Low[p]? = some lo) (hre : m.Ret[p]? = some re)
    (kk : ∀ r h', Ex h h' → (r = true ↔ ClOK m p) → K (.bool r) h') : callW Tryz.prog 98 [.agg (moRow u m).toArray, .int .i64 (p : Nat)] h K := by
  refine c98 ?_
  unfold s98
  refine n_boxv rfl fun h1 x1 l1 g1 => n_rowv fun h2 x2 l2 g2 => w_stP g2 (Nat.zero_lt_one) rfl rfl ?_
  have lt2 := lt_of_get g2
  have x3 : Ex h1 (h2.set h1.length (.row ([Value.nilFunc].set 0 (.func (.func 144) #[] #[.pointer (some ⟨h.length, 0, none⟩)])) true)) := x2.set (Nat.le_refl _) _
  have g5 : (h2.set h1.length (.row ([Value.nilFunc].set 0 (.func (.func 144) #[] #[.pointer (some ⟨h.length, 0, none⟩)])) true))[h1.length]? = some (.row [.func (.func 144) #[] #[.pointer (some ⟨h.length, 0, none⟩)]] true) := get_set _ lt2 _
  generalize hH : h2.set h1.length _ = h3
  have e3 : h2.set h1.length (.row ([Value.nilFunc].set 0 (.func (.func 144) #[] #[.pointer (some ⟨h.length, 0, none⟩)])) true) = h3 := hH
  rw [e3] at x3 g5
  clear hH e3
  have x03 : Ex h h3 := x1.trans x3
  have g : h3[h.length]? = some (.row (moRow u m) true) := x3.some g1
  have m3 := mh.ex x03
  have of := m3.of
  have hclok : ∀ r : Bool, (r = true ↔ (c = 0 → re.length = 0 ∧ RowOK m lo m.cl 0) ∧ (c ≠ 0 → lo.length = 0 ∧ RetOK m re)) → (r = true ↔ ClOK m p) := fun r hr => hr.trans ⟨fun h c' lo' re' h1 h2 h3 => by
    rw [hc] at h1; rw [hlo] at h2; rw [hre] at h3
    cases h1; cases h2; cases h3
    exact h, fun h => h c lo re hc hlo hre⟩
  obtain ⟨lv, lv1, lv2⟩ := m3.low
  obtain ⟨wl, wl1, wl2⟩ := lv2 p lo hlo
  obtain ⟨rv, rv1, rv2⟩ := m3.ret
  obtain ⟨wr, wr1, wr2⟩ := rv2 p re hre
  obtain ⟨rrv, rrv1, rrv2⟩ := wr2
  have szl := m3.szL lo (List.mem_of_getElem? hlo)
  have szr := m3.szR re (List.mem_of_getElem? hre)
  refine w_offP (w_rdP g (v := sv u.vo) rfl (w_idxN eI_len of hc fun z hz => w_rd1 hz rfl (w_eql (c_dec (fun qc => ?_) (fun qc => ?_)))))
  · refine w_offP (w_rdP g (v := sv u.vr) rfl (idxV rv1 wr1 fun z1 hz1 => w_rd1 hz1 rfl (w_len rrv1 (w_eql ?_))))
    by_cases q : ((re.length : Nat) : Int) = 0
    · refine gd_tt q (w_offP (gd_tt q (hist_nil (w_rdP g (v := sv u.vl) rfl (gd_tt q (gd_tt q (idxV lv1 wl1 fun z2 hz2 => gd_tt q (hist_nil (w_rd1 hz2 rfl ?_)))))))))
      refine gd_tt q (w_offP (gd_tt q (hist_nil (w_rdP g (v := .int .i64 m.cl) rfl (gd_tt q (hist_nil (w_rdP g5 rfl (gd_tt q ?_))))))))
      refine cls48 fun h4 x4 g4 => ?_
      refine read_cons (idrow g5 (x4.some g5)) (read_cons (idrow g (x4.some g)) (read_cons (hz2.ids (Ex.refl _) x4) (read_cons (idrow g (x4.some g)) (read_cons (hz1.ids (Ex.refl _) x4) (read_cons (idrow g (x4.some g)) (read_nil ?_))))))
      refine gd_tt q ?_
      refine row32 (R := fun a b => a = b) (may := fun _ x => Mem m.Of m.Of.length 0 x) (fun _ => rfl) (fun a b => a.trans b) (fun e => e ▸ Ex.refl _) (Sl.ex wl2 x4) szl (fun k x hc' K' hk hh k' => ?_) fun r h5 hr5 hr => ?_
      · subst hh
        exact cls49 (x4.some g) g4 (m3.ex x4) fun r hr => k' r _ rfl hr
      · subst hr5
        refine read_same (pk_tt q ?_)
        refine kk r h4 (x03.trans x4) (hclok r (hr.trans ⟨fun h => ⟨fun _ => ⟨by omega, h.1, h.2⟩, fun hn => absurd qc hn⟩, fun h => (h.1 qc).2⟩))
    · refine gd_tf q (gd_tf q (gd_tf q (gd_tf q (gd_tf q (gd_tf q (gd_tf q (gd_tf q (gd_tf q (gd_tf q (pk_ff q ?_))))))))))
      exact kk _ h3 x03 (hclok _ ⟨fun h => (by cases h), fun h => absurd (h.1 qc).1 (by omega)⟩)
  · refine w_offP (w_rdP g (v := sv u.vl) rfl (idxV lv1 wl1 fun z1 hz1 => w_rd1 hz1 rfl (w_len wl2 (w_neq ?_))))
    by_cases q : ¬ ((lo.length : Nat) : Int) = 0
    · refine gd_ft q (gd_ft q (gd_ft q (gd_ft q (gd_ft q (gd_ft q (gd_ft q (gd_ft q (gd_ft q (pk_tt q (c_t ?_))))))))))
      exact kk _ h3 x03 (hclok _ ⟨fun h => (by cases h), fun h => absurd (h.2 qc).1 (by omega)⟩)
    · refine gd_ff q (w_offP (gd_ff q (hist_nil (w_rdP g (v := sv u.vr) rfl (gd_ff q (gd_ff q (idxV rv1 wr1 fun z2 hz2 => gd_ff q (hist_nil (w_rd1 hz2 rfl ?_)))))))))
      refine gd_ff q (w_len rrv1 (gd_ff q (w_offP (gd_ff q (hist_nil (w_rdP g (v := .int .i64 m.cl) rfl (gd_ff q (w_neq (pk_ff q ?_)))))))))
      refine c_dec (fun q2 => ?_) (fun q2 => ?_)
      · exact kk _ h3 x03 (hclok _ ⟨fun h => (by cases h), fun h => absurd (h.2 qc).2.1 q2⟩)
      refine w_offP (w_rdP g (v := sv u.vr) rfl (idxV rv1 wr1 fun z3 hz3 => w_rd1 hz3 rfl (w_len rrv1 ?_)))
      refine loopE_intro (fun mm e h' => ∃ j : Nat, j ≤ re.length ∧ mm = re.length - j ∧ e 2 = .pointer (some ⟨h.length, 0, none⟩) ∧ e 5 = .pointer (some ⟨h1.length, 0, none⟩) ∧ e 56 = wr ∧ e 57 = .int .i64 (re.length : Nat) ∧ e 58 = .int .i64 (j : Nat) ∧ Ex h3 h' ∧ ∀ (a : Nat) (l : List Int), a < j → re[a]? = some l → l.length = m.Of.length ∧ ∀ (k : Nat) (x : Int), l[k]? = some x → ∃ c, m.Of[k]? = some c ∧ Mem m.Of m.Of.length c x) re.length
        ⟨0, Nat.zero_le _, rfl, rfl, rfl, rfl, rfl, rfl, Ex.refl _, fun a l ha => by omega⟩ ?_
      rintro I mm e h4 ⟨j, hj, hmm, e2, e5, e56, e57, e58, x4, hall⟩ ih
      rw [e2, e5, e56, e57, e58]
      refine w_lss (c_dec (fun q3 => ?_) (fun q3 => ?_))
      · obtain ⟨l, hl⟩ := getElem?_of_lt (l := re) (i := j) (by omega)
        obtain ⟨wj, wj1, wj2⟩ := rrv2 j l hl
        refine idxV (rrv1.ex x4) wj1 fun z4 hz4 => w_rd1 hz4 rfl (w_offP (w_rdP (x4.some g) (v := sv u.vo) rfl (w_len (Sl.ex of x4) ?_)))
        refine row32 (R := Ex) (may := fun k x => ∃ c, m.Of[k]? = some c ∧ Mem m.Of m.Of.length c x) Ex.refl (fun a b => a.trans b) (fun e => e) (Sl.ex wj2 x4) (szr.2 l (List.mem_of_getElem? hl)) (fun k x hd K' hk hh k' => ?_) fun r h5 hr5 hr => ?_
        · exact cls50 ((x4.trans hh).some g) ((x4.trans hh).some g5) (m3.ex (x4.trans hh)) fun r h6 x6 hr => k' r h6 x6 hr
        · cases r with
          | true =>
            refine w_notb (c_f (w_add (by omega) (by omega) ?_))
            refine ih (re.length - (j + 1)) _ _ (by omega) ⟨j + 1, by omega, rfl, e2, e5, e56, e57, rfl, x4.trans hr5, fun a l' ha hl' => ?_⟩
            by_cases ea : a = j
            · subst ea
              rw [hl] at hl'
              cases hl'
              have := hr.1 rfl
              exact ⟨by omega, this.2⟩
            · exact hall a l' (by omega) hl'
          | false =>
            refine w_notb (c_t ?_)
            refine kk _ h5 ((x03.trans x4).trans hr5) (hclok _ ⟨fun h => (by cases h), fun h => ?_⟩)
            have := (h.2 qc).2.2 j l hl
            have := hr.2 ⟨by omega, this.2⟩
            cases this
      · refine kk _ h4 (x03.trans x4) (hclok _ ⟨fun _ => ⟨fun h => absurd h qc, fun _ => ⟨by omega, by omega, fun a l hl => hall a l (by have := (List.getElem?_eq_some_iff.1 hl).1; omega) hl⟩⟩, fun _ => rfl⟩)
theorem check15 {h : AH} {u : MoV} {m : Mo} {K : Value → AH → Prop} (mh : MoH h u m) (kf : ¬ Valid m → ∀ h', Ex h h' → K (.int .i64 11) h') (kt : Valid m → ∀ h', Ex h h' → K (.int .i64 0) h') : callW Tryz.prog 48 [.agg (moRow u m).toArray] h K := by
  have szO := mh.szO
  have szE := mh.szE
  refine c48 ?_
  unfold s48
  refine n_boxv rfl fun h1 x1 l1 g1 => ?_
  have g1' : h1[h.length]? = some (.row (moRow u m) true) := g1
  refine w_offP (w_rdP g1' (v := sv u.vo) rfl (w_len (Sl.ex mh.of x1) ?_))
  refine n_rowv fun h2 x2 l2 g2 => w_stP g2 (Nat.zero_lt_one) rfl rfl ?_
  have lt2 := lt_of_get g2
  have x3 : Ex h1 (h2.set h1.length (.row ([Value.int .i64 0].set 0 (.int .i64 (m.Of.length : Nat))) true)) := x2.set (Nat.le_refl _) _
  have gn : (h2.set h1.length (.row ([Value.int .i64 0].set 0 (.int .i64 (m.Of.length : Nat))) true))[h1.length]? = some (.row [.int .i64 (m.Of.length : Nat)] true) := get_set _ lt2 _
  generalize hH : h2.set h1.length _ = h3
  have e3 : h2.set h1.length (.row ([Value.int .i64 0].set 0 (.int .i64 (m.Of.length : Nat))) true) = h3 := hH
  rw [e3] at x3 gn
  clear hH e3
  have x03 : Ex h h3 := x1.trans x3
  have g : h3[h.length]? = some (.row (moRow u m) true) := x3.some g1
  have m3 := mh.ex x03
  have of := m3.of
  have en := m3.en
  refine w_offP (w_rdP g (v := .int .i64 m.pl) rfl (within31 ?_))
  by_cases q : 0 ≤ m.pl ∧ m.pl < 21
  case neg =>
    refine g_tf q (g_tf q (g_tf q (pk_ff q (gc_tf (gc_tf (pk_f (gc_tf (gc_tf (pk_f (gc_tf (gc_tf (gc_tf (gc_tf (pk_f (gc_tf (gc_tf (gc_tf (gc_tf (pk_f (gc_tf (gc_tf (gc_tf (gc_tf (gc_tf (pk_f (gc_tf (gc_tf (gc_tf (gc_tf (gc_tf (gc_tf (gc_tf (pk_f (w_notb (gc_ft (gc_ft (gc_ft (gc_ft (gc_ft (pk_t (gc_ft (gc_ft (gc_ft (gc_ft (gc_ft (pk_t (gc_ft (gc_ft (gc_ft (gc_ft (gc_ft (pk_t (gc_ft (gc_ft (gc_ft (gc_ft (gc_ft (pk_t (c_t (?_))))))))))))))))))))))))))))))))))))))))))))))))))))))))))))
    exact kf (fun v => q v.pl) _ x03
  have vpl := q
  refine g_tt q (w_offP (g_tt q (w_rdP g (v := .int .i64 m.cl) rfl (g_tt q (within31 (pk_tt q ?_))))))
  clear q
  by_cases q : 0 ≤ m.cl ∧ m.cl < 21
  case neg =>
    refine g_tf q (g_tf q (pk_ff q (gc_tf (gc_tf (pk_f (gc_tf (gc_tf (gc_tf (gc_tf (pk_f (gc_tf (gc_tf (gc_tf (gc_tf (pk_f (gc_tf (gc_tf (gc_tf (gc_tf (gc_tf (pk_f (gc_tf (gc_tf (gc_tf (gc_tf (gc_tf (gc_tf (gc_tf (pk_f (w_notb (gc_ft (gc_ft (gc_ft (gc_ft (gc_ft (pk_t (gc_ft (gc_ft (gc_ft (gc_ft (gc_ft (pk_t (gc_ft (gc_ft (gc_ft (gc_ft (gc_ft (pk_t (gc_ft (gc_ft (gc_ft (gc_ft (gc_ft (pk_t (c_t (?_))))))))))))))))))))))))))))))))))))))))))))))))))))))))
    exact kf (fun v => q v.cl) _ x03
  have vcl := q
  refine g_tt q (w_rdP gn (v := .int .i64 (m.Of.length : Nat)) rfl (g_tt q (w_geq (pk_tt q ?_))))
  clear q
  by_cases q : 1 ≤ (m.Of.length : Int)
  case neg =>
    refine g_tf q (g_tf q (pk_ff q (gc_tf (gc_tf (gc_tf (gc_tf (pk_f (gc_tf (gc_tf (gc_tf (gc_tf (pk_f (gc_tf (gc_tf (gc_tf (gc_tf (gc_tf (pk_f (gc_tf (gc_tf (gc_tf (gc_tf (gc_tf (gc_tf (gc_tf (pk_f (w_notb (gc_ft (gc_ft (gc_ft (gc_ft (gc_ft (pk_t (gc_ft (gc_ft (gc_ft (gc_ft (gc_ft (pk_t (gc_ft (gc_ft (gc_ft (gc_ft (gc_ft (pk_t (gc_ft (gc_ft (gc_ft (gc_ft (gc_ft (pk_t (c_t (?_)))))))))))))))))))))))))))))))))))))))))))))))))))))
    exact kf (fun v => q v.n1) _ x03
  have vn1 := q
  refine g_tt q (w_rdP gn (v := .int .i64 (m.Of.length : Nat)) rfl (g_tt q (w_leq (pk_tt q ?_))))
  clear q
  by_cases q : (m.Of.length : Int) ≤ 60
  case neg =>
    refine g_tf q (g_tf q (g_tf q (g_tf q (pk_ff q (gc_tf (gc_tf (gc_tf (gc_tf (pk_f (gc_tf (gc_tf (gc_tf (gc_tf (gc_tf (pk_f (gc_tf (gc_tf (gc_tf (gc_tf (gc_tf (gc_tf (gc_tf (pk_f (w_notb (gc_ft (gc_ft (gc_ft (gc_ft (gc_ft (pk_t (gc_ft (gc_ft (gc_ft (gc_ft (gc_ft (pk_t (gc_ft (gc_ft (gc_ft (gc_ft (gc_ft (pk_t (gc_ft (gc_ft (gc_ft (gc_ft (gc_ft (pk_t (c_t (?_))))))))))))))))))))))))))))))))))))))))))))))))))
    exact kf (fun v => q v.n2) _ x03
  have vn2 := q
  refine g_tt q (w_offP (g_tt q (w_rdP g (v := sv u.ve) rfl (g_tt q (w_len en (g_tt q (w_geq (pk_tt q ?_))))))))
  clear q
  by_cases q : 1 ≤ (m.En.length : Int)
  case neg =>
    refine g_tf q (g_tf q (g_tf q (g_tf q (pk_ff q (gc_tf (gc_tf (gc_tf (gc_tf (gc_tf (pk_f (gc_tf (gc_tf (gc_tf (gc_tf (gc_tf (gc_tf (gc_tf (pk_f (w_notb (gc_ft (gc_ft (gc_ft (gc_ft (gc_ft (pk_t (gc_ft (gc_ft (gc_ft (gc_ft (gc_ft (pk_t (gc_ft (gc_ft (gc_ft (gc_ft (gc_ft (pk_t (gc_ft (gc_ft (gc_ft (gc_ft (gc_ft (pk_t (c_t (?_)))))))))))))))))))))))))))))))))))))))))))))
    exact kf (fun v => q v.k1) _ x03
  have vk1 := q
  refine g_tt q (w_offP (g_tt q (w_rdP g (v := sv u.ve) rfl (g_tt q (w_len en (g_tt q (w_leq (pk_tt q ?_))))))))
  clear q
  by_cases q : (m.En.length : Int) ≤ 21
  case neg =>
    refine g_tf q (g_tf q (g_tf q (g_tf q (g_tf q (pk_ff q (gc_tf (gc_tf (gc_tf (gc_tf (gc_tf (gc_tf (gc_tf (pk_f (w_notb (gc_ft (gc_ft (gc_ft (gc_ft (gc_ft (pk_t (gc_ft (gc_ft (gc_ft (gc_ft (gc_ft (pk_t (gc_ft (gc_ft (gc_ft (gc_ft (gc_ft (pk_t (gc_ft (gc_ft (gc_ft (gc_ft (gc_ft (pk_t (c_t (?_))))))))))))))))))))))))))))))))))))))))
    exact kf (fun v => q v.k2) _ x03
  have vk2 := q
  refine g_tt q (w_offP (g_tt q (w_rdP g (v := sv u.vo) rfl (g_tt q (w_rdP gn (v := .int .i64 (m.Of.length : Nat)) rfl (g_tt q (g_tt q ?_)))))))
  refine row32 (R := fun a b => a = b) (may := fun _ x => 0 ≤ x ∧ x < (m.En.length : Int)) (fun _ => rfl) (fun a b => a.trans b) (fun e => e ▸ Ex.refl _) of szO (fun k x hc K' hk hh k' => ?_) fun r h4 hr4 hr => ?_
  · subst hh
    exact cls33 g m3 fun r hr => k' r _ rfl hr
  subst hr4
  refine pk_tt q ?_
  clear q
  cases r with
  | false =>
    refine gc_tf (gc_tf (gc_tf (gc_tf (gc_tf (gc_tf (gc_tf (pk_f (w_notb (gc_ft (gc_ft (gc_ft (gc_ft (gc_ft (pk_t (gc_ft (gc_ft (gc_ft (gc_ft (gc_ft (pk_t (gc_ft (gc_ft (gc_ft (gc_ft (gc_ft (pk_t (gc_ft (gc_ft (gc_ft (gc_ft (gc_ft (pk_t (c_t (?_))))))))))))))))))))))))))))))))))
    exact kf (fun v => by have := hr.2 ⟨rfl, v.of⟩; cases this) _ x03
  | true =>
  have vof := (hr.1 rfl).2
  clear hr
  refine gc_tt (w_offP (gc_tt (w_rdP g (v := sv u.ve) rfl (gc_tt (w_offP (gc_tt (w_rdP g (v := sv u.ve) rfl (gc_tt (w_len en (gc_tt (gc_tt ?_)))))))))))
  refine row32 (R := fun a b => a = b) (may := fun k x => Mem m.Of m.Of.length k x) (fun _ => rfl) (fun a b => a.trans b) (fun e => e ▸ Ex.refl _) en szE (fun k x hc K' hk hh k' => ?_) fun r h4 hr4 hr => ?_
  · subst hh
    exact cls34 g gn m3 fun r hr => k' r _ rfl hr
  subst hr4
  refine pk_t ?_
  cases r with
  | false =>
    refine w_notb (gc_ft (gc_ft (gc_ft (gc_ft (gc_ft (pk_t (gc_ft (gc_ft (gc_ft (gc_ft (gc_ft (pk_t (gc_ft (gc_ft (gc_ft (gc_ft (gc_ft (pk_t (gc_ft (gc_ft (gc_ft (gc_ft (gc_ft (pk_t (c_t (?_))))))))))))))))))))))))))
    exact kf (fun v => by have := hr.2 ⟨rfl, v.en⟩; cases this) _ x03
  | true =>
  have ven := (hr.1 rfl).2
  clear hr
  obtain ⟨iv, iv1, iv2⟩ := m3.inn
  obtain ⟨lv, lv1, lv2⟩ := m3.low
  obtain ⟨rv, rv1, rv2⟩ := m3.ret
  refine w_notb (gc_ff (w_offP (gc_ff (w_rdP g (v := sv u.vf) rfl (gc_ff (w_len m3.fi (gc_ff (w_rdP gn (v := .int .i64 (m.Of.length : Nat)) rfl (gc_ff (w_neq (pk_f ?_)))))))))))
  by_cases q : ¬ (m.Fi.length : Int) = (m.Of.length : Nat)
  · refine g_ft q (g_ft q (g_ft q (g_ft q (g_ft q (pk_tt q (gc_ft (gc_ft (gc_ft (gc_ft (gc_ft (pk_t (gc_ft (gc_ft (gc_ft (gc_ft (gc_ft (pk_t (c_t (?_)))))))))))))))))))
    exact kf (fun v => q (by rw [v.lf])) _ x03
  have vlf := q
  refine g_ff q (w_offP (g_ff q (w_rdP g (v := sv u.vi) rfl (g_ff q (w_len iv1 (g_ff q (w_rdP gn (v := .int .i64 (m.Of.length : Nat)) rfl (g_ff q (w_neq (pk_ff q ?_))))))))))
  clear q
  by_cases q : ¬ (m.In.length : Int) = (m.Of.length : Nat)
  · refine g_ft q (g_ft q (g_ft q (g_ft q (g_ft q (pk_tt q (gc_ft (gc_ft (gc_ft (gc_ft (gc_ft (pk_t (c_t (?_)))))))))))))
    exact kf (fun v => q (by rw [v.li])) _ x03
  have vli := q
  refine g_ff q (w_offP (g_ff q (w_rdP g (v := sv u.vl) rfl (g_ff q (w_len lv1 (g_ff q (w_rdP gn (v := .int .i64 (m.Of.length : Nat)) rfl (g_ff q (w_neq (pk_ff q ?_))))))))))
  clear q
  by_cases q : ¬ (m.Low.length : Int) = (m.Of.length : Nat)
  · refine g_ft q (g_ft q (g_ft q (g_ft q (g_ft q (pk_tt q (c_t (?_)))))))
    exact kf (fun v => q (by rw [v.ll])) _ x03
  have vll := q
  refine g_ff q (w_offP (g_ff q (w_rdP g (v := sv u.vr) rfl (g_ff q (w_len rv1 (g_ff q (w_rdP gn (v := .int .i64 (m.Of.length : Nat)) rfl (g_ff q (w_neq (pk_ff q ?_))))))))))
  clear q
  refine c_dec (fun q => ?_) (fun q => ?_)
  · exact kf (fun v => q (by rw [v.lr])) _ x03
  have vlr := q
  refine w_rdP gn (v := .int .i64 (m.Of.length : Nat)) rfl ?_
  refine loopE_intro (fun mm e h' => ∃ p : Nat, p ≤ m.Of.length ∧ mm = m.Of.length - p ∧ e 1 = .pointer (some ⟨h.length, 0, none⟩) ∧ e 3 = .pointer (some ⟨h1.length, 0, none⟩) ∧ e 85 = .int .i64 (m.Of.length : Nat) ∧ e 86 = .int .i64 (p : Nat) ∧ Ex h3 h' ∧ ∀ a : Nat, a < p → InOK m a ∧ ClOK m a) m.Of.length
    ⟨0, Nat.zero_le _, rfl, rfl, rfl, rfl, rfl, Ex.refl _, fun a ha => by omega⟩ ?_
  rintro I mm e h4 ⟨p, hp, hmm, e1, e3, e85, e86, x4, hall⟩ ih
  rw [e1, e3, e85, e86]
  refine w_lss (c_dec (fun q3 => ?_) (fun q3 => kt ⟨vpl, vcl, vn1, vn2, vk1, vk2, vof, ven, by omega, by omega, by omega, by omega, fun a ha => hall a (by omega)⟩ _ (x03.trans x4)))
  obtain ⟨c, hc⟩ := getElem?_of_lt (l := m.Of) (i := p) (by omega)
  obtain ⟨l, hl⟩ := getElem?_of_lt (l := m.In) (i := p) (by omega)
  obtain ⟨lo, hlo⟩ := getElem?_of_lt (l := m.Low) (i := p) (by omega)
  obtain ⟨re, hre⟩ := getElem?_of_lt (l := m.Ret) (i := p) (by omega)
  obtain ⟨wi, wi1, wi2⟩ := iv2 p l hl
  refine n_rowv fun h5 x5 l5 g5 => w_stP g5 (Nat.zero_lt_one) rfl rfl ?_
  have lt5 := lt_of_get g5
  have x6 : Ex h4 (h5.set h4.length (.row ([Value.int .i64 0].set 0 (.int .i64 (p : Nat))) true)) := x5.set (Nat.le_refl _) _
  have gp : (h5.set h4.length (.row ([Value.int .i64 0].set 0 (.int .i64 (p : Nat))) true))[h4.length]? = some (.row [.int .i64 (p : Nat)] true) := get_set _ lt5 _
  generalize hH : h5.set h4.length _ = h6
  have e6 : h5.set h4.length (.row ([Value.int .i64 0].set 0 (.int .i64 (p : Nat))) true) = h6 := hH
  rw [e6] at x6 gp
  clear hH e6
  have x36 : Ex h3 h6 := x4.trans x6
  have G := x36.some g
  have M := m3.ex x36
  refine w_offP (w_rdP G (v := sv u.vi) rfl (w_rdP gp (v := .int .i64 (p : Nat)) rfl (idxV (iv1.ex x36) wi1 fun z hz => w_rd1 hz rfl (w_offP (w_rdP G (v := .int .i64 m.pl) rfl ?_)))))
  refine row32 (R := fun a b => a = b) (may := fun _ x => Mem m.Of m.Of.length c x) (fun _ => rfl) (fun a b => a.trans b) (fun e => e ▸ Ex.refl _) (Sl.ex wi2 x36) (m3.szI l (List.mem_of_getElem? hl)) (fun k x hd K' hk hh k' => ?_) fun r h7 hr7 hr => ?_
  · subst hh
    exact cls35 G (x36.some gn) gp hc M fun r hr => k' r _ rfl hr
  subst hr7
  have inok : r = true ↔ InOK m p := hr.trans ⟨fun h c' l' h1 h2 => by
    rw [hc] at h1; rw [hl] at h2
    cases h1; cases h2
    exact h, fun h => h c l hc hl⟩
  cases r with
  | false =>
    refine w_notb (gdc_ft (gdc_ft (gdc_ft (gdc_ft (pk_t (c_t ?_))))))
    exact kf (fun v => by have := inok.2 (v.st p (by omega)).1; cases this) _ (x03.trans x36)
  | true =>
  refine w_notb (gdc_ff (w_rdPA G (Nat.le_refl 8) (gdc_ff (hist_same (w_rdP gp (v := .int .i64 (p : Nat)) rfl (gdc_ff ?_))))))
  refine closings36 M hc hlo hre fun r h8 x8 hr8 => ?_
  refine read_cons (idrow gp (x8.some gp)) (read_cons (idrow G (x8.some G)) (read_cons (idrow G (x8.some G)) (read_cons (hz.ids (Ex.refl _) x8) (read_cons (idrow gp (x8.some gp)) (read_cons (idrow G (x8.some G)) (read_nil ?_))))))
  cases r with
  | false =>
    refine gdc_ff (w_notb (pk_f (c_t ?_)))
    exact kf (fun v => by have := hr8.2 (v.st p (by omega)).2; cases this) _ ((x03.trans x36).trans x8)
  | true =>
  refine gdc_ff (w_notb (pk_f (c_f (w_add (by omega) (by omega) ?_))))
  refine ih (m.Of.length - (p + 1)) _ _ (by omega) ⟨p + 1, by omega, rfl, e1, e3, e85, rfl, x36.trans x8, fun a ha => ?_⟩
  by_cases ea : a = p
  · subst ea
    exact ⟨inok.1 rfl, hr8.1 rfl⟩
  · exact hall a (by omega)
end Go.Proofs.YtdlbiliolbdbmaaGreat.W
end

section
/- Top's laws, package fold: a machine that was made, its places its own. Conditions: none. -/
namespace Go.Proofs.YtdlbiliolbdbmaaGreat.W
open Go Go.AM
set_option linter.unusedVariables false
set_option maxRecDepth 100000
structure MoO (h : AH) (b : Nat) (o : Nat → Tg) (u : MoV) (m : Mo) : Prop where
  of : ∃ i, u.vo = (some ⟨i, 0, none⟩, m.Of.length, m.Of.length) ∧ h[i]? = some (.row (flat eI m.Of) true) ∧ o i = .off
  en : ∃ i, u.ve = (some ⟨i, 0, none⟩, m.En.length, m.En.length) ∧ h[i]? = some (.row (flat eI m.En) true) ∧ o i = .ent
  fi : OwnG 1 (fun j => o j = .fin) h (sv u.vf) m.Fi.length (flat eBo m.Fi)
  inn : ∃ vs, OwnG 1 (fun j => o j = .inS) h (sv u.vi) m.In.length vs ∧ RowsT h o .inn vs m.In
  low : ∃ vs, OwnG 1 (fun j => o j = .lowS) h (sv u.vl) m.Low.length vs ∧ RowsT h o .low vs m.Low
  ret : ∃ vs, OwnG 1 (fun j => o j = .retS) h (sv u.vr) m.Ret.length vs ∧ RetsT h o vs m.Ret
  on : ∀ j, o j ≠ .no → b ≤ j ∧ j < h.length
  szO : m.Of.length ≤ 10
  szE : m.En.length ≤ 10
  szI : ∀ l ∈ m.In, l.length ≤ 10
  szL : ∀ l ∈ m.Low, l.length ≤ 10
  szR : ∀ r ∈ m.Ret, r.length ≤ 10 ∧ ∀ l ∈ r, l.length ≤ 10
theorem RowsT.rows {h : AH} {o tg : Nat → Tg} {F : Nat → Prop} {v : Value} {vs : List Value} {ls : List (List Int)} (hv : OwnG 1 F h v ls.length vs) (r : RowsT h o tg vs ls) : RowsR h v ls :=
  ⟨vs, hv.sl, fun i l hl => by obtain ⟨w, h1, h2⟩ := r.2 i l hl; have := h2.sl; exact ⟨w, h1, this⟩⟩
theorem RetsT.rets {h : AH} {o : Nat → Tg} {F : Nat → Prop} {v : Value} {vs : List Value} {ls : List (List (List Int))} (hv : OwnG 1 F h v ls.length vs) (r : RetsT h o vs ls) : RetsR h v ls :=
  ⟨vs, hv.sl, fun i l hl => by obtain ⟨w, ws, h1, h2, h3⟩ := r.2 i l hl; exact ⟨w, h1, h3.rows (by rw [← h3.1]; exact h2)⟩⟩
theorem ownI {h : AH} {i : Nat} {l : List Int} (hg : h[i]? = some (.row (flat eI l) true)) (hs : l.length < 100) : Ints h (sv (some ⟨i, 0, none⟩, l.length, l.length)) l := slI hg rfl hs
theorem MoO.ofH {h h' : AH} {b : Nat} {o : Nat → Tg} {u : MoV} {m : Mo} (x : MoO h b o u m) (hh : ∀ j, o j = .off → h'[j]? = h[j]?) : Ints h' (sv u.vo) m.Of := by
  obtain ⟨i, e, g, c⟩ := x.of
  rw [e]
  exact ownI ((hh i c).trans g) (by have := x.szO; omega)
theorem MoO.enH {h h' : AH} {b : Nat} {o : Nat → Tg} {u : MoV} {m : Mo} (x : MoO h b o u m) (hh : ∀ j, o j = .ent → h'[j]? = h[j]?) : Ints h' (sv u.ve) m.En := by
  obtain ⟨i, e, g, c⟩ := x.en
  rw [e]
  exact ownI ((hh i c).trans g) (by have := x.szE; omega)
theorem MoO.fiH {h h' : AH} {b : Nat} {o : Nat → Tg} {u : MoV} {m : Mo} (x : MoO h b o u m) (hh : ∀ j, o j = .fin → h'[j]? = h[j]?) : SlT 1 eBo h' (sv u.vf) m.Fi :=
  (x.fi.mono (fun _ _ h => h) fun j _ hj => hh j hj).sl
theorem RowsT.to {h h' : AH} {o tg : Nat → Tg} {vals : List Value} {ls : List (List Int)} (r : RowsT h o tg vals ls) (hh : ∀ j, (∃ p, o j = tg p) → h'[j]? = h[j]?) : RowsT h' o tg vals ls :=
  ⟨r.1, fun p l hl => by obtain ⟨v, h1, h2⟩ := r.2 p l hl; exact ⟨v, h1, h2.mono (fun _ _ h => h) fun j _ hj => hh j ⟨p, hj⟩⟩⟩
theorem MoO.inH {h h' : AH} {b : Nat} {o : Nat → Tg} {u : MoV} {m : Mo} (x : MoO h b o u m) (hh : ∀ j, (o j = .inS ∨ ∃ p, o j = .inn p) → h'[j]? = h[j]?) : RowsR h' (sv u.vi) m.In := by
  obtain ⟨vs, h1, h2⟩ := x.inn
  exact (h2.to fun j hj => hh j (.inr hj)).rows (h1.mono (fun _ _ h => h) fun j _ hj => hh j (.inl hj))
theorem MoO.lowH {h h' : AH} {b : Nat} {o : Nat → Tg} {u : MoV} {m : Mo} (x : MoO h b o u m) (hh : ∀ j, (o j = .lowS ∨ ∃ p, o j = .low p) → h'[j]? = h[j]?) : RowsR h' (sv u.vl) m.Low := by
  obtain ⟨vs, h1, h2⟩ := x.low
  exact (h2.to fun j hj => hh j (.inr hj)).rows (h1.mono (fun _ _ h => h) fun j _ hj => hh j (.inl hj))
theorem RetsT.to {h h' : AH} {o : Nat → Tg} {vals : List Value} {rs : List (List (List Int))} (r : RetsT h o vals rs) (hh : ∀ j, ((∃ p, o j = .ret p) ∨ ∃ p q, o j = .rr p q) → h'[j]? = h[j]?) : RetsT h' o vals rs :=
  ⟨r.1, fun p l hl => by
    obtain ⟨v, vs, h1, h2, h3⟩ := r.2 p l hl
    exact ⟨v, vs, h1, h2.mono (fun _ _ h => h) fun j _ hj => hh j (.inl ⟨p, hj⟩), h3.to fun j ⟨q, hj⟩ => hh j (.inr ⟨p, q, hj⟩)⟩⟩
theorem MoO.retH {h h' : AH} {b : Nat} {o : Nat → Tg} {u : MoV} {m : Mo} (x : MoO h b o u m) (hh : ∀ j, (o j = .retS ∨ (∃ p, o j = .ret p) ∨ ∃ p q, o j = .rr p q) → h'[j]? = h[j]?) : RetsR h' (sv u.vr) m.Ret := by
  obtain ⟨vs, h1, h2⟩ := x.ret
  exact (h2.to fun j hj => hh j (.inr hj)).rets (h1.mono (fun _ _ h => h) fun j _ hj => hh j (.inl hj))
theorem MoO.toH {h h' : AH} {b : Nat} {o : Nat → Tg} {u : MoV} {m : Mo} (x : MoO h b o u m) (hh : ∀ j, o j ≠ .no → h'[j]? = h[j]?) : MoH h' u m :=
  ⟨x.ofH fun j hj => hh j (by rw [hj]; exact Tg.noConfusion), x.enH fun j hj => hh j (by rw [hj]; exact Tg.noConfusion), x.fiH fun j hj => hh j (by rw [hj]; exact Tg.noConfusion),
   x.inH fun j hj => hh j (by rcases hj with hj | ⟨p, hj⟩ <;> rw [hj] <;> exact Tg.noConfusion), x.lowH fun j hj => hh j (by rcases hj with hj | ⟨p, hj⟩ <;> rw [hj] <;> exact Tg.noConfusion),
   x.retH fun j hj => hh j (by rcases hj with hj | ⟨p, hj⟩ | ⟨p, q, hj⟩ <;> rw [hj] <;> exact Tg.noConfusion), by have := x.szO; omega, by have := x.szE; omega, fun l hl => by have := x.szI l hl; omega, fun l hl => by have := x.szL l hl; omega, fun r hr => ⟨by have := (x.szR r hr).1; omega, fun l hl => by have := (x.szR r hr).2 l hl; omega⟩⟩
theorem MoO.keep {h h' : AH} {b : Nat} {o : Nat → Tg} {u : MoV} {m : Mo} (x : MoO h b o u m) (hl : h.length ≤ h'.length) (hh : ∀ j, o j ≠ .no → h'[j]? = h[j]?) : MoO h' b o u m := by
  obtain ⟨i, e, g, c⟩ := x.of
  obtain ⟨i2, e2, g2, c2⟩ := x.en
  obtain ⟨vs, v1, v2⟩ := x.inn
  obtain ⟨ws, w1, w2⟩ := x.low
  obtain ⟨rs, r1, r2⟩ := x.ret
  exact ⟨⟨i, e, (hh i (by rw [c]; exact Tg.noConfusion)).trans g, c⟩, ⟨i2, e2, (hh i2 (by rw [c2]; exact Tg.noConfusion)).trans g2, c2⟩, x.fi.mono (fun _ _ h => h) fun j _ hj => hh j (by rw [hj]; exact Tg.noConfusion),
    ⟨vs, v1.mono (fun _ _ h => h) fun j _ hj => hh j (by rw [hj]; exact Tg.noConfusion), v2.mono (fun _ => Tg.noConfusion) fun j hj => ⟨rfl, hh j hj⟩⟩,
    ⟨ws, w1.mono (fun _ _ h => h) fun j _ hj => hh j (by rw [hj]; exact Tg.noConfusion), w2.mono (fun _ => Tg.noConfusion) fun j hj => ⟨rfl, hh j hj⟩⟩,
    ⟨rs, r1.mono (fun _ _ h => h) fun j _ hj => hh j (by rw [hj]; exact Tg.noConfusion), r2.mono fun j hj => ⟨rfl, hh j hj⟩⟩, fun j hj => by have := x.on j hj; omega, x.szO, x.szE, x.szI, x.szL, x.szR⟩
theorem lenL {q : Pl} {d : MD} {p : Nat} (v : V3 q d p) (h1 : q.pl ≤ 2) (h2 : 0 ≤ q.cl ∧ q.cl ≤ 2) (h3 : q.n ≤ 8) : (∀ l ∈ d.ins, l.length ≤ 10) ∧ (∀ l ∈ d.lows, l.length ≤ 10) ∧ (∀ r ∈ d.rets, r.length ≤ 10 ∧ ∀ l ∈ r, l.length ≤ 10) := by
  refine ⟨fun l hl => ?_, fun l hl => ?_, fun r hr => ?_⟩
  · obtain ⟨i, hi⟩ := List.getElem?_of_mem hl
    obtain ⟨c, _, h, _⟩ := v.ins i l hi
    omega
  · obtain ⟨i, hi⟩ := List.getElem?_of_mem hl
    obtain ⟨c, _, h, _⟩ := v.lows i l hi
    split at h <;> omega
  · obtain ⟨i, hi⟩ := List.getElem?_of_mem hr
    obtain ⟨c, _, h, h'⟩ := v.rets i r hi
    refine ⟨by split at h <;> omega, fun l hl => by have := (h' l hl).1; omega⟩
theorem flat_eBo (l : List Bool) : flat eBo l = l.map .bool := by
  induction l with
  | nil => rfl
  | cons a l ih => show eBo a ++ flat eBo l = _; rw [ih]; rfl
theorem offId {i n c j : Nat} (h : i ≠ j) : ¬ onId (.slice (some ⟨i, 0, none⟩) n c) j := fun e => h e
def IsMk (a0 : Int) (ns : List Int) (m : Mo) : Prop := ∃ q : Pl, QOf a0 q ∧ m = ⟨q.pl, q.cl, (psEnd ns q).ol, (psEnd ns q).el, (psEnd ns q).fin, (psEnd ns q).ins, (psEnd ns q).lows, (psEnd ns q).rets⟩
theorem IsMk.uniq {a0 : Int} {ns : List Int} {m m' : Mo} (x : IsMk a0 ns m) (y : IsMk a0 ns m') : m = m' := by
  obtain ⟨q, a, e⟩ := x
  obtain ⟨q', b, e'⟩ := y
  have e1 : q.pl = q'.pl := a.pl.trans b.pl.symm
  have e2 : q.cl = q'.cl := a.cl.trans b.cl.symm
  have e3 : q.k = q'.k := by have := a.k; have := b.k; omega
  have e4 : q.n = q'.n := by have := a.n; have := b.n; omega
  have e5 : psEnd ns q = psEnd ns q' := by unfold psEnd; rw [e1, e2, e3, e4]
  rw [e, e', e1, e2, e5]
theorem make14m {h : AH} {a0 : Int} {vns : Value} {ns : List Int} {K : Value → AH → Prop} (hns : Ints h vns ns)
    (k : ∀ h' u m o, Ex h h' → MoO h' h.length o u m → Valid m → IsMk a0 ns m → K (.agg (moRow u m).toArray) h') : callW Tryz.prog 18 [.int .i64 a0, vns] h K := by
  refine make14 hns fun h' q d hm ok qof D L x' hh => ?_
  have o0 := ok.h0; have o1 := ok.h1; have o2 := ok.h2; have o3 := ok.h3; have o4 := ok.h4; have o5 := ok.h5
  have okk := ok.k; have okn := ok.n; have okp := ok.pl; have okc := ok.cl
  have fx := L.ms.fx
  obtain ⟨bl, bl1, bl2⟩ := L.fin
  have lO := fx.lOf; have lE := fx.lEn
  obtain ⟨zI, zL, zR⟩ := lenL L.v3 okp.2 okc okn.2
  have n1 := L.v3.n1; have n2 := L.v3.n2; have n3 := L.v3.n3
  have s0 := L.ms.sl.own 0 (by omega)
  have s1 := L.ms.sl.own 1 (by omega)
  have s2 := L.ms.sl.own 2 (by omega)
  have s3 := L.ms.sl.own 3 (by omega)
  obtain ⟨a1, n1', c1, e1⟩ := Sl.isSl s0.sl
  obtain ⟨a2, n2', c2, e2⟩ := Sl.isSl s1.sl
  obtain ⟨a3, n3', c3, e3⟩ := Sl.isSl s2.sl
  obtain ⟨a4, n4', c4, e4⟩ := Sl.isSl s3.sl
  have em : mrow q d.v = moRow ⟨(some ⟨q.iOf, 0, none⟩, q.n, q.n), (some ⟨q.iEn, 0, none⟩, q.k, q.k), (a1, n1', c1), (a2, n2', c2), (a3, n3', c3), (a4, n4', c4)⟩ ⟨q.pl, q.cl, d.ol, d.el, bl, d.ins, d.lows, d.rets⟩ := by
    unfold mrow moRow sv
    rw [e1, e2, e3, e4]
  rw [em]
  have ap := L.ms.sl.ap
  have low : ∀ i, i < 11 → ∀ j, onId (d.v i) j → q.b2 < j ∧ j < hm.length := fun i hi j hj => L.ms.sl.on hi hj
  have frz := L.ms.fz
  have hkeep : ∀ j, q.p4 < j → h'[j]? = hm[j]? := fun j hj => hh j (by omega)
  have hl4 : hm.length ≤ h'.length := by
    by_cases hc : hm.length ≤ h'.length
    · exact hc
    · have hlt := L.ms.lt
      have hlast := hkeep (hm.length - 1) (by omega)
      rw [List.getElem?_eq_none (by omega)] at hlast
      have : hm.length - 1 < hm.length := by omega
      rw [List.getElem?_eq_getElem this] at hlast
      cases hlast
  let O : Nat → Tg := paint (paint (paint (paint (paint (paint d.o (d.v 0) .fin) (d.v 1) .inS) (d.v 2) .lowS) (d.v 3) .retS) (.slice (some ⟨q.iOf, 0, none⟩) q.n q.n) .off) (.slice (some ⟨q.iEn, 0, none⟩) q.k q.k) .ent
  have hOe : O q.iEn = .ent := paint_on rfl
  have hOo : O q.iOf = .off := (paint_off (offId (by omega))).trans (paint_on rfl)
  have hO4 : ∀ j, q.b2 < j → O j = paint (paint (paint (paint d.o (d.v 0) .fin) (d.v 1) .inS) (d.v 2) .lowS) (d.v 3) .retS j := fun j hj => (paint_off (offId (by omega))).trans (paint_off (offId (by omega)))
  have hO3 : ∀ j, onId (d.v 3) j → O j = .retS := fun j hj => (hO4 j (low 3 (by omega) j hj).1).trans (paint_on hj)
  have hO2 : ∀ j, onId (d.v 2) j → O j = .lowS := fun j hj => (hO4 j (low 2 (by omega) j hj).1).trans ((paint_off (ap 2 3 (by omega) (by omega) (by omega) j hj)).trans (paint_on hj))
  have hO1 : ∀ j, onId (d.v 1) j → O j = .inS := fun j hj => (hO4 j (low 1 (by omega) j hj).1).trans ((paint_off (ap 1 3 (by omega) (by omega) (by omega) j hj)).trans ((paint_off (ap 1 2 (by omega) (by omega) (by omega) j hj)).trans (paint_on hj)))
  have hO0 : ∀ j, onId (d.v 0) j → O j = .fin := fun j hj => (hO4 j (low 0 (by omega) j hj).1).trans ((paint_off (ap 0 3 (by omega) (by omega) (by omega) j hj)).trans ((paint_off (ap 0 2 (by omega) (by omega) (by omega) j hj)).trans ((paint_off (ap 0 1 (by omega) (by omega) (by omega) j hj)).trans (paint_on hj))))
  have hOz : ∀ j, d.o j ≠ .no → O j = d.o j := fun j hj => by
    have f := frz j hj
    exact (hO4 j f.1).trans ((paint_off (f.2.2 3 (by omega))).trans ((paint_off (f.2.2 2 (by omega))).trans ((paint_off (f.2.2 1 (by omega))).trans (paint_off (f.2.2 0 (by omega))))))
  have hOn : ∀ j, O j ≠ .no → h.length ≤ j ∧ j < h'.length := fun j hj => by
    have hlt := L.ms.lt
    by_cases b1 : j = q.iEn
    · omega
    by_cases b2 : j = q.iOf
    · omega
    have eO : O j = paint (paint (paint (paint d.o (d.v 0) .fin) (d.v 1) .inS) (d.v 2) .lowS) (d.v 3) .retS j := (paint_off (offId (Ne.symm b1))).trans (paint_off (offId (Ne.symm b2)))
    rw [eO] at hj
    by_cases b3 : onId (d.v 3) j
    · have := low 3 (by omega) j b3; omega
    rw [paint_off b3] at hj
    by_cases b4 : onId (d.v 2) j
    · have := low 2 (by omega) j b4; omega
    rw [paint_off b4] at hj
    by_cases b5 : onId (d.v 1) j
    · have := low 1 (by omega) j b5; omega
    rw [paint_off b5] at hj
    by_cases b6 : onId (d.v 0) j
    · have := low 0 (by omega) j b6; omega
    rw [paint_off b6] at hj
    have := frz j hj
    omega
  have fzm : ∀ j, d.o j ≠ .no → O j = d.o j ∧ h'[j]? = hm[j]? := fun j hj => ⟨hOz j hj, hkeep j (by have := (frz j hj).1; omega)⟩
  have r1 := L.ms.rIn.mono (fun _ => Tg.noConfusion) fzm
  have r2 := L.ms.rLow.mono (fun _ => Tg.noConfusion) fzm
  have r3 := L.ms.rRet.mono fzm
  refine k h' _ _ O x' ⟨⟨q.iOf, ?_, (hkeep _ (by omega)).trans fx.rOf, hOo⟩, ⟨q.iEn, ?_, (hkeep _ (by omega)).trans fx.rEn, hOe⟩, ?_, ⟨d.cs 1, ?_, r1⟩, ⟨d.cs 2, ?_, r2⟩, ⟨d.cs 3, ?_, r3⟩, hOn, ?_, ?_, zI, zL, zR⟩ ?_ ⟨q, qof, ?_⟩
  rotate_right
  · have ebl : bl = (psEnd ns q).fin := (List.map_inj_right (fun a b e => by injection e)).1 (bl1.symm.trans D.fin)
    rw [← D.ol, ← D.el, ← D.ins, ← D.lows, ← D.rets, ← ebl]
  · show (some _, q.n, q.n) = (some _, d.ol.length, d.ol.length)
    rw [lO]
  · show (some _, q.k, q.k) = (some _, d.el.length, d.el.length)
    rw [lE]
  · show OwnG 1 _ h' (.slice a1 n1' c1) bl.length (flat eBo bl)
    rw [← e1, flat_eBo, ← bl1]
    have e : bl.length = (d.cs 0).length := by rw [bl1, List.length_map]
    rw [e]
    exact s0.mono (fun j hj _ => hO0 j hj) fun j hj _ => hkeep j (by have := low 0 (by omega) j hj; omega)
  · show OwnG 1 _ h' (.slice a2 n2' c2) d.ins.length (d.cs 1)
    rw [← e2, ← L.ms.rIn.1]
    exact s1.mono (fun j hj _ => hO1 j hj) fun j hj _ => hkeep j (by have := low 1 (by omega) j hj; omega)
  · show OwnG 1 _ h' (.slice a3 n3' c3) d.lows.length (d.cs 2)
    rw [← e3, ← L.ms.rLow.1]
    exact s2.mono (fun j hj _ => hO2 j hj) fun j hj _ => hkeep j (by have := low 2 (by omega) j hj; omega)
  · show OwnG 1 _ h' (.slice a4 n4' c4) d.rets.length (d.cs 3)
    rw [← e4, ← L.ms.rRet.1]
    exact s3.mono (fun j hj _ => hO3 j hj) fun j hj _ => hkeep j (by have := low 3 (by omega) j hj; omega)
  · show d.ol.length ≤ 10; omega
  · show d.el.length ≤ 10; omega
  · have oln : d.ol.length = q.n := lO
    refine ⟨by show 0 ≤ q.pl ∧ q.pl < 21; omega, by show 0 ≤ q.cl ∧ q.cl < 21; omega, by show 1 ≤ (d.ol.length : Int); omega, by show (d.ol.length : Int) ≤ 60; omega, by show 1 ≤ (d.el.length : Int); omega, by show (d.el.length : Int) ≤ 21; omega, fun i x hx => ?_, fun i x hx => ?_, by show bl.length = d.ol.length; omega, by show d.ins.length = d.ol.length; omega, by show d.lows.length = d.ol.length; omega, by show d.rets.length = d.ol.length; omega, fun p hp => ⟨fun c l hc hl => ?_, fun c lo re hc hlo hre => ?_⟩⟩
    · have := fx.bOf x (List.mem_of_getElem? hx)
      show 0 ≤ x ∧ x < (d.el.length : Int)
      omega
    · have hi := (List.getElem?_eq_some_iff.1 hx).1
      obtain ⟨y, y1, y2⟩ := L.ent i (by have : i < d.el.length := hi; omega)
      have : x = y := by
        have hx' : d.el[i]? = some x := hx
        rw [y1] at hx'
        cases hx'
        rfl
      subst this
      show Mem d.ol d.ol.length i x
      rw [oln]
      exact y2
    · obtain ⟨c', a1, a2, a3⟩ := L.v3.ins p l hl
      have : c = c' := by
        have hc' : d.ol[p]? = some c := hc
        rw [a1] at hc'
        cases hc'
        rfl
      subst this
      refine ⟨a2, fun i x hx => ?_⟩
      show Mem d.ol d.ol.length c x
      rw [oln]
      exact a3 x (List.mem_of_getElem? hx)
    · obtain ⟨c', a1, a2, a3⟩ := L.v3.lows p lo hlo
      have : c = c' := by
        have hc' : d.ol[p]? = some c := hc
        rw [a1] at hc'
        cases hc'
        rfl
      subst this
      obtain ⟨c', b1, b2, b3⟩ := L.v3.rets p re hre
      have : c = c' := by
        have hc' : d.ol[p]? = some c := hc
        rw [b1] at hc'
        cases hc'
        rfl
      subst this
      refine ⟨fun e0 => ⟨?_, ?_, fun i x hx => ?_⟩, fun e0 => ⟨?_, ?_, fun j l hl => ⟨?_, fun i x hx => ?_⟩⟩⟩
      · rw [if_pos e0] at b2; omega
      · rw [if_pos e0] at a2; exact a2
      · show Mem d.ol d.ol.length 0 x
        rw [oln]
        exact a3 x (List.mem_of_getElem? hx)
      · rw [if_neg e0] at a2; omega
      · rw [if_neg e0] at b2; exact b2
      · show l.length = d.ol.length
        rw [oln]
        exact (b3 l (List.mem_of_getElem? hl)).1
      · obtain ⟨c2, g1, g2⟩ := (b3 l (List.mem_of_getElem? hl)).2 i x hx
        refine ⟨c2, g1, ?_⟩
        show Mem d.ol d.ol.length c2 x
        rw [oln]
        exact g2
theorem make14o {h : AH} {a0 : Int} {vns : Value} {ns : List Int} {K : Value → AH → Prop} (hns : Ints h vns ns)
    (k : ∀ h' u m o, Ex h h' → MoO h' h.length o u m → Valid m → K (.agg (moRow u m).toArray) h') : callW Tryz.prog 18 [.int .i64 a0, vns] h K :=
  make14m hns fun h' u m o x mo v _ => k h' u m o x mo v
end Go.Proofs.YtdlbiliolbdbmaaGreat.W
end

section
/- Top's laws, package fold: one thing of a machine is turned: rules. Conditions: none. -/
namespace Go.Proofs.YtdlbiliolbdbmaaGreat.W
open Go Go.AM
set_option linter.unusedVariables false
set_option maxRecDepth 100000
theorem w_stG {F : Nat → Prop} {h : AH} {v x : Value} {n i : Nat} {cs : List Value} {kd : IntKind} {K : Value → AH → Prop} (ho : OwnG 1 F h v n cs) (hi : i < n) (hx : cellsL x = [x]) (h1 : x.oneCell' = true)
    (k : ∀ q h', OwnG 1 F h' v n (cs.set i x) → h'.length = h.length → (∀ j, ¬ onId v j → h'[j]? = h[j]?) → K q h') : optW (pIdxS 1 v (.int kd (i : Nat))) fun q => optW (pStore 1 q x h) fun h' => K q h' := by
  obtain ⟨h0, ⟨rfl, rfl⟩ | ⟨id, c, hf, rfl, g, g2, g3⟩⟩ := ho
  · omega
  · refine w_some (v := .pointer (some ⟨id, 0 + i * 1, none⟩)) ?_ ?_
    · show (if (0 : Int) ≤ (i : Int) ∧ (i : Int) < (n : Int) then some (Value.pointer (some ⟨id, 0 + ((i : Nat) : Int).toNat * 1, none⟩)) else none) = _
      rw [if_pos ⟨by omega, by omega⟩, Int.toNat_natCast]
    · rw [Nat.zero_add, Nat.mul_one]
      rw [Nat.mul_one] at g2 g3 h0
      refine w_stP g (by omega) hx h1 (k _ _ ⟨by rw [List.length_set, Nat.mul_one]; exact h0, .inr ⟨id, _, hf, rfl, get_set _ (lt_of_get g) _, by rw [List.length_set]; omega, ?_⟩⟩ (by simp) fun j hj => get_ne (fun e => hj e) _)
      rw [Nat.mul_one, List.take_set, g3]
theorem RowsT.row {h h' : AH} {o tg : Nat → Tg} {vs : List Value} {ls : List (List Int)} {p : Nat} {v' w' : Value} {l' : List Int} (r : RowsT h o tg vs ls) (hp : p < ls.length) (hv : Sl 1 h' v' ls.length (vs.set p w')) (oth : ∀ j q, q ≠ p → o j = tg q → h'[j]? = h[j]?) (hw : Ints h' w' l') : RowsR h' v' (ls.set p l') := by
  refine ⟨vs.set p w', by rw [List.length_set]; exact hv, fun i l hl => ?_⟩
  have hl1 := r.1
  by_cases e : i = p
  · subst e
    rw [List.getElem?_set_self hp] at hl
    cases hl
    exact ⟨w', by rw [List.getElem?_set_self (by omega)], hw⟩
  · rw [List.getElem?_set_ne (Ne.symm e)] at hl
    obtain ⟨v, h1, h2⟩ := r.2 i l hl
    exact ⟨v, by rw [List.getElem?_set_ne (Ne.symm e)]; exact h1, (h2.mono (fun _ _ h => h) fun j _ hj => oth j i e hj).sl⟩
theorem RetsT.row {h h' : AH} {o : Nat → Tg} {vs : List Value} {rs : List (List (List Int))} {p : Nat} {v' w' : Value} {r' : List (List Int)} (r : RetsT h o vs rs) (hp : p < rs.length) (hv : Sl 1 h' v' rs.length (vs.set p w')) (oth : ∀ j q, q ≠ p → (o j = .ret q ∨ ∃ i, o j = .rr q i) → h'[j]? = h[j]?) (hw : RowsR h' w' r') : RetsR h' v' (rs.set p r') := by
  refine ⟨vs.set p w', by rw [List.length_set]; exact hv, fun i l hl => ?_⟩
  have hl1 := r.1
  by_cases e : i = p
  · subst e
    rw [List.getElem?_set_self hp] at hl
    cases hl
    exact ⟨w', by rw [List.getElem?_set_self (by omega)], hw⟩
  · rw [List.getElem?_set_ne (Ne.symm e)] at hl
    obtain ⟨v, ws, h1, h2, h3⟩ := r.2 i l hl
    refine ⟨v, by rw [List.getElem?_set_ne (Ne.symm e)]; exact h1, ?_⟩
    have h3' := h3.to (h' := h') fun j ⟨q, hj⟩ => oth j i e (.inr ⟨q, hj⟩)
    exact h3'.rows (by rw [← h3.1]; exact h2.mono (F' := fun j => o j = .ret i) (fun _ _ h => h) fun j _ hj => oth j i e (.inl hj))
theorem ptr_id {n b f : Nat} {h h' : AH} (hh : h'[b]? = h[b]?) : ∀ x ∈ ceOf n (.pointer (some ⟨b, f, none⟩)), vw x h = vw x h' := by
  intro x hx
  rw [ce_id hx]
  exact vw_eq hh.symm
theorem bldT {s : Nat} {z : List Value} {v : Value} {K : List Value → Prop} (hz : z.length = s) (hs : s ≤ 100) (hl : (cellsL v).length = s) (h1 : (cellsL v).all (·.oneCell') = true) (k : K (cellsL v)) : optW (bldSl s z 1 [(0, v)]) K := by
  rw [bldSl_one hz hs hl h1]
  exact k
theorem res18 (e : Env) (h : AH) : resList Tryz.prog e h Tryz.f19.results.toList = (rdRow true 8 (e 2) h).map fun v => [v, e 3] := by
  have h1 : Tryz.f19.results.toList = [.cell 2 55, .tmp 3] := by kernel_rfl
  have h2 : ∀ x, pLoad Tryz.prog 55 x h = rdRow true 8 x h := fun x => by kernel_rfl
  rw [h1]
  show (match pLoad Tryz.prog 55 (e 2) h with
    | some v => match resList Tryz.prog e h [.tmp 3] with
      | some vs => some (v :: vs)
      | none => none
    | none => none) = _
  rw [h2]
  cases rdRow true 8 (e 2) h <;> rfl
end Go.Proofs.YtdlbiliolbdbmaaGreat.W
end

section
/- Top's laws, package fold: machines as they lie and plain machines; the code's Takes. Conditions: none. -/
namespace Go.Proofs.YtdlbiliolbdbmaaGreat.W
open Go Go.AM FoldPM
set_option linter.unusedVariables false
set_option maxRecDepth 100000
def Mo.pm (m : Mo) : PM where
  n := m.Of.length
  k := m.En.length
  pl := m.pl.toNat
  cl := m.cl.toNat
  of p := m.Of.getD p 0
  en c := (m.En.getD c 0).toNat
  fi p := m.Fi.getD p false
  inn p i := ((m.In.getD p []).getD i 0).toNat
  low p j := ((m.Low.getD p []).getD j 0).toNat
  ret p j q := (((m.Ret.getD p []).getD j []).getD q 0).toNat
theorem getD_of {α : Type} {l : List α} {i : Nat} {x d : α} (h : l[i]? = some x) : l.getD i d = x := by rw [List.getD_eq_getElem?_getD, h]; rfl
theorem Valid.ofAt {m : Mo} (_ : Valid m) {p : Nat} (hp : p < m.pm.n) : m.Of[p]? = some (m.pm.of p) := by
  obtain ⟨x, hx⟩ := getElem?_of_lt (l := m.Of) (i := p) hp
  have : m.pm.of p = x := getD_of hx
  rw [this, hx]
section
variable {m : Mo} (v : Valid m)
include v
theorem Valid.fiAt {p : Nat} (hp : p < m.pm.n) : m.Fi[p]? = some (m.pm.fi p) := by
  obtain ⟨x, hx⟩ := getElem?_of_lt (l := m.Fi) (i := p) (by have := v.lf; show p < m.Fi.length; rw [this]; exact hp)
  have : m.pm.fi p = x := getD_of hx
  rw [this, hx]
theorem Valid.enAt {c : Nat} (hc : c < m.pm.k) : m.En[c]? = some ((m.pm.en c : Nat) : Int) ∧ m.pm.en c < m.pm.n ∧ m.pm.of (m.pm.en c) = c := by
  obtain ⟨x, hx⟩ := getElem?_of_lt (l := m.En) (i := c) hc
  have e : m.pm.en c = x.toNat := by show (m.En.getD c 0).toNat = _; rw [getD_of hx]
  have h := v.en c x hx
  rw [e, Int.toNat_of_nonneg h.1]
  exact ⟨hx, by show x.toNat < m.Of.length; have := h.1; have := h.2.1; omega, getD_of h.2.2⟩
theorem Valid.inAt {p : Nat} (hp : p < m.pm.n) : ∃ l, m.In[p]? = some l ∧ l.length = m.pm.pl ∧ ∀ i, i < m.pm.pl → l[i]? = some ((m.pm.inn p i : Nat) : Int) ∧ m.pm.inn p i < m.pm.n ∧ m.pm.of (m.pm.inn p i) = m.pm.of p := by
  obtain ⟨l, hl⟩ := getElem?_of_lt (l := m.In) (i := p) (by have := v.li; show p < m.In.length; rw [this]; exact hp)
  have h := (v.st p hp).1 _ l (v.ofAt hp) hl
  have hp0 := v.pl.1
  have len : l.length = m.pm.pl := by have := h.1; show l.length = m.pl.toNat; omega
  refine ⟨l, hl, len, fun i hi => ?_⟩
  obtain ⟨x, hx⟩ := getElem?_of_lt (l := l) (i := i) (by omega)
  have e : m.pm.inn p i = x.toNat := by show ((m.In.getD p []).getD i 0).toNat = _; rw [getD_of hl, getD_of hx]
  have g := h.2 i x hx
  rw [e, Int.toNat_of_nonneg g.1]
  exact ⟨hx, by show x.toNat < m.Of.length; have := g.1; have := g.2.1; omega, getD_of g.2.2⟩
theorem Valid.rows {p : Nat} (hp : p < m.pm.n) : ∃ lo re, m.Low[p]? = some lo ∧ m.Ret[p]? = some re ∧ ClOK m p := by
  obtain ⟨lo, h1⟩ := getElem?_of_lt (l := m.Low) (i := p) (by have := v.ll; show p < m.Low.length; rw [this]; exact hp)
  obtain ⟨re, h2⟩ := getElem?_of_lt (l := m.Ret) (i := p) (by have := v.lr; show p < m.Ret.length; rw [this]; exact hp)
  exact ⟨lo, re, h1, h2, (v.st p hp).2⟩
theorem Valid.lowAt {p : Nat} (hp : p < m.pm.n) : ∃ l, m.Low[p]? = some l ∧ (m.pm.of p ≠ 0 → l = []) ∧ (m.pm.of p = 0 → l.length = m.pm.cl ∧ ∀ i, i < m.pm.cl → l[i]? = some ((m.pm.low p i : Nat) : Int) ∧ m.pm.low p i < m.pm.n ∧ m.pm.of (m.pm.low p i) = 0) := by
  obtain ⟨l, re, hl, hr, hc⟩ := v.rows hp
  have h := hc _ l re (v.ofAt hp) hl hr
  have hp0 := v.cl.1
  refine ⟨l, hl, fun h0 => List.eq_nil_of_length_eq_zero (h.2 h0).1, fun h0 => ?_⟩
  have h := (h.1 h0).2
  have len : l.length = m.pm.cl := by have := h.1; show l.length = m.cl.toNat; omega
  refine ⟨len, fun i hi => ?_⟩
  obtain ⟨x, hx⟩ := getElem?_of_lt (l := l) (i := i) (by omega)
  have e : m.pm.low p i = x.toNat := by show ((m.Low.getD p []).getD i 0).toNat = _; rw [getD_of hl, getD_of hx]
  have g := h.2 i x hx
  rw [e, Int.toNat_of_nonneg g.1]
  exact ⟨hx, by show x.toNat < m.Of.length; have := g.1; have := g.2.1; omega, getD_of g.2.2⟩
theorem Valid.retAt {p : Nat} (hp : p < m.pm.n) : ∃ r, m.Ret[p]? = some r ∧ (m.pm.of p = 0 → r = []) ∧ (m.pm.of p ≠ 0 → r.length = m.pm.cl ∧ ∀ j, j < m.pm.cl → ∃ l, r[j]? = some l ∧ l.length = m.pm.n ∧
    ∀ q, q < m.pm.n → l[q]? = some ((m.pm.ret p j q : Nat) : Int) ∧ m.pm.ret p j q < m.pm.n ∧ m.pm.of (m.pm.ret p j q) = m.pm.of q) := by
  obtain ⟨lo, re, hl, hr, hc⟩ := v.rows hp
  have h := hc _ lo re (v.ofAt hp) hl hr
  have hp0 := v.cl.1
  refine ⟨re, hr, fun h0 => List.eq_nil_of_length_eq_zero (h.1 h0).1, fun h0 => ?_⟩
  have h := (h.2 h0).2
  have len : re.length = m.pm.cl := by have := h.1; show re.length = m.cl.toNat; omega
  refine ⟨len, fun j hj => ?_⟩
  obtain ⟨l, hx⟩ := getElem?_of_lt (l := re) (i := j) (by omega)
  have g := h.2 j l hx
  refine ⟨l, hx, g.1, fun q hq => ?_⟩
  obtain ⟨x, hxx⟩ := getElem?_of_lt (l := l) (i := q) (by rw [g.1]; exact hq)
  have e : m.pm.ret p j q = x.toNat := by show (((m.Ret.getD p []).getD j []).getD q 0).toNat = _; rw [getD_of hr, getD_of hx, getD_of hxx]
  obtain ⟨c, hc, gx⟩ := g.2 q x hxx
  rw [e, Int.toNat_of_nonneg gx.1]
  refine ⟨hxx, by show x.toNat < m.Of.length; have := gx.1; have := gx.2.1; omega, ?_⟩
  have e2 : m.pm.of q = c := getD_of hc
  rw [e2]
  exact getD_of gx.2.2
theorem Valid.ok : m.pm.OK := by
  refine ⟨by show 1 ≤ m.Of.length; have := v.n1; omega, by show 1 ≤ m.En.length; have := v.k1; omega, fun p hp => v.of p _ (v.ofAt hp), fun c hc => (v.enAt hc).2, fun p i hp hi => ?_, fun p j hp h0 hj => ?_, fun p j q hp hq h0 hj => ?_⟩
  · obtain ⟨l, _, _, h⟩ := v.inAt hp
    exact (h i hi).2
  · obtain ⟨l, _, _, h⟩ := v.lowAt hp
    exact ((h h0).2 j hj).2
  · obtain ⟨r, _, _, h⟩ := v.retAt hp
    obtain ⟨l, _, _, h⟩ := (h h0).2 j hj
    exact (h q hq).2
end
section
variable {h : AH} {u : MoV} {m : Mo} (v : Valid m) (mh : MoH h u m)
include v mh
theorem rIn {p i : Nat} (hp : p < m.pm.n) (hi : i < m.pm.pl) {K : Value → Prop} (k : K (.int .i64 (m.pm.inn p i : Nat))) :
    optW (pIdxS 1 (sv u.vi) (.int .i64 (p : Nat))) fun a => optW (rdRow false 1 a h) fun b => optW (pIdxS 1 b (.int .i64 (i : Nat))) fun c => optW (rdRow false 1 c h) K := by
  obtain ⟨l, hl, _, h2⟩ := v.inAt hp
  obtain ⟨vals, s, r⟩ := mh.inn
  obtain ⟨w, hw, il⟩ := r p l hl
  exact idxV s hw fun z hz => w_rd1 hz rfl (w_idxN eI_len il (h2 i hi).1 fun z hz => w_rd1 hz rfl k)
theorem rLow {p i : Nat} (hp : p < m.pm.n) (h0 : m.pm.of p = 0) (hi : i < m.pm.cl) {K : Value → Prop} (k : K (.int .i64 (m.pm.low p i : Nat))) :
    optW (pIdxS 1 (sv u.vl) (.int .i64 (p : Nat))) fun a => optW (rdRow false 1 a h) fun b => optW (pIdxS 1 b (.int .i64 (i : Nat))) fun c => optW (rdRow false 1 c h) K := by
  obtain ⟨l, hl, _, h2⟩ := v.lowAt hp
  obtain ⟨vals, s, r⟩ := mh.low
  obtain ⟨w, hw, il⟩ := r p l hl
  exact idxV s hw fun z hz => w_rd1 hz rfl (w_idxN eI_len il ((h2 h0).2 i hi).1 fun z hz => w_rd1 hz rfl k)
end
def Psh (b : Nat) (h : AH) (v : Value) (s : List Nat) : Prop := OwnG 1 (fun j => b ≤ j) h v s.length (flat eI (s.map fun q => ((q : Nat) : Int)))
theorem Psh.ex {b : Nat} {h h' : AH} {v : Value} {s : List Nat} (p : Psh b h v s) (x : Ex h h') : Psh b h' v s := OwnG.mono p (fun _ _ h => h) fun j hj _ => x.get j (OwnG.on p hj).2
end Go.Proofs.YtdlbiliolbdbmaaGreat.W
end

section
/- Top's laws, package fold: words of numbers; rows joined; which states are reached: its parts. Conditions: none. -/
namespace Go.Proofs.YtdlbiliolbdbmaaGreat.W
open Go Go.AM FoldPM
set_option linter.unusedVariables false
set_option maxRecDepth 100000
theorem bigR : (2000000 : Nat) < room40 := by decide
end Go.Proofs.YtdlbiliolbdbmaaGreat.W
end

section
/- Top's laws, package fold: rows joined; what a state leads to. Conditions: none. -/
namespace Go.Proofs.YtdlbiliolbdbmaaGreat.W
open Go Go.AM FoldPM
set_option linter.unusedVariables false
set_option maxRecDepth 100000
theorem grow62 {h : AH} {n : Int} {K : Value → AH → Prop} (h0 : 0 ≤ n) (hn : n ≤ 1000000) (k : ∀ v' h', Ex h h' → OwnG 1 (fun j => h.length ≤ j) h' v' 0 [] → K v' h') : callW Tryz.prog 116 [.slice none 0 0, .int .i64 n] h K := by
  refine c116 ?_
  unfold s116
  refine w_lss (c_ff (by omega) (w_some (v := .int .i64 0) (by kernel_rfl) (w_lenSl (w_sub (by decide) (by decide) ?_))))
  have e0 : (0 : Int) - ((0 : Nat) : Int) = 0 := rfl
  rw [e0]
  refine w_sub (by omega) (by omega) ?_
  rw [Int.sub_zero]
  refine w_gtr (c_dec (fun q => ?_) (fun q => ?_))
  · refine w_some (v := .int .i64 0) (by kernel_rfl) (w_some (v := .slice none 0 0) rfl ?_)
    unfold appZI
    dsimp only
    unfold appZ
    dsimp only
    have := bigR
    rw [if_neg (by omega), if_pos ⟨q, by omega⟩]
    have o : OwnG 1 (fun j => h.length ≤ j) (h ++ [.row (repL [.int .i64 0] n.toNat) true]) (.slice (some ⟨h.length, 0, none⟩) n.toNat (openCap + 1)) n.toNat (repL [.int .i64 0] n.toNat) := by
      have e : (repL [Value.int .i64 0] n.toNat).length = n.toNat * 1 := by rw [repL_zero, flat_eI_len]; simp
      exact ⟨e, .inr ⟨h.length, _, Nat.le_refl _, rfl, get_new _ _, by omega, by rw [← e, List.take_length]⟩⟩
    refine w_lenSl (cut_g o (Nat.zero_le _) fun v' a b => ?_)
    exact k _ _ (.app _ _) (by simpa using a)
  · exact k _ _ (Ex.refl _) (OwnG.nil _ _ _)
theorem conc57 {h : AH} {v : Value} {ls : List (List Int)} {K : Value → AH → Prop} (hr : RowsR h v ls) (sz : ls.flatten.length ≤ 100000) (szn : ls.length ≤ 1000)
    (k : ∀ v' h', Ex h h' → OwnG 1 (fun j => h.length ≤ j) h' v' ls.flatten.length (flat eI ls.flatten) → K v' h') : callW Tryz.prog 64 [v] h K := by
  obtain ⟨vals, hv, hrow⟩ := hr
  refine c64 ?_
  unfold s64
  refine w_len hv ?_
  have tk : ∀ (i : Nat) (l : List Int), ls[i]? = some l → (ls.take (i + 1)).flatten = (ls.take i).flatten ++ l := fun i l hl => by rw [take_succ_get hl, List.flatten_append]; simp
  have le : ∀ i, (ls.take i).flatten.length ≤ 100000 := fun i => by
    have := congrArg List.length (congrArg List.flatten (List.take_append_drop i ls))
    rw [List.flatten_append, List.length_append] at this
    omega
  refine loopE_intro (fun mm e h' => ∃ i : Nat, i ≤ ls.length ∧ mm = ls.length - i ∧ e 0 = v ∧ e 3 = .int .i64 ((ls.take i).flatten.length : Nat) ∧ e 9 = v ∧ e 10 = .int .i64 (ls.length : Nat) ∧ e 11 = .int .i64 (i : Nat) ∧ h = h') ls.length
    ⟨0, Nat.zero_le _, rfl, rfl, rfl, rfl, rfl, rfl, rfl⟩ ?_
  rintro I mm e h' ⟨i, hi, hmm, e0, e3, e9, e10, e11, rfl⟩ ih
  rw [e9, e10, e11, e3, e0]
  refine w_lss (c_dec (fun q => ?_) (fun q => ?_))
  · obtain ⟨l, hl⟩ := getElem?_of_lt (l := ls) (i := i) (by omega)
    obtain ⟨w, hw, iw⟩ := hrow i l hl
    have e1 := tk i l hl
    have e2 := le (i + 1)
    have e4 := congrArg List.length e1
    rw [List.length_append] at e4
    refine idxV hv hw fun z hz => w_rd1 hz rfl (w_len iw (w_add (by omega) (by omega) (w_lss (c_ff (by omega) (w_add (by omega) (by omega) ?_)))))
    refine ih (ls.length - (i + 1)) _ _ (by omega) ⟨i + 1, by omega, rfl, e0, ?_, e9, e10, rfl, rfl⟩
    show Value.int .i64 _ = _
    rw [e4]
    congr 1
  · have l0 := le i
    refine grow62 (by omega) (by omega) fun v1 h1 x1 o1 => w_len hv ?_
    clear ih
    refine loopE_intro (fun mm e h' => ∃ i : Nat, i ≤ ls.length ∧ mm = ls.length - i ∧ e 25 = v ∧ e 26 = .int .i64 (ls.length : Nat) ∧ e 27 = .int .i64 (i : Nat) ∧ Ex h h' ∧ OwnG 1 (fun j => h.length ≤ j) h' (e 6) (ls.take i).flatten.length (flat eI (ls.take i).flatten)) ls.length
      ⟨0, Nat.zero_le _, rfl, rfl, rfl, rfl, x1, o1⟩ ?_
    clear e0 e3 e9 e10 e11 hmm hi q l0 o1 x1
    clear e i mm I v1 h1
    rintro I mm e h1 ⟨i, hi, hmm, e25, e26, e27, x1, o1⟩ ih
    rw [e25, e26, e27]
    refine w_lss (c_dec (fun q => ?_) (fun q => ?_))
    · obtain ⟨l, hl⟩ := getElem?_of_lt (l := ls) (i := i) (by omega)
      obtain ⟨w, hw, iw⟩ := hrow i l hl
      have e1 := tk i l hl
      have e2 := le (i + 1)
      have e4 := congrArg List.length e1
      rw [List.length_append] at e4
      refine idxV (hv.ex x1) hw fun z hz => w_rd1 hz rfl ?_
      have iw1 := Sl.ex iw x1
      refine appSl_sl iw1 (app_g (by decide) o1 (srcL_sl (by decide) iw1) (by rw [flat_eI_len]; omega) (by have := bigR; omega) fun v' h2 a1 a2 a3 a4 => ?_)
      refine w_add (by omega) (by omega) ?_
      refine ih (ls.length - (i + 1)) _ _ (by omega) ⟨i + 1, by omega, rfl, e25, e26, rfl, x1.below a2 fun j hj => a3 j (by have := x1.len; omega) fun hh => by have := (o1.on hh).1; omega, ?_⟩
      show OwnG 1 (fun j => h.length ≤ j) h2 v' _ _
      rw [e4, e1, flat_append]
      exact OwnG.mono a1 (fun j _ hj => hj.elim id fun e => by have := x1.len; show h.length ≤ j; omega) fun _ _ _ => rfl
    · have hall : ls.take i = ls := List.take_of_length_le (by omega)
      rw [hall] at o1
      exact k _ _ x1 o1
end Go.Proofs.YtdlbiliolbdbmaaGreat.W
end

section
/- Top's laws, package fold: which states are reached. Conditions: none. -/
namespace Go.Proofs.YtdlbiliolbdbmaaGreat.W
open Go Go.AM FoldPM
set_option linter.unusedVariables false
set_option maxRecDepth 100000
theorem flat_eBo_set (l : List Bool) (i : Nat) (x : Bool) : (flat eBo l).set i (.bool x) = flat eBo (l.set i x) := by
  rw [flat_eBo, flat_eBo, List.map_set]
theorem flat_eBo_len (l : List Bool) : (flat eBo l).length = l.length := by rw [flat_eBo, List.length_map]
theorem flat_eBo_get {l : List Bool} {i : Nat} {x : Bool} (h : l[i]? = some x) : (flat eBo l)[i]? = some (.bool x) := by rw [flat_eBo, List.getElem?_map, h]; rfl
structure RS (M : PM) (bl0 bl : List Bool) : Prop where
  len : bl.length = M.n
  up : ∀ x : Nat, bl0[x]? = some true → bl[x]? = some true
  so : ∀ x : Nat, bl[x]? = some true → Rch M x
theorem _root_.Go.AM.Exx.set {i : Nat} {a b : AH} (x : Exx i a b) (o : AObj) : Exx i a (b.set i o) := ⟨by rw [List.length_set]; exact x.len, fun j hj hne => (get_ne (Ne.symm hne) _).trans (x.get j hj hne)⟩
theorem _root_.Go.AM.Exx.ofEx {a b : AH} (x : Ex a b) (i : Nat) : Exx i a b := ⟨x.len, fun j hj _ => x.get j hj⟩
theorem set_up {bl : List Bool} {q x : Nat} (h : bl[x]? = some true) : (bl.set q true)[x]? = some true := by
  by_cases e : q = x
  · subst e; rw [List.getElem?_set_self (List.getElem?_eq_some_iff.1 h).1]
  · rw [List.getElem?_set_ne e]; exact h
theorem RS.set {M : PM} {bl0 bl : List Bool} {q : Nat} (r : RS M bl0 bl) (hq : Rch M q) : RS M bl0 (bl.set q true) := by
  refine ⟨by rw [List.length_set]; exact r.len, fun x hx => set_up (r.up x hx), fun x hx => ?_⟩
  by_cases e : q = x
  · subst e; exact hq
  · rw [List.getElem?_set_ne e] at hx; exact r.so x hx
theorem reached45 {h h0 : AH} {u : MoV} {m : Mo} {bl0 : List Bool} {I p n : Nat} {K : Value → AH → Prop} (v : Valid m) (mh : MoH h0 u m) (x0 : Ex h0 h) (hI0 : h0.length ≤ I) (hI : h[I]? = some (.row (flat eBo bl0) true)) (hn : n = m.pm.n) (hp : Rch m.pm p) (rs0 : RS m.pm bl0 bl0)
    (k : ∀ h' bl, Exx I h h' → h'[I]? = some (.row (flat eBo bl) true) → RS m.pm bl0 bl → (∀ i, i < m.pm.pl → bl[m.pm.inn p i]? = some true) → (m.pm.of p = 0 → ∀ j, j < m.pm.cl → bl[m.pm.low p j]? = some true) →
      (m.pm.of p ≠ 0 → ∀ j, j < m.pm.cl → ∀ q : Nat, bl0[q]? = some true → bl[m.pm.ret p j q]? = some true) → K (.tuple #[]) h') :
    callW Tryz.prog 55 [.agg (moRow u m).toArray, .slice (some ⟨I, 0, none⟩) n n, .int .i64 (p : Nat)] h K := by
  subst hn
  have ok := v.ok
  have hpn := hp.lt ok
  refine c55 ?_
  unfold s55
  refine n_boxv rfl fun h1 x1 l1 g1 => ?_
  have g1' : h1[h.length]? = some (.row (moRow u m) true) := g1
  have xr := Ex.res h1
  have gr := xr.some g1'
  have m1 := mh.ex (x0.trans x1)
  obtain ⟨li, hli, lli, hin⟩ := v.inAt hpn
  obtain ⟨lo, hlo, lo1, lo2⟩ := v.lowAt hpn
  obtain ⟨re, hre, re1, re2⟩ := v.retAt hpn
  obtain ⟨vi, si, ri⟩ := m1.inn
  obtain ⟨wi, hwi, ii⟩ := ri p li hli
  obtain ⟨vl, sl, rl⟩ := m1.low
  obtain ⟨wl, hwl, il⟩ := rl p lo hlo
  refine w_offP (w_rdP gr (v := sv u.vi) rfl (idxV (si.ex xr) hwi fun z hz => w_rd1 hz rfl ?_))
  refine w_offP (w_rdP gr (v := sv u.vl) rfl (idxV (sl.ex xr) hwl fun z hz => w_rd1 hz rfl ?_))
  obtain ⟨ai, ni, ci, rfl⟩ := Sl.isSl ii
  obtain ⟨al, nl, cl, rfl⟩ := Sl.isSl il
  refine w_some (v := [.slice ai ni ci, .slice al nl cl]) (by simp [bldSl, fillL, repL, cellsL, Value.oneCell']) ?_
  refine n_res (n_newv fun h2 x2 l2 g2 => ?_)
  have x12 := x1.trans x2
  have lI := lt_of_get hI
  have pl2 := v.pl.2
  have cl2 := v.cl.2
  have hpl : ((m.pm.pl : Nat) : Int) = m.pl := Int.toNat_of_nonneg v.pl.1
  have hcl : ((m.pm.cl : Nat) : Int) = m.cl := Int.toNat_of_nonneg v.cl.1
  have n2 := v.n2
  have hnn : m.pm.n = m.Of.length := rfl
  have llo : lo.length ≤ 20 := by
    by_cases h0 : m.pm.of p = 0
    · have := (lo2 h0).1; omega
    · rw [lo1 h0]; exact Nat.zero_le _
  have rr : RowsR h2 (.slice (some ⟨h1.length, 0, none⟩) 2 2) [li, lo] := by
    refine ⟨[.slice ai ni ci, .slice al nl cl], ⟨rfl, .inr ⟨_, 0, _, rfl, .inl ⟨by decide, Nat.le_refl _⟩, .inr ⟨_, _, g2, Nat.le_refl _, rfl⟩⟩⟩, fun i l hl => ?_⟩
    match i with
    | 0 => cases hl; exact ⟨_, rfl, Sl.ex ii x2⟩
    | 1 => cases hl; exact ⟨_, rfl, Sl.ex il x2⟩
    | i + 2 => simp at hl
  have lll : (li ++ lo).length ≤ 40 := by rw [List.length_append]; omega
  have fl : [li, lo].flatten = li ++ lo := by simp
  refine conc57 rr (by rw [fl, List.length_append]; omega) (by show 2 ≤ 1000; omega) fun v23 h3 x3 o23 => ?_
  rw [fl] at o23
  refine w_len o23.sl ?_
  have x13 := x12.trans x3
  have g3 := (x2.trans x3).some g1'
  have hI3 := x13.some hI
  have m3 := m1.ex (x2.trans x3)
  have el : ∀ (a : Nat) (x : Int), (li ++ lo)[a]? = some x → ∃ q : Nat, x = (q : Nat) ∧ q < m.pm.n ∧ Rch m.pm q := fun a x hx => by
    by_cases ha : a < li.length
    · rw [List.getElem?_append_left ha] at hx
      have := hin a (by omega)
      rw [hx] at this
      have e := this.1
      injection e with e
      exact ⟨_, e, this.2.1, .inn hp (by omega)⟩
    · rw [List.getElem?_append_right (by omega)] at hx
      have hl := (List.getElem?_eq_some_iff.1 hx).1
      have h00 : m.pm.of p = 0 := by
        by_cases h0 : m.pm.of p = 0
        · exact h0
        · rw [lo1 h0] at hl; simp at hl
      have hla := (lo2 h00).1
      have := (lo2 h00).2 (a - li.length) (by omega)
      rw [hx] at this
      have e := this.1
      injection e with e
      exact ⟨_, e, this.2.1, .low hp h00 (by omega)⟩
  have lI3 := x13.lt lI
  refine loopE_intro (fun mm e h' => ∃ (i : Nat) (bl : List Bool), i ≤ (li ++ lo).length ∧ mm = (li ++ lo).length - i ∧ e 1 = .slice (some ⟨I, 0, none⟩) m.pm.n m.pm.n ∧ e 2 = .int .i64 (p : Nat) ∧ e 3 = .pointer (some ⟨h.length, 0, none⟩) ∧ e 23 = v23 ∧ e 24 = .int .i64 ((li ++ lo).length : Nat) ∧ e 25 = .int .i64 (i : Nat) ∧
      Exx I h3 h' ∧ h'[I]? = some (.row (flat eBo bl) true) ∧ RS m.pm bl0 bl ∧ ∀ (a q : Nat), a < i → (li ++ lo)[a]? = some ((q : Nat) : Int) → bl[q]? = some true) (li ++ lo).length
    ⟨0, bl0, Nat.zero_le _, rfl, rfl, rfl, rfl, rfl, rfl, rfl, Exx.refl _ _, hI3, rs0, fun a q ha => by omega⟩ ?_
  rintro J mm e h4 ⟨i, bl, hi, hmm, e1, e2, e3, e23, e24, e25, x4, hI4, rs, hall⟩ ih
  rw [e1, e23, e24, e25, e3, e2]
  have hne : h.length ≠ I := by omega
  have base : Ex h0 h3 := x0.trans x13
  have i23' : Ints h4 v23 (li ++ lo) := by
    refine (o23.mono (F' := fun _ => True) (fun _ _ _ => trivial) fun j hj hf => x4.get j (o23.on hj).2 ?_).sl
    have := x12.lt lI
    omega
  refine w_lss (c_dec (fun q => ?_) (fun q => ?_))
  · obtain ⟨x, hx⟩ := getElem?_of_lt (l := li ++ lo) (i := i) (by omega)
    obtain ⟨y, rfl, hy, ry⟩ := el i x hx
    refine w_idxN eI_len i23' hx fun z hz => w_rd1 hz rfl (w_ix hy (w_stP hI4 (by rw [flat_eBo_len, rs.len]; exact hy) rfl rfl ?_))
    rw [flat_eBo_set]
    refine w_add (by omega) (by omega) ?_
    refine ih ((li ++ lo).length - (i + 1)) _ _ (by omega) ⟨i + 1, bl.set y true, by omega, rfl, e1, e2, e3, e23, e24, rfl, x4.set _, get_set _ (lt_of_get hI4) _, rs.set ry, fun a q' ha hq' => ?_⟩
    by_cases ea : a = i
    · subst ea
      rw [hx] at hq'
      injection hq' with hq'
      have : q' = y := by omega
      subst this
      rw [List.getElem?_set_self (by rw [rs.len]; exact hy)]
    · exact set_up (hall a q' (by omega) hq')
  · have dn : ∀ (a q : Nat), (li ++ lo)[a]? = some ((q : Nat) : Int) → bl[q]? = some true := fun a q' ha => hall a q' (by have := (List.getElem?_eq_some_iff.1 ha).1; omega) ha
    have d1 : ∀ i, i < m.pm.pl → bl[m.pm.inn p i]? = some true := fun i hi => dn i _ (by rw [List.getElem?_append_left (by omega)]; exact (hin i hi).1)
    have d2 : m.pm.of p = 0 → ∀ j, j < m.pm.cl → bl[m.pm.low p j]? = some true := fun h00 j hj => dn (li.length + j) _ (by rw [List.getElem?_append_right (by omega), Nat.add_sub_cancel_left]; exact ((lo2 h00).2 j hj).1)
    have y4 : Ex h0 h4 := Exx.base base x4 hI0
    have g4 : h4[h.length]? = some (.row (moRow u m) true) := x4.some g3 hne
    have m4 := mh.ex y4
    obtain ⟨vr, sr, rr⟩ := mh.ret
    obtain ⟨wr, hwr, vs, svs, rvs⟩ := rr p re hre
    refine w_offP (w_rdP g4 (v := sv u.vr) rfl (idxV (sr.ex y4) hwr fun z hz => w_rd1 hz rfl (w_len svs ?_)))
    clear ih hall dn
    have lre : re.length ≤ 20 := by
      by_cases h0 : m.pm.of p = 0
      · rw [re1 h0]; exact Nat.zero_le _
      · have := (re2 h0).1; omega
    have rj : ∀ (j : Nat) (l : List Int), re[j]? = some l → m.pm.of p ≠ 0 ∧ j < m.pm.cl ∧ l.length = m.pm.n ∧ ∀ q, q < m.pm.n → l[q]? = some ((m.pm.ret p j q : Nat) : Int) ∧ m.pm.ret p j q < m.pm.n := fun j l hl => by
      have hj := (List.getElem?_eq_some_iff.1 hl).1
      have h0 : m.pm.of p ≠ 0 := fun h0 => by rw [re1 h0] at hj; simp at hj
      have hj' : j < m.pm.cl := by have := (re2 h0).1; omega
      obtain ⟨l', hl', ll, hq⟩ := (re2 h0).2 j hj'
      rw [hl] at hl'
      cases hl'
      exact ⟨h0, hj', ll, fun q hq' => ⟨(hq q hq').1, (hq q hq').2.1⟩⟩
    refine loopE_intro (fun mm e h' => ∃ (j : Nat) (b2 : List Bool), j ≤ re.length ∧ mm = re.length - j ∧ e 1 = .slice (some ⟨I, 0, none⟩) m.pm.n m.pm.n ∧ e 37 = wr ∧ e 38 = .int .i64 (re.length : Nat) ∧ e 39 = .int .i64 (j : Nat) ∧
        Exx I h4 h' ∧ h'[I]? = some (.row (flat eBo b2) true) ∧ RS m.pm bl b2 ∧ ∀ a, a < j → ∀ q : Nat, bl0[q]? = some true → b2[m.pm.ret p a q]? = some true) re.length
      ⟨0, bl, Nat.zero_le _, rfl, e1, rfl, rfl, rfl, Exx.refl _ _, hI4, ⟨rs.len, fun _ h => h, rs.so⟩, fun a ha => by omega⟩ ?_
    clear e1 e2 e3 e23 e24 e25 hmm hi q hz z
    clear e J mm i
    rintro J mm e h5 ⟨j, b2, hj, hmm, e1, e37, e38, e39, x5, hI5, rs2, hall⟩ ih
    rw [e37, e38, e39]
    have x05 : Ex h0 h5 := Exx.base base (x4.trans x5) hI0
    refine w_lss (c_dec (fun q => ?_) (fun q => ?_))
    · obtain ⟨l, hl⟩ := getElem?_of_lt (l := re) (i := j) (by omega)
      obtain ⟨hp0, hjc, ll, hlq⟩ := rj j l hl
      obtain ⟨w, hw, iw⟩ := rvs j l hl
      refine idxV (svs.ex x05) hw fun z hz => w_rd1 hz rfl (w_len iw ?_)
      rw [ll]
      refine loopE_intro (fun mm e' h' => ∃ (i : Nat) (b3 : List Bool), i ≤ m.pm.n ∧ mm = m.pm.n - i ∧ e' 1 = .slice (some ⟨I, 0, none⟩) m.pm.n m.pm.n ∧ e' 37 = wr ∧ e' 38 = .int .i64 (re.length : Nat) ∧ e' 39 = .int .i64 (j : Nat) ∧ e' 43 = w ∧ e' 44 = .int .i64 (m.pm.n : Nat) ∧ e' 45 = .int .i64 (i : Nat) ∧
          Exx I h5 h' ∧ h'[I]? = some (.row (flat eBo b3) true) ∧ RS m.pm b2 b3 ∧ ∀ q : Nat, q < i → bl0[q]? = some true → b3[m.pm.ret p j q]? = some true) m.pm.n
        ⟨0, b2, Nat.zero_le _, rfl, e1, e37, e38, e39, rfl, rfl, rfl, Exx.refl _ _, hI5, ⟨rs2.len, fun _ h => h, rs2.so⟩, fun q' hq' => by omega⟩ ?_
      rintro J2 mm2 e' h6 ⟨i, b3, hi, hmm2, f1, f37, f38, f39, f43, f44, f45, x6, hI6, rs3, hq3⟩ ih2
      rw [f43, f44, f45, f1, f39]
      have iw6 : Ints h6 w l := Sl.ex iw (Exx.base base (x4.trans (x5.trans x6)) hI0)
      refine w_lss (c_dec (fun q2 => ?_) (fun q2 => ?_))
      · obtain ⟨hl1, hl2⟩ := hlq i (by omega)
        obtain ⟨b, hb⟩ := getElem?_of_lt (l := b3) (i := i) (by rw [rs3.len]; omega)
        refine w_idxN eI_len iw6 hl1 fun z hz => w_rd1 hz rfl (w_ix (by omega) (w_rdP hI6 (flat_eBo_get hb) ?_))
        have next : ∀ (e2 : Env) (h' : AH) (b4 : List Bool), e2 1 = .slice (some ⟨I, 0, none⟩) m.pm.n m.pm.n → e2 37 = wr → e2 38 = .int .i64 (re.length : Nat) → e2 39 = .int .i64 (j : Nat) → e2 43 = w → e2 44 = .int .i64 (m.pm.n : Nat) → e2 45 = .int .i64 ((i : Int) + 1) →
            Exx I h5 h' → h'[I]? = some (.row (flat eBo b4) true) → RS m.pm b2 b4 → (∀ x : Nat, b3[x]? = some true → b4[x]? = some true) → (bl0[i]? = some true → b4[m.pm.ret p j i]? = some true) → J2 e2 h' :=
          fun e2 h' b4 t1 t2 t3 t4 t5 t6 t7 y hIb rs4 up4 new => ih2 (m.pm.n - (i + 1)) _ _ (by omega) ⟨i + 1, b4, by omega, rfl, t1, t2, t3, t4, t5, t6, t7, y, hIb, rs4, fun q' hq' hb' => by
            by_cases eq : q' = i
            · subst eq; exact new hb'
            · exact up4 _ (hq3 q' (by omega) hb')⟩
        cases b with
        | true =>
          refine c_t (w_ix hl2 (w_stP hI6 (by rw [flat_eBo_len, rs3.len]; exact hl2) rfl rfl ?_))
          rw [flat_eBo_set]
          refine w_add (by omega) (by omega) ?_
          exact next _ _ _ f1 f37 f38 f39 f43 f44 rfl (x6.set _) (get_set _ (lt_of_get hI6) _) (rs3.set (.ret hp (rs3.so i hb) hp0 hjc)) (fun x hx => set_up hx) fun _ => by rw [List.getElem?_set_self (by rw [rs3.len]; exact hl2)]
        | false =>
          refine c_f (w_add (by omega) (by omega) ?_)
          refine next _ _ b3 f1 f37 f38 f39 f43 f44 rfl x6 hI6 rs3 (fun _ h => h) fun hb' => ?_
          have := rs3.up i (rs2.up i (rs.up i hb'))
          rw [hb] at this
          cases this
      · refine w_add (by omega) (by omega) ?_
        refine ih (re.length - (j + 1)) _ _ (by omega) ⟨j + 1, b3, by omega, rfl, f1, f37, f38, rfl, x5.trans x6, hI6, ⟨rs3.len, fun x hx => rs3.up x (rs2.up x hx), rs3.so⟩, fun a ha q' hq' => ?_⟩
        by_cases ea : a = j
        · subst ea
          exact hq3 q' (by have := (List.getElem?_eq_some_iff.1 (rs3.up _ (rs2.up _ (rs.up _ hq')))).1; have := rs3.len; omega) hq'
        · exact rs3.up _ (hall a (by omega) q' hq')
    · exact k h5 b2 ((Exx.ofEx x13 I).trans (x4.trans x5)) hI5 ⟨rs2.len, fun x hx => rs2.up x (rs.up x hx), rs2.so⟩ (fun i hi => rs2.up _ (d1 i hi)) (fun h00 j hj => rs2.up _ (d2 h00 j hj)) fun h00 a ha q' hq' => hall a (by have := (re2 h00).1; omega) q' hq'
end Go.Proofs.YtdlbiliolbdbmaaGreat.W
end

section
/- Top's laws, package fold: the code's Reached. Conditions: none. -/
namespace Go.Proofs.YtdlbiliolbdbmaaGreat.W
open Go Go.AM FoldPM
set_option linter.unusedVariables false
set_option maxRecDepth 100000
def Up (a b : List Bool) : Prop := ∀ x : Nat, a[x]? = some true → b[x]? = some true
theorem Up.tail {x y : Bool} {a b : List Bool} (h : Up (x :: a) (y :: b)) : Up a b := fun i hi => by have := h (i + 1) (by simpa using hi); simpa using this
theorem cnt_le : ∀ (a b : List Bool), a.length = b.length → Up a b → a.countP id ≤ b.countP id
  | [], [], _, _ => Nat.le_refl _
  | [], _ :: _, h, _ => by simp at h
  | _ :: _, [], h, _ => by simp at h
  | x :: a, y :: b, hl, h => by
    have ih := cnt_le a b (by simpa using hl) h.tail
    have h0 := h 0
    simp only [List.countP_cons]
    cases x <;> cases y <;> simp_all <;> omega
theorem cnt_lt : ∀ (a b : List Bool), a.length = b.length → Up a b → a ≠ b → a.countP id < b.countP id
  | [], [], _, _, n => absurd rfl n
  | [], _ :: _, h, _, _ => by simp at h
  | _ :: _, [], h, _, _ => by simp at h
  | x :: a, y :: b, hl, h, n => by
    have hl' : a.length = b.length := by simpa using hl
    have il := cnt_le a b hl' h.tail
    have h0 := h 0
    simp only [List.countP_cons]
    cases x <;> cases y
    · have := cnt_lt a b hl' h.tail (fun e => n (by rw [e])); simpa using this
    · simp; omega
    · simp at h0
    · have := cnt_lt a b hl' h.tail (fun e => n (by rw [e])); simpa using this
theorem up_eq {a b : List Bool} (hl : a.length = b.length) (h : Up a b) (k : Up b a) : a = b := by
  by_cases e : a = b
  · exact e
  · have := cnt_lt a b hl h e
    have := cnt_le b a hl.symm k
    omega
def Clo (M : PM) (bl : List Bool) (p : Nat) : Prop := (∀ i, i < M.pl → bl[M.inn p i]? = some true) ∧ (M.of p = 0 → ∀ j, j < M.cl → bl[M.low p j]? = some true) ∧ (M.of p ≠ 0 → ∀ j, j < M.cl → ∀ q : Nat, bl[q]? = some true → bl[M.ret p j q]? = some true)
def Full (M : PM) (bl : List Bool) : Prop := ∀ x, Rch M x → bl[x]? = some true
theorem full_of {M : PM} {bl : List Bool} (he : ∀ c, c < M.k → bl[M.en c]? = some true) (hc : ∀ p : Nat, bl[p]? = some true → Clo M bl p) : Full M bl := by
  intro x h
  induction h with
  | en h => exact he _ h
  | inn _ hi ih => exact (hc _ ih).1 _ hi
  | low _ h0 hj ih => exact (hc _ ih).2.1 h0 _ hj
  | ret _ _ h0 hj i1 i2 => exact (hc _ i1).2.2 h0 _ hj _ i2
theorem repL_false (k : Nat) : repL [.bool false] k = flat eBo (List.replicate k false) := by
  rw [repL_map, flat_eBo, List.map_replicate, List.map_const', List.length_range]
theorem reached20 {h : AH} {u : MoV} {m : Mo} {K : Value → AH → Prop} (mh : MoH h u m) (kf : ¬ Valid m → ∀ h', Ex h h' → K (.slice none 0 0) h')
    (kt : Valid m → ∀ h' I bl, Ex h h' → h.length ≤ I → h'[I]? = some (.row (flat eBo bl) true) → bl.length = m.pm.n → (∀ x : Nat, bl[x]? = some true ↔ Rch m.pm x) → K (.slice (some ⟨I, 0, none⟩) m.pm.n m.pm.n) h') : callW Tryz.prog 21 [.agg (moRow u m).toArray] h K := by
  refine c21 ?_
  unfold s21
  refine n_boxv rfl fun h1 x1 l1 g1 => ?_
  have g1' : h1[h.length]? = some (.row (moRow u m) true) := g1
  refine w_rdPA g1' (Nat.le_refl 8) ?_
  refine check15 (mh.ex x1) (fun nv h2 x2 => w_neq (c_tt (by decide) (kf nv _ (x1.trans x2)))) fun v h2 x2 => w_neq (c_ff (by decide) ?_)
  have ok := v.ok
  have x02 := x1.trans x2
  have g2 := x2.some g1'
  have m2 := mh.ex x02
  have n2 := v.n2
  have k2 := v.k2
  have hnn : m.pm.n = m.Of.length := rfl
  have hkk : m.pm.k = m.En.length := rfl
  refine w_offP (w_rdP g2 (v := sv u.vo) rfl (w_len m2.of (w_mk1 (by decide) (by omega) ?_)))
  refine n_newv fun h3 x3 l3 g3 => ?_
  have g3' : h3[h2.length]? = some (.row (flat eBo (List.replicate m.pm.n false)) true) := by rw [← repL_false]; exact g3
  refine w_offP (w_rdP (x3.some g2) (v := sv u.ve) rfl (w_len m2.en ?_))
  refine loopE_intro (fun mm e h' => ∃ (i : Nat) (bl : List Bool), i ≤ m.pm.k ∧ mm = m.pm.k - i ∧ e 1 = .pointer (some ⟨h.length, 0, none⟩) ∧ e 3 = .slice (some ⟨h2.length, 0, none⟩) m.pm.n m.pm.n ∧ e 15 = sv u.ve ∧ e 16 = .int .i64 (m.pm.k : Nat) ∧ e 17 = .int .i64 (i : Nat) ∧
      Ex h2 h' ∧ h'[h2.length]? = some (.row (flat eBo bl) true) ∧ RS m.pm bl bl ∧ ∀ c, c < i → bl[m.pm.en c]? = some true) m.pm.k
    ⟨0, _, Nat.zero_le _, rfl, rfl, rfl, rfl, rfl, rfl, x3, g3', ⟨List.length_replicate, fun _ h => h, fun x hx => by rw [List.getElem?_replicate] at hx; split at hx <;> simp at hx⟩, fun c hc => by omega⟩ ?_
  rintro J mm e h4 ⟨i, bl, hi, hmm, e1, e3, e15, e16, e17, x4, hI, rs, hall⟩ ih
  rw [e15, e16, e17, e3]
  refine w_lss (c_dec (fun q => ?_) (fun q => ?_))
  · have hx := v.enAt (c := i) (by omega)
    refine w_idxN eI_len (m2.ex x4).en hx.1 fun z hz => w_rd1 hz rfl (w_ix hx.2.1 (w_stP hI (by rw [flat_eBo_len, rs.len]; exact hx.2.1) rfl rfl ?_))
    rw [flat_eBo_set]
    refine w_add (by omega) (by omega) ?_
    have rs' := rs.set (q := m.pm.en i) (.en (by omega))
    refine ih (m.pm.k - (i + 1)) _ _ (by omega) ⟨i + 1, bl.set (m.pm.en i) true, by omega, rfl, e1, e3, e15, e16, rfl, x4.set (Nat.le_refl _) _, get_set _ (lt_of_get hI) _, ⟨rs'.len, fun _ h => h, rs'.so⟩, fun c hc => ?_⟩
    by_cases ec : c = i
    · subst ec; rw [List.getElem?_set_self (by rw [rs.len]; exact hx.2.1)]
    · exact set_up (hall c (by omega))
  · have hall' : ∀ c, c < m.pm.k → bl[m.pm.en c]? = some true := fun c hc => hall c (by omega)
    have c1 : 1 ≤ bl.countP id := by
      have := List.one_le_countP_iff (p := id) (l := bl)
      exact this.2 ⟨true, List.mem_of_getElem? (hall' 0 ok.k1), rfl⟩
    refine w_lenSl ?_
    clear ih hall
    refine loopE_intro (fun mm e h' => ∃ (r : Nat) (bl : List Bool), r ≤ m.pm.n ∧ mm = m.pm.n - r ∧ e 1 = .pointer (some ⟨h.length, 0, none⟩) ∧ e 3 = .slice (some ⟨h2.length, 0, none⟩) m.pm.n m.pm.n ∧ e 26 = .int .i64 (m.pm.n : Nat) ∧ e 27 = .int .i64 (r : Nat) ∧
        Ex h2 h' ∧ h'[h2.length]? = some (.row (flat eBo bl) true) ∧ RS m.pm bl bl ∧ (∀ c, c < m.pm.k → bl[m.pm.en c]? = some true) ∧ (Full m.pm bl ∨ r + 1 ≤ bl.countP id)) m.pm.n
      ⟨0, bl, Nat.zero_le _, rfl, e1, e3, rfl, rfl, x4, hI, rs, hall', .inr c1⟩ ?_
    clear e1 e3 e15 e16 e17 hmm hi q x4 hI rs hall' c1
    clear e J mm i bl h4
    rintro J mm e h4 ⟨r, bl1, hr, hmm, e1, e3, e26, e27, x4, hI, rs, hen, hfc⟩ ih
    rw [e26, e27, e3]
    refine w_lss (c_dec (fun q => ?_) (fun q => ?_))
    · refine w_lenSl ?_
      refine loopE_intro (fun mm e' h' => ∃ (p : Nat) (bl : List Bool), p ≤ m.pm.n ∧ mm = m.pm.n - p ∧ e' 1 = .pointer (some ⟨h.length, 0, none⟩) ∧ e' 3 = .slice (some ⟨h2.length, 0, none⟩) m.pm.n m.pm.n ∧ e' 26 = .int .i64 (m.pm.n : Nat) ∧ e' 27 = .int .i64 (r : Nat) ∧ e' 30 = .int .i64 (m.pm.n : Nat) ∧ e' 31 = .int .i64 (p : Nat) ∧
          Ex h2 h' ∧ h'[h2.length]? = some (.row (flat eBo bl) true) ∧ RS m.pm bl1 bl ∧ (bl = bl1 → ∀ p', p' < p → bl1[p']? = some true → Clo m.pm bl1 p')) m.pm.n
        ⟨0, bl1, Nat.zero_le _, rfl, e1, e3, e26, e27, rfl, rfl, x4, hI, rs, fun _ p' hp' => by omega⟩ ?_
      rintro J2 mm2 e' h5 ⟨p, bl, hp, hmm2, f1, f3, f26, f27, f30, f31, x5, hI5, rs2, hcl⟩ ih2
      rw [f30, f31, f3, f1, f27]
      refine w_lss (c_dec (fun q2 => ?_) (fun q2 => ?_))
      · obtain ⟨b, hb⟩ := getElem?_of_lt (l := bl) (i := p) (by rw [rs2.len]; omega)
        refine w_ix (by omega) (w_rdP hI5 (flat_eBo_get hb) ?_)
        have next : ∀ (e2 : Env) (h' : AH) (b4 : List Bool), e2 1 = .pointer (some ⟨h.length, 0, none⟩) → e2 3 = .slice (some ⟨h2.length, 0, none⟩) m.pm.n m.pm.n → e2 26 = .int .i64 (m.pm.n : Nat) → e2 27 = .int .i64 (r : Nat) → e2 30 = .int .i64 (m.pm.n : Nat) → e2 31 = .int .i64 ((p : Int) + 1) →
            Ex h2 h' → h'[h2.length]? = some (.row (flat eBo b4) true) → RS m.pm bl b4 → (b4 = bl → bl[p]? = some true → Clo m.pm bl p) → J2 e2 h' :=
          fun e2 h' b4 t1 t2 t3 t4 t5 t6 y hIb rs4 new => ih2 (m.pm.n - (p + 1)) _ _ (by omega) ⟨p + 1, b4, by omega, rfl, t1, t2, t3, t4, t5, t6, y, hIb, ⟨rs4.len, fun x hx => rs4.up x (rs2.up x hx), rs4.so⟩, fun eb p' hp' hb' => by
            have e0 : bl = bl1 := up_eq (by rw [rs2.len, rs.len]) (fun x hx => eb ▸ rs4.up x hx) (fun x hx => rs2.up x hx)
            by_cases ep : p' = p
            · subst ep
              rw [← e0]
              exact new (eb.trans e0.symm) (e0 ▸ hb')
            · exact hcl e0 p' (by omega) hb'⟩
        cases b with
        | true =>
          refine c_t (w_rdPA (x5.some g2) (Nat.le_refl 8) ?_)
          refine reached45 (h0 := h2) v m2 x5 (Nat.le_refl _) hI5 rfl (rs2.so p hb) ⟨rs2.len, fun _ h => h, rs2.so⟩ fun h6 b4 y hI6 rs4 d1 d2 d3 => ?_
          refine w_add (by omega) (by omega) ?_
          refine next _ _ b4 f1 f3 f26 f27 f30 rfl (Exx.base x5 y (Nat.le_refl _)) hI6 rs4 fun eb _ => ?_
          rw [eb] at d1 d2 d3
          exact ⟨d1, d2, d3⟩
        | false =>
          refine c_f (w_add (by omega) (by omega) ?_)
          refine next _ _ bl f1 f3 f26 f27 f30 rfl x5 hI5 ⟨rs2.len, fun _ h => h, rs2.so⟩ fun _ hb' => ?_
          rw [hb] at hb'
          cases hb'
      · refine w_add (by omega) (by omega) ?_
        refine ih (m.pm.n - (r + 1)) _ _ (by omega) ⟨r + 1, bl, by omega, rfl, f1, f3, f26, rfl, x5, hI5, ⟨rs2.len, fun _ h => h, rs2.so⟩, fun c hc => rs2.up _ (hen c hc), ?_⟩
        by_cases eb : bl = bl1
        · left
          rw [eb]
          exact full_of hen fun p' hp' => hcl eb p' (by have := (List.getElem?_eq_some_iff.1 hp').1; have := rs.len; omega) hp'
        · rcases hfc with hf | hc
          · left
            exact fun x hx => rs2.up x (hf x hx)
          · right
            have := cnt_lt bl1 bl (by rw [rs2.len, rs.len]) rs2.up (fun e => eb e.symm)
            omega
    · have hF : Full m.pm bl1 := by
        rcases hfc with hf | hc
        · exact hf
        · have := List.countP_le_length (p := id) (l := bl1)
          have := rs.len
          omega
      exact kt v _ _ bl1 (x02.trans x4) (by have := x02.len; omega) hI rs.len fun x => ⟨fun hx => rs.so x hx, fun hx => hF x hx⟩
end Go.Proofs.YtdlbiliolbdbmaaGreat.W
end

section
/- Top's laws, package fold: classes are parted: a step. Conditions: none. -/
namespace Go.Proofs.YtdlbiliolbdbmaaGreat.W
open Go Go.AM FoldPM
set_option linter.unusedVariables false
set_option maxRecDepth 100000
def eArr (x : Int × Int) : Value := .agg #[.int .i64 x.1, .int .i64 x.2]
theorem keyA0 (a b c d : Int) : keyEq Tryz.prog 198 (eArr (a, b)) (eArr (c, d)) = sameScals [.int .i64 a, .int .i64 b] [.int .i64 c, .int .i64 d] := by kernel_rfl
theorem same2 (a b c d : Int) : sameScals [.int .i64 a, .int .i64 b] [.int .i64 c, .int .i64 d] = some (decide (a = c ∧ b = d)) := by
  simp only [sameScals, sameScal, if_true]
  by_cases h1 : a = c
  · subst h1
    by_cases h2 : b = d
    · subst h2; simp
    · rw [beq_false_of_ne h2]; simp [h2]
  · rw [beq_false_of_ne h1]; simp [h1]
theorem keyA : KeyOK Tryz.prog 198 eArr := by
  rintro ⟨a, b⟩ ⟨c, d⟩
  rw [keyA0, same2]
  congr 1
  simp only [Prod.mk.injEq]
theorem und83 : Tryz.prog.underlying 238 = some (.map 198 3) := by kernel_rfl
theorem zer3 : zeroV Tryz.prog 3 = some (.int .i64 0) := by kernel_rfl
theorem lookup_ok {α : Type} [DecidableEq α] {P : Program} {t kt et : TypeId} {enc : α → Value} {z : Value} (ht : P.underlying t = some (.map kt et)) (hz : zeroV P et = some z) (hk : KeyOK P kt enc) {h : AH} {id : Nat} {l : List (MEnt α)} {ck : Nat} {x : α} {K : Value → Prop}
    (hm : h[id]? = some (.map (encE enc l) ck)) (k1 : ∀ t ∈ l, t.1 = x → K (.tuple #[t.2.1, .bool true])) (k2 : (∀ t ∈ l, t.1 ≠ x) → K (.tuple #[z, .bool false])) : optW (pLookup P t (.map (some id)) (enc x) true h) K := by
  unfold pLookup
  simp only [ht, hz, entsOf, hm]
  rw [if_pos (hk.self x), findL_enc hk]
  cases hf : findE x l 0 with
  | none => exact k2 (findE_none hf)
  | some r =>
    obtain ⟨j, v⟩ := r
    obtain ⟨_, n, hj⟩ := findE_some hf
    exact k1 _ (List.mem_of_getElem? hj) rfl
structure ExF (F : Nat → Prop) (a b : AH) : Prop where
  len : a.length ≤ b.length
  get : ∀ j, j < a.length → ¬ F j → b[j]? = a[j]?
theorem ExF.refl (F : Nat → Prop) (a : AH) : ExF F a a := ⟨Nat.le_refl _, fun _ _ _ => rfl⟩
theorem ExF.trans {F : Nat → Prop} {a b c : AH} (x : ExF F a b) (y : ExF F b c) : ExF F a c := ⟨Nat.le_trans x.len y.len, fun j hj hf => (y.get j (Nat.lt_of_lt_of_le hj x.len) hf).trans (x.get j hj hf)⟩
theorem ExF.ex {F : Nat → Prop} {a b : AH} (x : Ex a b) : ExF F a b := ⟨x.len, fun j hj _ => x.get j hj⟩
theorem ExF.set {F : Nat → Prop} {a b : AH} {i : Nat} (x : ExF F a b) (hi : F i) (o : AObj) : ExF F a (b.set i o) := ⟨by rw [List.length_set]; exact x.len, fun j hj hf => (get_ne (by intro e; subst e; exact hf hi) _).trans (x.get j hj hf)⟩
theorem ExF.base {F : Nat → Prop} {h a b : AH} (x : Ex h a) (y : ExF F a b) (hF : ∀ j, F j → h.length ≤ j) : Ex h b := ⟨Nat.le_trans x.len y.len, fun j hj => (y.get j (x.lt hj) fun hf => by have := hF j hf; omega).trans (x.get j hj)⟩
theorem ExF.some {F : Nat → Prop} {a b : AH} (x : ExF F a b) {j : Nat} {o : AObj} (h : a[j]? = some o) (hj : ¬ F j) : b[j]? = some o := (x.get j (lt_of_get h) hj).trans h
theorem ExF.new {F : Nat → Prop} {a b : AH} {i : Nat} (x : ExF F a b) (hi : a.length ≤ i) (o : AObj) : ExF F a (b.set i o) := ⟨by rw [List.length_set]; exact x.len, fun j hj hf => (get_ne (by omega) _).trans (x.get j hj hf)⟩
structure Part (h : AH) (X C : Nat) (u : MoV) (m : Mo) (vis vc : Value) (c : List Int) (cnt : Nat) : Prop where
  row : h[X]? = some (.row (moRow u m ++ [vis, vc, .int .i64 (cnt : Nat)]) true)
  cls : OwnG 1 (fun j => j = C) h vc c.length (flat eI c)
  ne : C ≠ X
def XC (X C : Nat) (j : Nat) : Prop := j = X ∨ j = C
theorem Part.ex {h h' : AH} {X C : Nat} {u : MoV} {m : Mo} {vis vc : Value} {c : List Int} {cnt : Nat} (p : Part h X C u m vis vc c cnt) (x : Ex h h') : Part h' X C u m vis vc c cnt :=
  ⟨x.some p.row, p.cls.mono (fun _ _ h => h) fun j hj _ => x.get j (p.cls.on hj).2, p.ne⟩
theorem getD_some {c : List Int} {p : Nat} {x : Int} (h : c[p]? = some x) : c.getD p 0 = x := by rw [List.getD_eq_getElem?_getD, h]; rfl
theorem split52 {h : AH} {X C : Nat} {u : MoV} {m : Mo} {vis vc f : Value} {c : List Int} {cnt cnt0 n : Nat} {R : Nat → Prop} {S : Nat → Nat → Prop} {b : Nat → Int} {K : Value → AH → Prop} (P : Part h X C u m vis vc c cnt0) (Ca : Canon n R S c cnt) (hn : n ≤ 60)
    (rf : ∀ a, S a a) (sy : ∀ a b, S a b → S b a) (tr : ∀ a b c, S a b → S b c → S a c)
    (hf : ∀ (h' : AH) (p : Nat) (K' : Value → AH → Prop), ExF (XC X C) h h' → p < n → R p → K' (.int .i64 (b p)) h' → callV (callW Tryz.prog) f [.int .i64 (p : Nat)] h' K')
    (k : ∀ h' c' cnt', ExF (XC X C) h h' → Part h' X C u m vis vc c' cnt' → Canon n R (fun p q => S p q ∧ b p = b q) c' cnt' → K (.tuple #[]) h') :
    callW Tryz.prog 99 [.pointer (some ⟨X, 0, none⟩), f] h K := by
  refine c99 ?_
  unfold s99
  refine n_map0 fun h1 x1 l1 g1 => ?_
  have P1 := P.ex x1
  have lX := lt_of_get P.row
  have hcl := Ca.len
  refine w_nilc (w_offP (w_rdP P1.row (v := vc) rfl (w_len P1.cls.sl ?_)))
  let S' : Nat → Nat → Prop := fun p q => S p q ∧ b p = b q
  have rf' : ∀ a, S' a a := fun a => ⟨rf a, rfl⟩
  have sy' : ∀ a b, S' a b → S' b a := fun a b h => ⟨sy _ _ h.1, h.2.symm⟩
  have tr' : ∀ a b c, S' a b → S' b c → S' a c := fun a b c h k => ⟨tr _ _ _ h.1 k.1, h.2.trans k.2⟩
  refine loopE_intro (fun mm e h' => ∃ (p cnt' ck : Nat) (c' : List Int) (l : List (MEnt (Int × Int))), p ≤ n ∧ mm = n - p ∧ e 0 = .pointer (some ⟨X, 0, none⟩) ∧ e 1 = f ∧ e 4 = .map (some h.length) ∧ e 5 = .int .i64 (cnt' : Nat) ∧ e 15 = vc ∧ e 16 = .int .i64 (n : Nat) ∧ e 17 = .int .i64 (p : Nat) ∧
      ExF (XC X C) h h' ∧ h'[X]? = some (.row (moRow u m ++ [vis, vc, .int .i64 (cnt0 : Nat)]) true) ∧ OwnG 1 (fun j => j = C) h' vc n (flat eI (c' ++ c.drop p)) ∧ Canon p R S' c' cnt' ∧
      h'[h.length]? = some (.map (encE eArr l) ck) ∧ (l.Pairwise fun t u => t.1 ≠ u.1) ∧ (∀ t ∈ l, ∃ q, q < p ∧ R q ∧ t.1 = (c.getD q 0, b q) ∧ t.2.1 = .int .i64 (c'.getD q 0)) ∧ (∀ q, q < p → R q → ∃ t ∈ l, t.1 = (c.getD q 0, b q))) n
    ⟨0, 0, 0, [], [], Nat.zero_le _, rfl, rfl, rfl, rfl, rfl, rfl, by rw [← hcl]; rfl, rfl, .ex x1, P1.row, by rw [List.nil_append, List.drop_zero, ← hcl]; exact P1.cls, Canon.nil _ _, g1, .nil, fun t ht => (by cases ht), fun q hq => (by omega)⟩ ?_
  rintro I mm e h2 ⟨p, cnt', ck, c', l, hp, hmm, e0, e1, e4, e5, e15, e16, e17, x2, rX, oC, Cn, gM, pw, ml, mr⟩ ih
  rw [e15, e16, e17, e0, e1, e4, e5]
  have hl' := Cn.len
  refine w_lss (c_dec (fun q => ?_) (fun q => ?_))
  · have hpn : p < n := by omega
    obtain ⟨x, hx⟩ := getElem?_of_lt (l := c) (i := p) (by omega)
    have hd : c.drop p = x :: c.drop (p + 1) := by
      rw [List.drop_eq_getElem_cons (by omega : p < c.length), ← (List.getElem?_eq_some_iff.1 hx).2]
    have hxx : (c' ++ c.drop p)[p]? = some x := by rw [List.getElem?_append_right (by omega), hl', Nat.sub_self, hd]; rfl
    have oI : Ints h2 vc (c' ++ c.drop p) := by
      have := oC.sl
      have e : (c' ++ c.drop p).length = n := by rw [List.length_append, List.length_drop]; omega
      unfold Ints SlT
      rw [e]
      exact this
    have cx := Ca.le
    have c'n := Cn.le
    refine w_idxN eI_len oI hxx fun z hz => w_rd1 hz rfl (w_lss (c_dec (fun q1 => ?_) (fun q1 => ?_)))
    · have nr : ¬ R p := fun r => by
        obtain ⟨d, _, hd'⟩ := Ca.re p hpn r
        rw [hx] at hd'
        cases hd'
        omega
      have hm1 := Ca.un p hpn nr
      rw [hx] at hm1
      cases hm1
      refine w_add (by omega) (by omega) ?_
      have e1' : c' ++ c.drop p = (c' ++ [-1]) ++ c.drop (p + 1) := by rw [hd]; simp
      refine ih (n - (p + 1)) _ _ (by omega) ⟨p + 1, cnt', ck, c' ++ [-1], l, by omega, rfl, e0, e1, e4, e5, e15, e16, rfl, x2, rX, by rw [← e1']; exact oC, Cn.out nr, gM, pw, fun t ht => ?_, fun q' hq' rq => ?_⟩
      · obtain ⟨q', h1, h2, h3, h4⟩ := ml t ht
        exact ⟨q', by omega, h2, h3, by rw [h4]; congr 1; rw [List.getD_eq_getElem?_getD, List.getD_eq_getElem?_getD, get_snoc hl' h1]⟩
      · have : q' ≠ p := fun e => nr (e ▸ rq)
        exact mr q' (by omega) rq
    · have rp : R p := by
        by_cases r : R p
        · exact r
        · have := Ca.un p hpn r
          rw [hx] at this
          cases this
          omega
      refine hf h2 p _ x2 hpn rp ?_
      refine w_some (v := eArr (x, b p)) rfl ?_
      refine n_var rfl rfl rfl fun h3 x3 l3 g3 => ?_
      refine w_rdPA g3 (Nat.le_refl 2) ?_
      have cpx : c.getD p 0 = x := getD_some hx
      have l2 : h.length < h2.length := lt_of_get gM
      have store : ∀ (y d' : Nat) (l' : List (MEnt (Int × Int))) (ck' : Nat) (h4 : AH) (e' : Value → Value → Env), ExF (XC X C) h h4 → h4[X]? = some (.row (moRow u m ++ [vis, vc, .int .i64 (cnt0 : Nat)]) true) → OwnG 1 (fun j => j = C) h4 vc n (flat eI (c' ++ c.drop p)) →
          Canon (p + 1) R S' (c' ++ [(y : Int)]) d' → h4[h.length]? = some (.map (encE eArr l') ck') → (l'.Pairwise fun t u => t.1 ≠ u.1) → (∀ t ∈ l', ∃ q, q < p + 1 ∧ R q ∧ t.1 = (c.getD q 0, b q) ∧ t.2.1 = .int .i64 ((c' ++ [(y : Int)]).getD q 0)) → (∀ q, q < p + 1 → R q → ∃ t ∈ l', t.1 = (c.getD q 0, b q)) →
          (∀ v w, e' v w 0 = .pointer (some ⟨X, 0, none⟩) ∧ e' v w 1 = f ∧ e' v w 4 = .map (some h.length) ∧ e' v w 5 = .int .i64 (d' : Nat) ∧ e' v w 15 = vc ∧ e' v w 16 = .int .i64 (n : Nat) ∧ e' v w 17 = w) →
          optW (pIdxS 1 vc (.int .i64 (p : Nat))) fun v => optW (pStore 1 v (.int .i64 (y : Nat)) h4) fun h5 => optW (pBin Tryz.prog .add 3 (.int .i64 (p : Nat)) (.int .i64 1)) fun w => I (e' v w) h5 := by
        intro y d' l' ck' h4 e' x4 rX4 oC4 Cn4 gM4 pw4 ml4 mr4 he
        refine w_stG (K := fun v h5 => optW (pBin Tryz.prog .add 3 (.int .i64 (p : Nat)) (.int .i64 1)) fun w => I (e' v w) h5) oC4 hpn rfl rfl fun v h5 a1 a2 a3 => ?_
        refine w_add (by omega) (by omega) ?_
        obtain ⟨t0, t1, t4, t5, t15, t16, t17⟩ := he v (.int .i64 ((p : Int) + 1))
        have nM : ∀ j, j ≠ C → h5[j]? = h4[j]? := fun j hj => a3 j fun hh => hj (oC4.on hh).1
        have lC := P.ne
        have hC : C ≠ h.length := fun e => by
          have hon : ∃ j, onId vc j := by
            obtain ⟨_, ⟨_, h0⟩ | ⟨id, cc, hid, hv, _⟩⟩ := P.cls
            · omega
            · exact ⟨id, by rw [hv]; exact rfl⟩
          obtain ⟨j, hj⟩ := hon
          have h1 := P.cls.on hj
          have : j = C := h1.1
          omega
        refine ih (n - (p + 1)) _ _ (by omega) ⟨p + 1, d', ck', c' ++ [(y : Int)], l', by omega, rfl, t0, t1, t4, t5, t15, t16, t17, ⟨by rw [a2]; exact x4.len, fun j hj hf' => (nM j fun e => hf' (.inr e)).trans (x4.get j hj hf')⟩, (nM X (Ne.symm lC)).trans rX4, ?_, Cn4, (nM _ (Ne.symm hC)).trans gM4, pw4, ml4, mr4⟩
        have e6 : flat eI ((c' ++ [(y : Int)]) ++ c.drop (p + 1)) = (flat eI (c' ++ c.drop p)).set p (.int .i64 (y : Nat)) := by
          rw [flat_eI_set, hd]
          congr 1
          rw [List.set_append_right _ _ (by omega), hl', Nat.sub_self]
          simp
        rw [e6]
        exact a1
      have x3' : ExF (XC X C) h h3 := x2.trans (.ex x3)
      have oC3 := oC.mono (F' := fun j => j = C) (h' := h3) (fun _ _ h => h) fun j hj _ => x3.get j (oC.on hj).2
      refine lookup_ok (enc := eArr) (x := (x, b p)) und83 zer3 keyA (x3.some gM) (fun t ht hk => ?_) (fun hno => ?_)
      · obtain ⟨q', hq', rq, t1, t2⟩ := ml t ht
        refine w_some (v := t.2.1) rfl (w_some (v := .bool true) rfl (w_notb (c_f ?_)))
        refine w_nilc (w_offP (w_rdP (x3.some rX) (v := vc) rfl ?_))
        obtain ⟨d, hd1, hd2⟩ := Cn.re q' hq' rq
        rw [t2, getD_some hd2]
        have hS : S' p q' := by
          rw [t1] at hk
          injection hk with hk1 hk2
          have cq : c[q']? = some (c.getD q' 0) := by
            obtain ⟨y, hy⟩ := getElem?_of_lt (l := c) (i := q') (by omega)
            rw [getD_some hy, hy]
          exact ⟨(Ca.eq p q' hpn (by omega) rp rq).1 (by rw [cq, hk1, hx]), hk2.symm⟩
        have Cn' := Cn.old rp sy' tr' rf' hq' rq hS hd2
        refine store d cnt' l ck h3 _ x3' (x3.some rX) oC3 Cn' (x3.some gM) pw (fun t' ht' => ?_) (fun q2 hq2 rq2 => ?_) (fun v w => ⟨e0, e1, e4, e5, e15, e16, rfl⟩)
        · obtain ⟨q3, h1, h2, h3, h4⟩ := ml t' ht'
          exact ⟨q3, by omega, h2, h3, by rw [h4]; congr 1; rw [List.getD_eq_getElem?_getD, List.getD_eq_getElem?_getD, get_snoc hl' h1]⟩
        · by_cases ep : q2 = p
          · subst ep
            exact ⟨t, ht, by rw [hk, cpx]⟩
          · exact mr q2 (by omega) rq2
      · refine w_some (v := .int .i64 0) rfl (w_some (v := .bool false) rfl (w_notb (c_t ?_)))
        refine w_rdPA g3 (Nat.le_refl 2) ?_
        refine upd_rule (enc := eArr) (x := (x, b p)) und83 keyA (x3.some gM) pw fun l' ck' k1 k2 k3 k4 => ?_
        have hno' : ∀ q', q' < p → R q' → ¬ S' p q' := fun q' hq' rq' hS => by
          obtain ⟨t, ht, t1⟩ := mr q' hq' rq'
          refine hno t ht ?_
          rw [t1]
          have := (Ca.eq p q' hpn (by omega) rp rq').2 hS.1
          rw [hx] at this
          rw [getD_some this.symm, hS.2]
        have Cn' := Cn.new rp sy' rf' hno'
        have lM : h.length < h3.length := x3.lt l2
        have hMX : h.length ≠ X := by omega
        have hMC : ∀ j, onId vc j → h.length ≠ j := fun j hj e => by have := (P.cls.on hj).2; omega
        have rX4 : (h3.set h.length (.map (encE eArr l') ck'))[X]? = some (.row (moRow u m ++ [vis, vc, .int .i64 (cnt0 : Nat)]) true) := (get_ne hMX _).trans (x3.some rX)
        refine w_add (by omega) (by omega) (w_nilc (w_offP (w_rdP rX4 (v := vc) rfl ?_)))
        refine store cnt' (cnt' + 1) l' ck' _ _ (x3'.new (Nat.le_refl _) _) rX4 (oC3.mono (fun _ _ h => h) fun j hj _ => get_ne (hMC j hj) _) Cn' (get_set _ lM _) k4 (fun t' ht' => ?_) (fun q2 hq2 rq2 => ?_) (fun v w => ⟨e0, e1, e4, rfl, e15, e16, rfl⟩)
        · rcases k1 t' ht' with ⟨h1, h2⟩ | ⟨h1, h2⟩
          · exact ⟨p, by omega, rp, by rw [h1, cpx], by rw [h2, List.getD_eq_getElem?_getD, get_last hl']; rfl⟩
          · obtain ⟨q3, h1, h2, h3, h4⟩ := ml t' h1
            exact ⟨q3, by omega, h2, h3, by rw [h4]; congr 1; rw [List.getD_eq_getElem?_getD, List.getD_eq_getElem?_getD, get_snoc hl' h1]⟩
        · by_cases ep : q2 = p
          · subst ep
            obtain ⟨t, ht, t1, t2⟩ := k2
            exact ⟨t, ht, by rw [t1, cpx]⟩
          · obtain ⟨t, ht, t1⟩ := mr q2 (by omega) rq2
            exact ⟨t, k3 t ht fun e => hno t ht e, t1⟩
  · have epn : p = n := by omega
    subst epn
    refine w_nilc (w_offP (w_stP rX (by show 0 + 10 < 11; omega) rfl rfl ?_))
    rw [List.drop_eq_nil_of_le (by omega), List.append_nil] at oC
    have lC := P.ne
    refine k _ c' cnt' (x2.set (.inl rfl) _) ⟨get_set _ (lt_of_get rX) _, ?_, lC⟩ Cn
    rw [hl']
    exact oC.mono (fun _ _ h => h) fun j hj hf' => get_ne (by intro e; subst e; exact lC hf'.symm) _
end Go.Proofs.YtdlbiliolbdbmaaGreat.W
end

section
/- Top's laws, package fold: classes are parted: what is asked of a state; how many; clones. Conditions: none. -/
namespace Go.Proofs.YtdlbiliolbdbmaaGreat.W
open Go Go.AM FoldPM
set_option linter.unusedVariables false
set_option maxRecDepth 100000
theorem _root_.Go.AM.Sl.keepOn {s : Nat} {h h' : AH} {v : Value} {n : Nat} {cs : List Value} (hv : Sl s h v n cs) (hh : ∀ j, onId v j → h'[j]? = h[j]?) : Sl s h' v n cs := by
  refine ⟨hv.1, ?_⟩
  rcases hv.2 with h1 | ⟨id, off, cap, h1, h2, h3⟩
  · exact .inl h1
  · refine .inr ⟨id, off, cap, h1, h2, ?_⟩
    rcases h3 with h3 | ⟨c, w, h3, h4⟩
    · exact .inl h3
    · exact .inr ⟨c, w, (hh id (by rw [h1]; exact rfl)).trans h3, h4⟩
theorem _root_.FoldPM.Canon.kernel {n cnt : Nat} {R : Nat → Prop} {S : Nat → Nat → Prop} {c : List Int} (C : Canon n R S c cnt) {p q : Nat} (hp : p < n) (hq : q < n) (rp : R p) (rq : R q) : c.getD p 0 = c.getD q 0 ↔ S p q := by
  obtain ⟨a, _, ha⟩ := C.re p hp rp
  obtain ⟨b, _, hb⟩ := C.re q hq rq
  rw [getD_some ha, getD_some hb, ← C.eq p q hp hq rp rq, ha, hb]
  exact ⟨fun h => by rw [h], fun h => by injection h⟩
theorem split52' {h : AH} {X C : Nat} {u : MoV} {m : Mo} {vis vc f : Value} {c : List Int} {cnt cnt0 n : Nat} {R : Nat → Prop} {S : Nat → Nat → Prop} {b : Nat → Int} {K : Value → AH → Prop} (P : Part h X C u m vis vc c cnt0) (Ca : Canon n R S c cnt) (hn : n ≤ 60)
    (hf : ∀ (h' : AH) (p : Nat) (K' : Value → AH → Prop), ExF (XC X C) h h' → p < n → R p → K' (.int .i64 (b p)) h' → callV (callW Tryz.prog) f [.int .i64 (p : Nat)] h' K')
    (k : ∀ h' c' cnt', ExF (XC X C) h h' → Part h' X C u m vis vc c' cnt' → Canon n R (fun p q => S p q ∧ b p = b q) c' cnt' → K (.tuple #[]) h') :
    callW Tryz.prog 99 [.pointer (some ⟨X, 0, none⟩), f] h K := by
  refine split52 (S := fun p q => c.getD p 0 = c.getD q 0) P (Ca.congr (fun _ _ => Iff.rfl) fun p q hp hq rp rq => (Ca.kernel hp hq rp rq).symm) hn (fun _ => rfl) (fun _ _ h => h.symm) (fun _ _ _ h k => h.trans k) hf fun h' c' cnt' x P' C' => ?_
  exact k h' c' cnt' x P' (C'.congr (fun _ _ => Iff.rfl) fun p q hp hq rp rq => and_congr_left fun _ => Ca.kernel hp hq rp rq)
structure RC (h : AH) (o b : Nat) (vold : Value) (c : List Int) (u : MoV) (m : Mo) : Prop where
  old : h[o]? = some (.row [vold] true)
  box : h[b]? = some (.row (moRow u m) true)
  oi : Ints h vold c
  mh : MoH h u m
theorem rOld {h : AH} {o b : Nat} {vold : Value} {c : List Int} {u : MoV} {m : Mo} (_ : Valid m) (r : RC h o b vold c u m) (hc : c.length = m.pm.n) {x : Nat} (hx : x < m.pm.n) {K : Value → Prop} (k : K (.int .i64 (c.getD x 0))) : optW (pIdxS 1 vold (.int .i64 (x : Nat))) fun a => optW (rdRow false 1 a h) K := by
  obtain ⟨y, hy⟩ := getElem?_of_lt (l := c) (i := x) (by omega)
  rw [getD_some hy] at k
  exact w_idxN eI_len r.oi hy fun z hz => w_rd1 hz rfl k
section
variable {h : AH} {o b : Nat} {vold : Value} {c : List Int} {u : MoV} {m : Mo} (v : Valid m) (r : RC h o b vold c u m) (hc : c.length = m.pm.n)
include v r
theorem rOf {p : Nat} (hp : p < m.pm.n) {K : Value → Prop} (k : K (.int .i64 (m.pm.of p))) : optW (pOff 2 (.pointer (some ⟨b, 0, none⟩))) fun a => optW (rdRow false 1 a h) fun a => optW (pIdxS 1 a (.int .i64 (p : Nat))) fun a => optW (rdRow false 1 a h) K :=
  w_offP (w_rdP r.box (v := sv u.vo) rfl (w_idxN eI_len r.mh.of (v.ofAt hp) fun z hz => w_rd1 hz rfl k))
theorem rRet {p j x : Nat} (hp : p < m.pm.n) (h0 : m.pm.of p ≠ 0) (hj : j < m.pm.cl) (hx : x < m.pm.n) {K : Value → Prop} (k : K (.int .i64 (m.pm.ret p j x : Nat))) :
    optW (pIdxS 1 (sv u.vr) (.int .i64 (p : Nat))) fun a => optW (rdRow false 1 a h) fun b => optW (pIdxS 1 b (.int .i64 (j : Nat))) fun c => optW (rdRow false 1 c h) fun d => optW (pIdxS 1 d (.int .i64 (x : Nat))) fun e => optW (rdRow false 1 e h) K := by
  obtain ⟨rr, hr, _, h2⟩ := v.retAt hp
  obtain ⟨l, hl, _, h3⟩ := (h2 h0).2 j hj
  obtain ⟨vals, s, rw_⟩ := r.mh.ret
  obtain ⟨w, hw, vs, sv', rv⟩ := rw_ p rr hr
  obtain ⟨w2, hw2, il⟩ := rv j l hl
  exact idxV s hw fun z hz => w_rd1 hz rfl (idxV sv' hw2 fun z hz => w_rd1 hz rfl (w_idxN eI_len il (h3 x hx).1 fun z hz => w_rd1 hz rfl k))
include hc
theorem cls58 {K : Value → AH → Prop} {bi i p : Nat} (g : h[bi]? = some (.row [.int .i64 (i : Nat)] true)) (hp : p < m.pm.n) (hi : i < m.pm.pl) (k : K (.int .i64 (c.getD (m.pm.inn p i) 0)) h) :
    callV (callW Tryz.prog) (.func (.func 147) #[] #[.pointer (some ⟨o, 0, none⟩), .pointer (some ⟨b, 0, none⟩), .pointer (some ⟨bi, 0, none⟩)]) [.int .i64 (p : Nat)] h K := by
  show callW Tryz.prog 147 [.int .i64 (p : Nat), .pointer (some ⟨o, 0, none⟩), .pointer (some ⟨b, 0, none⟩), .pointer (some ⟨bi, 0, none⟩)] h K
  refine c147 ?_
  unfold s147
  obtain ⟨l, hl, _, h2⟩ := v.inAt hp
  obtain ⟨vals, s, rr⟩ := r.mh.inn
  obtain ⟨w, hw, il⟩ := rr p l hl
  exact w_rdP r.old rfl (w_offP (w_rdP r.box (v := sv u.vi) rfl (idxV s hw fun z hz => w_rd1 hz rfl (w_rdP g rfl (w_idxN eI_len il (h2 i hi).1 fun z hz => w_rd1 hz rfl (rOld v r hc (h2 i hi).2.1 k))))))
theorem cls59 {K : Value → AH → Prop} {bi i p : Nat} (g : h[bi]? = some (.row [.int .i64 (i : Nat)] true)) (hp : p < m.pm.n) (hi : i < m.pm.cl) (k : K (.int .i64 (if m.pm.of p = 0 then c.getD (m.pm.low p i) 0 else 0)) h) :
    callV (callW Tryz.prog) (.func (.func 148) #[] #[.pointer (some ⟨b, 0, none⟩), .pointer (some ⟨o, 0, none⟩), .pointer (some ⟨bi, 0, none⟩)]) [.int .i64 (p : Nat)] h K := by
  show callW Tryz.prog 148 [.int .i64 (p : Nat), .pointer (some ⟨b, 0, none⟩), .pointer (some ⟨o, 0, none⟩), .pointer (some ⟨bi, 0, none⟩)] h K
  refine c148 ?_
  unfold s148
  refine rOf v r hp (w_eql (c_dec (fun q => ?_) (fun q => ?_)))
  · rw [if_pos q] at k
    obtain ⟨l, hl, _, h2⟩ := v.lowAt hp
    obtain ⟨vals, s, rr⟩ := r.mh.low
    obtain ⟨w, hw, il⟩ := rr p l hl
    exact w_rdP r.old rfl (w_offP (w_rdP r.box (v := sv u.vl) rfl (idxV s hw fun z hz => w_rd1 hz rfl (w_rdP g rfl (w_idxN eI_len il ((h2 q).2 i hi).1 fun z hz => w_rd1 hz rfl (rOld v r hc ((h2 q).2 i hi).2.1 k))))))
  · rw [if_neg q] at k
    exact k
theorem cls60 {K : Value → AH → Prop} {bj bq j x p : Nat} (gj : h[bj]? = some (.row [.int .i64 (j : Nat)] true)) (gq : h[bq]? = some (.row [.int .i64 (x : Nat)] true)) (hp : p < m.pm.n) (hj : j < m.pm.cl) (hx : x < m.pm.n) (k : K (.int .i64 (if m.pm.of p = 0 then 0 else c.getD (m.pm.ret p j x) 0)) h) :
    callV (callW Tryz.prog) (.func (.func 149) #[] #[.pointer (some ⟨b, 0, none⟩), .pointer (some ⟨o, 0, none⟩), .pointer (some ⟨bj, 0, none⟩), .pointer (some ⟨bq, 0, none⟩)]) [.int .i64 (p : Nat)] h K := by
  show callW Tryz.prog 149 [.int .i64 (p : Nat), .pointer (some ⟨b, 0, none⟩), .pointer (some ⟨o, 0, none⟩), .pointer (some ⟨bj, 0, none⟩), .pointer (some ⟨bq, 0, none⟩)] h K
  refine c149 ?_
  unfold s149
  refine rOf v r hp (w_eql (c_dec (fun q => ?_) (fun q => ?_)))
  · rw [if_pos q] at k
    exact k
  · rw [if_neg q] at k
    obtain ⟨rr, hr, _, h2⟩ := v.retAt hp
    obtain ⟨l, hl, _, h3⟩ := (h2 q).2 j hj
    obtain ⟨vals, s, rw_⟩ := r.mh.ret
    obtain ⟨w, hw, vs, sv', rv⟩ := rw_ p rr hr
    obtain ⟨w2, hw2, il⟩ := rv j l hl
    exact w_rdP r.old rfl (w_offP (w_rdP r.box (v := sv u.vr) rfl (idxV s hw fun z hz => w_rd1 hz rfl (w_rdP gj rfl (idxV sv' hw2 fun z hz => w_rd1 hz rfl (w_rdP gq rfl (w_idxN eI_len il (h3 x hx).1 fun z hz => w_rd1 hz rfl (rOld v r hc (h3 x hx).2.1 k))))))))
theorem cls61 {K : Value → AH → Prop} {bj bq j x p : Nat} (gj : h[bj]? = some (.row [.int .i64 (j : Nat)] true)) (gq : h[bq]? = some (.row [.int .i64 (x : Nat)] true)) (hp : p < m.pm.n) (hj : j < m.pm.cl) (hx : x < m.pm.n) (h0 : m.pm.of x ≠ 0) (k : K (.int .i64 (c.getD (m.pm.ret x j p) 0)) h) :
    callV (callW Tryz.prog) (.func (.func 150) #[] #[.pointer (some ⟨o, 0, none⟩), .pointer (some ⟨b, 0, none⟩), .pointer (some ⟨bq, 0, none⟩), .pointer (some ⟨bj, 0, none⟩)]) [.int .i64 (p : Nat)] h K := by
  show callW Tryz.prog 150 [.int .i64 (p : Nat), .pointer (some ⟨o, 0, none⟩), .pointer (some ⟨b, 0, none⟩), .pointer (some ⟨bq, 0, none⟩), .pointer (some ⟨bj, 0, none⟩)] h K
  refine c150 ?_
  unfold s150
  obtain ⟨rr, hr, _, h2⟩ := v.retAt hx
  obtain ⟨l, hl, _, h3⟩ := (h2 h0).2 j hj
  obtain ⟨vals, s, rw_⟩ := r.mh.ret
  obtain ⟨w, hw, vs, sv', rv⟩ := rw_ x rr hr
  obtain ⟨w2, hw2, il⟩ := rv j l hl
  exact w_rdP r.old rfl (w_offP (w_rdP r.box (v := sv u.vr) rfl (w_rdP gq rfl (idxV s hw fun z hz => w_rd1 hz rfl (w_rdP gj rfl (idxV sv' hw2 fun z hz => w_rd1 hz rfl (w_idxN eI_len il (h3 p hp).1 fun z hz => w_rd1 hz rfl (rOld v r hc (h3 p hp).2.1 k))))))))
end
theorem cls53 {h : AH} {b p : Nat} {u : MoV} {m : Mo} {K : Value → AH → Prop} (v : Valid m) (g : h[b]? = some (.row (moRow u m) true)) (mh : MoH h u m) (hp : p < m.pm.n) (k : K (.int .i64 (m.pm.of p)) h) :
    callV (callW Tryz.prog) (.func (.func 100) #[] #[.pointer (some ⟨b, 0, none⟩)]) [.int .i64 (p : Nat)] h K := by
  show callW Tryz.prog 100 [.int .i64 (p : Nat), .pointer (some ⟨b, 0, none⟩)] h K
  refine c100 ?_
  unfold s100
  exact w_offP (w_rdP g (v := sv u.vo) rfl (w_idxN eI_len mh.of (v.ofAt hp) fun z hz => w_rd1 hz rfl k))
theorem cls54 {h : AH} {b p : Nat} {u : MoV} {m : Mo} {K : Value → AH → Prop} (v : Valid m) (g : h[b]? = some (.row (moRow u m) true)) (mh : MoH h u m) (hp : p < m.pm.n) (k : K (.int .i64 (if m.pm.fi p = true then 1 else 0)) h) :
    callV (callW Tryz.prog) (.func (.func 101) #[] #[.pointer (some ⟨b, 0, none⟩)]) [.int .i64 (p : Nat)] h K := by
  show callW Tryz.prog 101 [.int .i64 (p : Nat), .pointer (some ⟨b, 0, none⟩)] h K
  refine c101 ?_
  unfold s101
  refine w_offP (w_rdP g (v := sv u.vf) rfl (w_idxN eBo_len mh.fi (v.fiAt hp) fun z hz => w_rd1 hz rfl ?_))
  cases hf : m.pm.fi p with
  | true => rw [hf] at k; exact k
  | false => rw [hf] at k; exact k
def RowW (h : AH) (v : Value) : Prop := v = .slice none 0 0 ∨ ∃ id n cap row, v = .slice (some ⟨id, 0, none⟩) n cap ∧ h[id]? = some (.row row true) ∧ n ≤ row.length
theorem RowW.keep {h h' : AH} {v : Value} (r : RowW h v) (hh : ∀ j, onId v j → h'[j]? = h[j]?) : RowW h' v := by
  rcases r with e | ⟨id, n, cap, row, rfl, g, hn⟩
  · exact .inl e
  · exact .inr ⟨id, n, cap, row, rfl, (hh id rfl).trans g, hn⟩
theorem clone_tailW {s : Nat} {z : List Value} (hz : z.length = s) (hs : 0 < s) (hs1 : s = 1) {h : AH} {v : Value} {n : Nat} {cs : List Value} {K : Value → AH → Prop} (hv : Sl s h v n cs) (hn : n < room40)
    (k : ∀ v' h', Ex h h' → Sl s h' v' n cs → (∀ j, onId v' j → h.length ≤ j ∧ j < h'.length) → RowW h' v' → K v' h') :
    optW (bldSl s z 0 []) fun c => newW none (.row c true) h fun i h_1 => appSl s (.slice (some ⟨i, 0, none⟩) 0 0) v h_1 fun v7 h_2 => K v7 h_2 := by
  have hb : bldSl s z 0 [] = some [] := by
    unfold bldSl
    rw [if_pos ⟨hz, by omega, by omega⟩]
    rfl
  refine w_some hb ?_
  refine n_new ?_
  have hx : Ex h (h ++ [AObj.row [] true]) := .app _ _
  refine appSl_sl (hv.ex hx) (.inl ?_)
  have hsrc := srcL_sl hs (hv.ex hx)
  have hroom : 0 + n < room40 := by omega
  by_cases n0 : n = 0
  · subst n0
    have hcs : cs = [] := List.eq_nil_of_length_eq_zero (by have := hv.1; omega)
    subst hcs
    have : pAppS s (.slice (some ⟨h.length, 0, none⟩) 0 0) v (h ++ [AObj.row [] true]) = some (.slice (some ⟨h.length, 0, none⟩) (0 + 0) 0, h ++ [AObj.row [] true]) := by
      unfold pAppS
      simp only [hsrc]
      rw [if_pos hroom, if_pos (by decide)]
      simp [pAppEx, stAt]
    rw [this]
    exact k _ _ hx ⟨by simp, .inr ⟨h.length, 0, 0, rfl, .inl ⟨by decide, Nat.le_refl _⟩, .inl rfl⟩⟩ (fun j hj => by
      have : h.length = j := hj
      simp
      omega) (.inr ⟨h.length, 0, 0, [], rfl, get_new _ _, Nat.le_refl _⟩)
  · have : pAppS s (.slice (some ⟨h.length, 0, none⟩) 0 0) v (h ++ [AObj.row [] true]) = some (.slice (some ⟨(h ++ [AObj.row [] true]).length, 0, none⟩) (0 + n) (openCap + s), (h ++ [AObj.row [] true]) ++ [AObj.row ([] ++ cs) true]) := by
      unfold pAppS
      simp only [hsrc]
      rw [if_pos hroom, if_pos (by decide)]
      simp only [pAppEx]
      rw [if_neg (by omega), Nat.zero_mul]
      simp [firstL]
    rw [this]
    refine k _ _ (hx.trans (.app _ _)) ⟨hv.1, .inr ⟨_, 0, _, by rw [Nat.zero_add], .inr rfl, .inr ⟨cs, true, ?_, by have := hv.1; omega, by rw [← hv.1]; simp⟩⟩⟩ (fun j hj => ?_) (.inr ⟨_, _, _, cs, rfl, ?_, by have := hv.1; subst hs1; omega⟩)
    · rw [List.nil_append]; exact get_new _ _
    · have : (h ++ [AObj.row [] true]).length = j := hj
      simp at this
      simp
      omega
    · rw [List.nil_append]; exact get_new _ _
theorem clone40W {h : AH} {v : Value} {n : Nat} {cs : List Value} {K : Value → AH → Prop} (hv : Sl 1 h v n cs) (hn : n ≤ 100000) (k : ∀ v' h', Ex h h' → Sl 1 h' v' n cs → (∀ j, onId v' j → h.length ≤ j ∧ j < h'.length) → RowW h' v' → K v' h') : callW Tryz.prog 51 [v] h K := by
  refine c51 ?_
  unfold s51
  obtain ⟨a, cap, e⟩ := hv.shape
  have hv' := hv
  rw [e]
  rw [e] at hv'
  refine w_slnil (e := 3) (by kernel_rfl) ?_
  cases a with
  | none =>
    have n0 : n = 0 := by
      rcases hv'.2 with ⟨e2, h0⟩ | ⟨id, off, cap', e2, _⟩
      · exact h0
      · cases e2
    subst n0
    have : cs = [] := List.eq_nil_of_length_eq_zero (by have := hv.1; omega)
    subst this
    exact c_t (k _ _ (Ex.refl _) ⟨rfl, .inl ⟨rfl, rfl⟩⟩ (fun j hj => hj.elim) (.inl rfl))
  | some ad => exact c_f (clone_tailW rfl (by decide) rfl hv' (by have := bigR; omega) k)
theorem clone40 {h : AH} {v : Value} {n : Nat} {cs : List Value} {K : Value → AH → Prop} (hv : Sl 1 h v n cs) (hn : n ≤ 100000) (k : ∀ v' h', Ex h h' → Sl 1 h' v' n cs → (∀ j, onId v' j → h.length ≤ j ∧ j < h'.length) → K v' h') : callW Tryz.prog 51 [v] h K :=
  clone40W hv hn fun v' h' x s o _ => k v' h' x s o
theorem res55 (e : Env) (h : AH) : resList Tryz.prog e h Tryz.f102.results.toList = (rdRow true 2 (e 2) h).map fun v => [v] := by
  have h1 : Tryz.f102.results.toList = [.cell 2 198] := by kernel_rfl
  have h2 : ∀ x, pLoad Tryz.prog 198 x h = rdRow true 2 x h := fun x => by kernel_rfl
  rw [h1]
  show (match pLoad Tryz.prog 198 (e 2) h with
    | some v => match resList Tryz.prog e h [] with
      | some vs => some (v :: vs)
      | none => none
    | none => none) = _
  rw [h2]
  cases rdRow true 2 (e 2) h <;> rfl
def up0 (c : List Int) : Nat := c.countP fun x => decide (0 ≤ x)
theorem size55 {h : AH} {X C : Nat} {u : MoV} {m : Mo} {vis vc : Value} {c : List Int} {cnt : Nat} {K : Value → AH → Prop} (P : Part h X C u m vis vc c cnt) (hn : c.length ≤ 1000)
    (k : ∀ h', Ex h h' → K (eArr ((cnt : Nat), (up0 c : Nat))) h') : callW Tryz.prog 102 [.pointer (some ⟨X, 0, none⟩)] h K := by
  refine c102 ?_
  unfold s102
  refine n_rowv fun h1 x1 l1 g1 => ?_
  have P1 := P.ex x1
  refine w_nilc (w_offP (w_rdP P1.row (v := vc) rfl (w_len P1.cls.sl ?_)))
  refine loopE_intro (fun mm e h' => ∃ i : Nat, i ≤ c.length ∧ mm = c.length - i ∧ e 0 = .pointer (some ⟨X, 0, none⟩) ∧ e 2 = .pointer (some ⟨h.length, 0, none⟩) ∧ e 3 = .int .i64 (up0 (c.take i) : Nat) ∧ e 9 = vc ∧ e 10 = .int .i64 (c.length : Nat) ∧ e 11 = .int .i64 (i : Nat) ∧ h1 = h') c.length
    ⟨0, Nat.zero_le _, rfl, rfl, rfl, rfl, rfl, rfl, rfl, rfl⟩ ?_
  rintro I mm e h2 ⟨i, hi, hmm, e0, e2, e3, e9, e10, e11, rfl⟩ ih
  rw [e9, e10, e11, e0, e2, e3]
  have hle : up0 (c.take i) ≤ i := by
    have := List.countP_le_length (p := fun x : Int => decide (0 ≤ x)) (l := c.take i)
    have := List.length_take_le i c
    unfold up0
    omega
  refine w_lss (c_dec (fun q => ?_) (fun q => ?_))
  · obtain ⟨x, hx⟩ := getElem?_of_lt (l := c) (i := i) (by omega)
    have e5 : up0 (c.take (i + 1)) = up0 (c.take i) + (if 0 ≤ x then 1 else 0) := by
      unfold up0
      rw [take_succ_get hx, List.countP_append]
      congr 1
      rw [List.countP_singleton]
      by_cases h0 : 0 ≤ x <;> simp [h0]
    refine w_idxN eI_len P1.cls.sl hx fun z hz => w_rd1 hz rfl (w_geq (c_dec (fun q2 => ?_) (fun q2 => ?_)))
    · rw [if_pos q2] at e5
      refine w_add (by omega) (by omega) (w_add (by omega) (by omega) ?_)
      exact ih (c.length - (i + 1)) _ _ (by omega) ⟨i + 1, by omega, rfl, e0, e2, by rw [e5]; rfl, e9, e10, rfl, rfl⟩
    · rw [if_neg q2] at e5
      refine w_add (by omega) (by omega) ?_
      exact ih (c.length - (i + 1)) _ _ (by omega) ⟨i + 1, by omega, rfl, e0, e2, by rw [e5]; exact e3, e9, e10, rfl, rfl⟩
  · have hall : c.take i = c := List.take_of_length_le (by omega)
    refine w_nilc (w_offP (w_rdP P1.row (v := .int .i64 (cnt : Nat)) rfl ?_))
    refine w_some (v := eArr ((cnt : Nat), (up0 (c.take i) : Nat))) rfl ?_
    refine w_stPA g1 rfl (Nat.le_refl 2) rfl ?_
    have lt1 := lt_of_get g1
    have g5 : (h1.set h.length (.row (spliceL [.int .i64 0, .int .i64 0] 0 (cellsL (eArr ((cnt : Nat), (up0 (c.take i) : Nat))))) true))[h.length]? = some (.row [.int .i64 (cnt : Nat), .int .i64 (up0 (c.take i) : Nat)] true) := get_set _ lt1 _
    rw [res55]
    refine w_some (v := [eArr ((cnt : Nat), (up0 (c.take i) : Nat))]) ?_ ?_
    · show Option.map _ (rdRow true 2 (e 2) _) = _
      rw [e2]
      have e := hopt (o := rdRow true 2 (.pointer (some ⟨h.length, 0, none⟩)) _) (w_rdPA g5 (Nat.le_refl 2) rfl)
      rw [e]
      rfl
    · have := k _ (x1.set (Nat.le_refl _) (.row (spliceL [.int .i64 0, .int .i64 0] 0 (cellsL (eArr ((cnt : Nat), (up0 (c.take i) : Nat))))) true))
      rw [hall] at this ⊢
      exact this
end Go.Proofs.YtdlbiliolbdbmaaGreat.W
end

section
/- Top's laws, package fold: classes are parted: a round. Conditions: none. -/
namespace Go.Proofs.YtdlbiliolbdbmaaGreat.W
open Go Go.AM FoldPM
set_option linter.unusedVariables false
set_option maxRecDepth 100000
def S1 (M : PM) (t i p q : Nat) : Prop := E M t p q ∧ ∀ i', i' < i → E M t (M.inn p i') (M.inn q i')
def JJ (M : PM) (t j p q : Nat) : Prop := (M.of p = 0 → E M t (M.low p j) (M.low q j)) ∧ (M.of p ≠ 0 → ∀ x, Rch M x → E M t (M.ret p j x) (M.ret q j x)) ∧ (∀ x, Rch M x → M.of x ≠ 0 → E M t (M.ret x j p) (M.ret x j q))
def S2 (M : PM) (t j p q : Nat) : Prop := S1 M t M.pl p q ∧ ∀ j', j' < j → JJ M t j' p q
def S3 (M : PM) (t j x p q : Nat) : Prop := S2 M t j p q ∧ (M.of p = 0 → E M t (M.low p j) (M.low q j)) ∧ ∀ x', x' < x → Rch M x' → (M.of p ≠ 0 → E M t (M.ret p j x') (M.ret q j x')) ∧ (M.of x' ≠ 0 → E M t (M.ret x' j p) (M.ret x' j q))
theorem S2.E {M : PM} {t j p q : Nat} (h : S2 M t j p q) : FoldPM.E M t p q := h.1.1
theorem S2.done {M : PM} {t p q : Nat} : S2 M t M.cl p q ↔ FoldPM.E M (t + 1) p q := by
  constructor
  · rintro ⟨⟨h1, h2⟩, h3⟩
    exact ⟨h1, h2, fun h0 j hj => (h3 j hj).1 h0, fun h0 j hj x hx => (h3 j hj).2.1 h0 x hx, fun x hx h0 j hj => (h3 j hj).2.2 x hx h0⟩
  · rintro ⟨h1, h2, h3, h4, h5⟩
    exact ⟨⟨h1, h2⟩, fun j hj => ⟨fun h0 => h3 h0 j hj, fun h0 x hx => h4 h0 j hj x hx, fun x hx h0 => h5 x hx h0 j hj⟩⟩
theorem S3.done {M : PM} (ok : M.OK) {t j p q : Nat} : S3 M t j M.n p q ↔ S2 M t (j + 1) p q := by
  constructor
  · rintro ⟨h1, h2, h3⟩
    refine ⟨h1.1, fun j' hj' => ?_⟩
    by_cases e : j' = j
    · subst e
      exact ⟨h2, fun h0 x hx => (h3 x (hx.lt ok) hx).1 h0, fun x hx h0 => (h3 x (hx.lt ok) hx).2 h0⟩
    · exact h1.2 j' (by omega)
  · rintro ⟨h1, h2⟩
    have := h2 j (by omega)
    exact ⟨⟨h1, fun j' hj' => h2 j' (by omega)⟩, this.1, fun x _ hx => ⟨fun h0 => this.2.1 h0 x hx, fun h0 => this.2.2 x hx h0⟩⟩
theorem round56 {h0 h : AH} {X C t : Nat} {u : MoV} {m : Mo} {vis vc : Value} {c : List Int} {cnt : Nat} {K : Value → AH → Prop} (v : Valid m) (mh0 : MoH h0 u m) (x0 : Ex h0 h) (hX : h0.length ≤ X) (hC : h0.length ≤ C) (lC : C < h.length)
    (P : Part h X C u m vis vc c cnt) (Ca : Canon m.pm.n (Rch m.pm) (E m.pm t) c cnt)
    (k : ∀ h' c' cnt', ExF (XC X C) h h' → Part h' X C u m vis vc c' cnt' → Canon m.pm.n (Rch m.pm) (E m.pm (t + 1)) c' cnt' → K (.tuple #[]) h') : callW Tryz.prog 103 [.pointer (some ⟨X, 0, none⟩)] h K := by
  have ok := v.ok
  have lX := lt_of_get P.row
  have hcl := Ca.len
  have n2 := v.n2
  have hnn : m.pm.n = m.Of.length := rfl
  have hn60 : m.pm.n ≤ 60 := by omega
  have pl2 := v.pl.2
  have cl2 := v.cl.2
  have hpl : ((m.pm.pl : Nat) : Int) = m.pl := Int.toNat_of_nonneg v.pl.1
  have hcl' : ((m.pm.cl : Nat) : Int) = m.cl := Int.toNat_of_nonneg v.cl.1
  refine c103 ?_
  unfold s103
  refine w_nilc (w_offP (w_rdPA P.row (by show 0 + 8 ≤ 11; omega) ?_))
  refine n_var (v := .agg (moRow u m).toArray) rfl rfl rfl fun h1 x1 l1 g1 => ?_
  have g1' : h1[h.length]? = some (.row (moRow u m) true) := g1
  refine w_nilc (w_offP (w_rdP (x1.some P.row) (v := vc) rfl ?_))
  refine clone40 (P.ex x1).cls.sl (by omega) fun vold h2 x2 i2 on2 => ?_
  obtain ⟨ao, no, co, rfl⟩ := Sl.isSl i2
  refine n_var rfl rfl rfl fun h3 x3 l3 g3 => ?_
  have x03 := (x1.trans x2).trans x3
  have P3 := P.ex x03
  have g3b := (x2.trans x3).some g1'
  have nX : ∀ j, h.length ≤ j → ¬ XC X C j := fun j hj hf => by rcases hf with rfl | rfl <;> omega
  have rc : ∀ h', ExF (XC X C) h3 h' → RC h' h2.length h.length (.slice ao no co) c u m := fun h' y =>
    ⟨y.some g3 (nX _ (by have := x1.len; have := x2.len; omega)), y.some g3b (nX _ (Nat.le_refl _)), by
      have := i2.keepOn (h' := h') fun j hj => (y.get j (by have := (on2 j hj).2; have := x3.len; omega) (nX j (by have := (on2 j hj).1; have := x1.len; omega))).trans (x3.get j (on2 j hj).2)
      exact this, mh0.ex (ExF.base (x0.trans x03) y fun j hj => by rcases hj with rfl | rfl <;> omega)⟩
  have ev : ∀ {a b : Nat}, Rch m.pm a → Rch m.pm b → (c.getD a 0 = c.getD b 0 ↔ E m.pm t a b) := fun ra rb => Ca.kernel (ra.lt ok) (rb.lt ok) ra rb
  have fin : ∀ h' c' cnt', ExF (XC X C) h3 h' → Part h' X C u m vis vc c' cnt' → Canon m.pm.n (Rch m.pm) (E m.pm (t + 1)) c' cnt' → K (.tuple #[]) h' := fun h' c' cnt' y P' C' => k h' c' cnt' ((ExF.ex x03).trans y) P' C'
  have l3b : h.length < h3.length := by have := x1.len; have := x2.len; omega
  clear k
  refine w_offP (w_rdP g3b (v := .int .i64 m.pl) rfl ?_)
  refine loopE_intro (fun mm e h' => ∃ (i cnt' : Nat) (c' : List Int), i ≤ m.pm.pl ∧ mm = m.pm.pl - i ∧ e 0 = .pointer (some ⟨X, 0, none⟩) ∧ e 2 = .pointer (some ⟨h.length, 0, none⟩) ∧ e 3 = .pointer (some ⟨h2.length, 0, none⟩) ∧ e 17 = .int .i64 m.pl ∧ e 18 = .int .i64 (i : Nat) ∧
      ExF (XC X C) h3 h' ∧ Part h' X C u m vis vc c' cnt' ∧ Canon m.pm.n (Rch m.pm) (S1 m.pm t i) c' cnt') m.pm.pl
    ⟨0, cnt, c, Nat.zero_le _, rfl, rfl, rfl, rfl, rfl, rfl, ExF.refl _ _, P3, Ca.congr (fun _ _ => Iff.rfl) fun p q _ _ _ _ => ⟨fun h => ⟨h, fun i hi => by omega⟩, fun h => h.1⟩⟩ ?_
  rintro I mm e h4 ⟨i, cnt', c', hi, hmm, e0, e2, e3, e17, e18, x4, P4, C4⟩ ih
  rw [e17, e18, e0, e3, e2]
  refine w_lss (c_dec (fun q => ?_) (fun q => ?_))
  · have hi' : i < m.pm.pl := by omega
    refine n_var rfl rfl rfl fun h5 x5 l5 g5 => ?_
    have x45 := x4.trans (.ex x5)
    have nb : ¬ XC X C h4.length := nX _ (by have := x4.len; omega)
    refine split52' (b := fun p => c.getD (m.pm.inn p i) 0) (P4.ex x5) C4 hn60 (fun h' p K' y hp rp k' => cls58 v (rc h' (x45.trans y)) hcl (y.some g5 nb) hp hi' k') fun h6 c6 cnt6 x6 P6 C6 => ?_
    refine w_add (by omega) (by omega) ?_
    refine ih (m.pm.pl - (i + 1)) _ _ (by omega) ⟨i + 1, cnt6, c6, by omega, rfl, e0, e2, e3, e17, rfl, x45.trans x6, P6, C6.congr (fun _ _ => Iff.rfl) fun p q hp hq rp rq => ?_⟩
    rw [ev (.inn rp hi') (.inn rq hi')]
    constructor
    · rintro ⟨h1, h2⟩
      refine ⟨h1.1, fun i' hi2 => ?_⟩
      by_cases e : i' = i
      · subst e; exact h2
      · exact h1.2 i' (by omega)
    · rintro ⟨h1, h2⟩
      exact ⟨⟨h1, fun i' hi2 => h2 i' (by omega)⟩, h2 i (by omega)⟩
  · have ei : i = m.pm.pl := by omega
    subst ei
    refine w_offP (w_rdP (rc h4 x4).box (v := .int .i64 m.cl) rfl ?_)
    refine loopE_intro (fun mm e h' => ∃ (j cnt' : Nat) (c' : List Int), j ≤ m.pm.cl ∧ mm = m.pm.cl - j ∧ e 0 = .pointer (some ⟨X, 0, none⟩) ∧ e 2 = .pointer (some ⟨h.length, 0, none⟩) ∧ e 3 = .pointer (some ⟨h2.length, 0, none⟩) ∧ e 26 = .int .i64 m.cl ∧ e 27 = .int .i64 (j : Nat) ∧
        ExF (XC X C) h3 h' ∧ Part h' X C u m vis vc c' cnt' ∧ Canon m.pm.n (Rch m.pm) (S2 m.pm t j) c' cnt') m.pm.cl
      ⟨0, cnt', c', Nat.zero_le _, rfl, e0, e2, e3, rfl, rfl, x4, P4, C4.congr (fun _ _ => Iff.rfl) fun p q _ _ _ _ => ⟨fun h => ⟨h, fun i hi => by omega⟩, fun h => h.1⟩⟩ ?_
    clear ih hmm e0 e2 e3 e17 e18 x4 P4 C4 q hi
    clear e mm I h4 c' cnt'
    rintro I mm e h4 ⟨j, cnt', c', hj, hmm, e0, e2, e3, e26, e27, x4, P4, C4⟩ ih
    rw [e26, e27, e0, e2, e3]
    refine w_lss (c_dec (fun q => ?_) (fun q => ?_))
    · have hj' : j < m.pm.cl := by omega
      refine n_var rfl rfl rfl fun h5 x5 l5 g5 => ?_
      have x45 := x4.trans (.ex x5)
      have nb : ¬ XC X C h4.length := nX _ (by have := x4.len; omega)
      refine split52' (b := fun p => if m.pm.of p = 0 then c.getD (m.pm.low p j) 0 else 0) (P4.ex x5) C4 hn60 (fun h' p K' y hp rp k' => cls59 v (rc h' (x45.trans y)) hcl (y.some g5 nb) hp hj' k') fun h6 c6 cnt6 x6 P6 C6 => ?_
      have x46 := x45.trans x6
      have r6 := rc h6 x46
      refine w_rdP r6.old rfl (w_len r6.oi ?_)
      have g6 : h6[h4.length]? = some (.row [.int .i64 (j : Nat)] true) := x6.some g5 nb
      refine loopE_intro (fun mm e' h' => ∃ (x cnt' : Nat) (c' : List Int), x ≤ m.pm.n ∧ mm = m.pm.n - x ∧ e' 0 = .pointer (some ⟨X, 0, none⟩) ∧ e' 2 = .pointer (some ⟨h.length, 0, none⟩) ∧ e' 3 = .pointer (some ⟨h2.length, 0, none⟩) ∧ e' 5 = .pointer (some ⟨h4.length, 0, none⟩) ∧ e' 26 = .int .i64 m.cl ∧ e' 27 = .int .i64 (j : Nat) ∧ e' 34 = .int .i64 (m.pm.n : Nat) ∧ e' 35 = .int .i64 (x : Nat) ∧
          ExF (XC X C) h6 h' ∧ Part h' X C u m vis vc c' cnt' ∧ Canon m.pm.n (Rch m.pm) (S3 m.pm t j x) c' cnt') m.pm.n
        ⟨0, cnt6, c6, Nat.zero_le _, rfl, e0, e2, e3, rfl, e26, e27, by rw [← hcl]; rfl, rfl, ExF.refl _ _, P6, C6.congr (fun _ _ => Iff.rfl) fun p q hp hq rp rq => ?_⟩ ?_
      · constructor
        · rintro ⟨h1, h2⟩
          have ho := FoldPM.E.of h1.E
          refine ⟨h1, fun h0 => ?_, fun x' hx' => by omega⟩
          rw [if_pos h0, if_pos (ho ▸ h0)] at h2
          exact (ev (.low rp h0 hj') (.low rq (ho ▸ h0) hj')).1 h2
        · rintro ⟨h1, h2, _⟩
          have ho := FoldPM.E.of h1.E
          refine ⟨h1, ?_⟩
          by_cases h0 : m.pm.of p = 0
          · rw [if_pos h0, if_pos (ho ▸ h0)]
            exact (ev (.low rp h0 hj') (.low rq (ho ▸ h0) hj')).2 (h2 h0)
          · rw [if_neg h0, if_neg (ho ▸ h0)]
      rintro I2 mm2 e' h7 ⟨x, cnt7, c7, hx, hmm2, f0, f2, f3, f5, f26, f27, f34, f35, x7, P7, C7⟩ ih2
      rw [f34, f35, f0, f2, f3, f5, f27]
      have x47 := x46.trans x7
      refine w_lss (c_dec (fun q2 => ?_) (fun q2 => ?_))
      · have hx' : x < m.pm.n := by omega
        refine n_var rfl rfl rfl fun h8 x8 l8 g8 => ?_
        have x48 := x47.trans (.ex x8)
        have r8 := rc h8 x48
        have nb7 : ¬ XC X C h7.length := nX _ (by have := x47.len; omega)
        have P8 := P7.ex x8
        have gj8 : h8[h4.length]? = some (.row [.int .i64 (j : Nat)] true) := x8.some (x7.some g6 nb)
        obtain ⟨y0, hy0⟩ := getElem?_of_lt (l := c) (i := x) (by omega)
        refine w_rdP r8.old rfl (w_rdP g8 rfl (w_idxN eI_len r8.oi hy0 fun z hz => w_rd1 hz rfl (w_lss (c_dec (fun q3 => ?_) (fun q3 => ?_)))))
        · have nr : ¬ Rch m.pm x := fun r => by
            obtain ⟨d, _, hd⟩ := Ca.re x hx' r
            rw [hy0] at hd
            cases hd
            omega
          refine w_add (by omega) (by omega) ?_
          refine ih2 (m.pm.n - (x + 1)) _ _ (by omega) ⟨x + 1, cnt7, c7, by omega, rfl, f0, f2, f3, f5, f26, f27, f34, rfl, x7.trans (.ex x8), P8, C7.congr (fun _ _ => Iff.rfl) fun p q hp hq rp rq => ?_⟩
          constructor
          · rintro ⟨h1, h2, h3⟩
            exact ⟨h1, h2, fun x' hx2 rx' => by
              by_cases e : x' = x
              · subst e; exact absurd rx' nr
              · exact h3 x' (by omega) rx'⟩
          · rintro ⟨h1, h2, h3⟩
            exact ⟨h1, h2, fun x' hx2 rx' => h3 x' (by omega) rx'⟩
        · have rx : Rch m.pm x := by
            by_cases r : Rch m.pm x
            · exact r
            · have := Ca.un x hx' r
              rw [hy0] at this
              cases this
              omega
          refine split52' (b := fun p => if m.pm.of p = 0 then 0 else c.getD (m.pm.ret p j x) 0) P8 C7 hn60 (fun h' p K' y hp rp k' => cls60 v (rc h' (x48.trans y)) hcl (y.some gj8 nb) (y.some g8 nb7) hp hj' hx' k') fun h9 c9 cnt9 x9 P9 C9 => ?_
          have x49 := x48.trans x9
          have r9 := rc h9 x49
          have g9 : h9[h7.length]? = some (.row [.int .i64 (x : Nat)] true) := x9.some g8 nb7
          have gj9 : h9[h4.length]? = some (.row [.int .i64 (j : Nat)] true) := x9.some gj8 nb
          have C9' : Canon m.pm.n (Rch m.pm) (fun p q => S3 m.pm t j x p q ∧ (m.pm.of p ≠ 0 → E m.pm t (m.pm.ret p j x) (m.pm.ret q j x))) c9 cnt9 := C9.congr (fun _ _ => Iff.rfl) fun p q hp hq rp rq => by
            refine and_congr_right fun h1 => ?_
            have ho := FoldPM.E.of h1.1.E
            by_cases h0 : m.pm.of p = 0
            · rw [if_pos h0, if_pos (ho ▸ h0)]
              exact ⟨fun _ h => absurd h0 h, fun _ => rfl⟩
            · rw [if_neg h0, if_neg (ho ▸ h0)]
              exact (ev (.ret rp rx h0 hj') (.ret rq rx (ho ▸ h0) hj')).trans ⟨fun h _ => h, fun h => h h0⟩
          refine w_offP (w_rdP r9.box (v := sv u.vo) rfl (w_rdP g9 rfl (w_idxN eI_len r9.mh.of (v.ofAt hx') fun z hz => w_rd1 hz rfl (w_neq (c_dec (fun q4 => ?_) (fun q4 => ?_))))))
          · refine split52' (b := fun p => c.getD (m.pm.ret x j p) 0) P9 C9' hn60 (fun h' p K' y hp rp k' => cls61 v (rc h' (x49.trans y)) hcl (y.some gj9 nb) (y.some g9 nb7) hp hj' hx' q4 k') fun h10 c10 cnt10 x10 P10 C10 => ?_
            refine w_add (by omega) (by omega) ?_
            refine ih2 (m.pm.n - (x + 1)) _ _ (by omega) ⟨x + 1, cnt10, c10, by omega, rfl, f0, f2, f3, f5, f26, f27, f34, rfl, ((x7.trans (.ex x8)).trans x9).trans x10, P10, C10.congr (fun _ _ => Iff.rfl) fun p q hp hq rp rq => ?_⟩
            rw [ev (.ret rx rp q4 hj') (.ret rx rq q4 hj')]
            constructor
            · rintro ⟨⟨⟨h1, h2, h3⟩, h4⟩, h5⟩
              exact ⟨h1, h2, fun x' hx2 rx' => by
                by_cases e : x' = x
                · subst e; exact ⟨h4, fun _ => h5⟩
                · exact h3 x' (by omega) rx'⟩
            · rintro ⟨h1, h2, h3⟩
              have := h3 x (by omega) rx
              exact ⟨⟨⟨h1, h2, fun x' hx2 rx' => h3 x' (by omega) rx'⟩, this.1⟩, this.2 q4⟩
          · refine w_add (by omega) (by omega) ?_
            refine ih2 (m.pm.n - (x + 1)) _ _ (by omega) ⟨x + 1, cnt9, c9, by omega, rfl, f0, f2, f3, f5, f26, f27, f34, rfl, (x7.trans (.ex x8)).trans x9, P9, C9'.congr (fun _ _ => Iff.rfl) fun p q hp hq rp rq => ?_⟩
            constructor
            · rintro ⟨⟨h1, h2, h3⟩, h4⟩
              exact ⟨h1, h2, fun x' hx2 rx' => by
                by_cases e : x' = x
                · subst e; exact ⟨h4, fun h => absurd h q4⟩
                · exact h3 x' (by omega) rx'⟩
            · rintro ⟨h1, h2, h3⟩
              have := h3 x (by omega) rx
              exact ⟨⟨h1, h2, fun x' hx2 rx' => h3 x' (by omega) rx'⟩, this.1⟩
      · have ex : x = m.pm.n := by omega
        subst ex
        refine w_add (by omega) (by omega) ?_
        exact ih (m.pm.cl - (j + 1)) _ _ (by omega) ⟨j + 1, cnt7, c7, by omega, rfl, f0, f2, f3, f26, rfl, x47, P7, C7.congr (fun _ _ => Iff.rfl) fun p q _ _ _ _ => S3.done ok⟩
    · have ej : j = m.pm.cl := by omega
      subst ej
      exact fin _ _ _ x4 P4 (C4.congr (fun _ _ => Iff.rfl) fun p q _ _ _ _ => S2.done)
end Go.Proofs.YtdlbiliolbdbmaaGreat.W
end

section
/- Top's laws, package fold: the code's classes. Conditions: none. -/
namespace Go.Proofs.YtdlbiliolbdbmaaGreat.W
open Go Go.AM FoldPM
set_option linter.unusedVariables false
set_option maxRecDepth 100000
theorem neqA0 (a b c d : Int) : pBin Tryz.prog .neq 198 (eArr (a, b)) (eArr (c, d)) = (sameScals [.int .i64 a, .int .i64 b] [.int .i64 c, .int .i64 d]).map fun b => .bool !b := by kernel_rfl
theorem w_neqA {x y : Int × Int} {K : Value → Prop} (k : K (.bool (decide (¬ x = y)))) : optW (pBin Tryz.prog .neq 198 (eArr x) (eArr y)) K := by
  obtain ⟨a, b⟩ := x
  obtain ⟨c, d⟩ := y
  refine w_some (v := .bool (decide (¬ (a, b) = (c, d)))) ?_ k
  rw [neqA0, same2]
  simp only [Option.map_some, Prod.mk.injEq, decide_not]
theorem up0_eq {n cnt cnt' : Nat} {R : Nat → Prop} {S S' : Nat → Nat → Prop} {c c' : List Int} (A : Canon n R S c cnt) (B : Canon n R S' c' cnt') : up0 c = up0 c' := by
  have e : c.map (fun x => decide (0 ≤ x)) = c'.map (fun x => decide (0 ≤ x)) := by
    apply List.ext_getElem?
    intro p
    rw [List.getElem?_map, List.getElem?_map]
    by_cases hp : p < n
    · by_cases hr : R p
      · obtain ⟨a, _, ha⟩ := A.re p hp hr
        obtain ⟨b, _, hb⟩ := B.re p hp hr
        rw [ha, hb]
        simp
      · rw [A.un p hp hr, B.un p hp hr]
    · rw [List.getElem?_eq_none (by have := A.len; omega), List.getElem?_eq_none (by have := B.len; omega)]
  have f : ∀ l : List Int, up0 l = (l.map (fun x => decide (0 ≤ x))).countP id := fun l => by
    unfold up0
    rw [List.countP_map]
    rfl
  rw [f, f, e]
theorem classes38 {h : AH} {u : MoV} {m : Mo} {K : Value → AH → Prop} (v : Valid m) (mh : MoH h u m)
    (k : ∀ h' X C vis vc c cnt, Ex h h' → h.length ≤ X → h.length ≤ C → C < h'.length → Part h' X C u m vis vc c cnt → Canon m.pm.n (Rch m.pm) (EE m.pm) c cnt → K (.pointer (some ⟨X, 0, none⟩)) h') : callW Tryz.prog 49 [.agg (moRow u m).toArray] h K := by
  have ok := v.ok
  have n2 := v.n2
  have hnn : m.pm.n = m.Of.length := rfl
  have hn60 : m.pm.n ≤ 60 := by omega
  refine c49 ?_
  unfold s49
  refine n_boxv rfl fun h1 x1 l1 g1 => ?_
  have g1' : h1[h.length]? = some (.row (moRow u m) true) := g1
  have xr := Ex.res h1
  have lr : (reserve 1 h1).length = h1.length + 1 := by rw [reserve_one]; simp
  have gd : (reserve 1 h1)[h1.length]? = some .dead := by rw [reserve_one]; exact get_new _ _
  refine w_rdPA (xr.some g1') (Nat.le_refl 8) (w_rdPA (xr.some g1') (Nat.le_refl 8) ?_)
  refine reached20 (mh.ex (x1.trans xr)) (fun nv => absurd v nv) fun _ h2 I bl x2 hI gI hbl hrch => ?_
  refine ⟨ptr_id (x2.get _ (by omega)), ?_⟩
  refine w_some (v := .agg (moRow u m ++ ([Value.slice (some ⟨I, 0, none⟩) m.pm.n m.pm.n, Value.slice none 0 0, Value.int .i64 0] : List Value)).toArray) rfl ?_
  refine ⟨rfl, n_slot ?_⟩
  have lt2 := lt_of_get (x2.some gd)
  have gX : (h2.set h1.length (.row (cellsL (.agg (moRow u m ++ ([Value.slice (some ⟨I, 0, none⟩) m.pm.n m.pm.n, Value.slice none 0 0, Value.int .i64 0] : List Value)).toArray)) true))[h1.length]? = some (.row (moRow u m ++ [.slice (some ⟨I, 0, none⟩) m.pm.n m.pm.n, .slice none 0 0, .int .i64 (0 : Nat)]) true) := get_set _ lt2 _
  have x13 : Ex h1 (h2.set h1.length (.row (cellsL (.agg (moRow u m ++ ([Value.slice (some ⟨I, 0, none⟩) m.pm.n m.pm.n, Value.slice none 0 0, Value.int .i64 0] : List Value)).toArray)) true)) := (xr.trans x2).set (Nat.le_refl _) _
  have gI3 : (h2.set h1.length (.row (cellsL (.agg (moRow u m ++ ([Value.slice (some ⟨I, 0, none⟩) m.pm.n m.pm.n, Value.slice none 0 0, Value.int .i64 0] : List Value)).toArray)) true))[I]? = some (.row (flat eBo bl) true) := (get_ne (by omega) _).trans gI
  generalize h2.set h1.length (.row (cellsL (.agg (moRow u m ++ ([Value.slice (some ⟨I, 0, none⟩) m.pm.n m.pm.n, Value.slice none 0 0, Value.int .i64 0] : List Value)).toArray)) true) = h3 at gX x13 gI3 ⊢
  have lX3 := lt_of_get gX
  have lI3 := lt_of_get gI3
  have isl : ∀ {h' : AH}, h'[I]? = some (.row (flat eBo bl) true) → SlT 1 eBo h' (.slice (some ⟨I, 0, none⟩) m.pm.n m.pm.n) bl := fun g => by
    have oc60 : (60 : Nat) < openCap := by decide
    refine ⟨by rw [flat_eBo_len]; omega, .inr ⟨I, 0, _, by rw [hbl], .inl ⟨by omega, by omega⟩, .inr ⟨_, _, g, by rw [flat_eBo_len]; omega, by rw [List.drop_zero, Nat.mul_one, ← flat_eBo_len, List.take_length]⟩⟩⟩
  refine w_nilc (w_offP (w_rdP gX (v := .slice (some ⟨I, 0, none⟩) m.pm.n m.pm.n) rfl (w_lenSl ?_)))
  refine loopE_intro (fun mm e h' => ∃ (i : Nat) (c : List Int) (vc : Value), i ≤ m.pm.n ∧ mm = m.pm.n - i ∧ e 1 = .pointer (some ⟨h.length, 0, none⟩) ∧ e 3 = .pointer (some ⟨h1.length, 0, none⟩) ∧ e 15 = .slice (some ⟨I, 0, none⟩) m.pm.n m.pm.n ∧ e 16 = .int .i64 (m.pm.n : Nat) ∧ e 17 = .int .i64 (i : Nat) ∧
      ExF (fun j => j = h1.length) h3 h' ∧ h'[h1.length]? = some (.row (moRow u m ++ [.slice (some ⟨I, 0, none⟩) m.pm.n m.pm.n, vc, .int .i64 (0 : Nat)]) true) ∧ OwnG 1 (fun j => h3.length ≤ j) h' vc i (flat eI c) ∧ c.length = i ∧ (∀ p, p < i → (Rch m.pm p → c[p]? = some 0) ∧ (¬ Rch m.pm p → c[p]? = some (-1)))) m.pm.n
    ⟨0, [], .slice none 0 0, Nat.zero_le _, rfl, rfl, rfl, rfl, rfl, rfl, ExF.refl _ _, gX, OwnG.nil _ _ _, rfl, fun p hp => by omega⟩ ?_
  rintro J mm e h4 ⟨i, c, vc, hi, hmm, e1, e3, e15, e16, e17, x4, gX4, oc, hc, hall⟩ ih
  rw [e15, e16, e17, e3, e1]
  have gI4 := x4.some gI3 (by omega)
  refine w_lss (c_dec (fun q => ?_) (fun q => ?_))
  · obtain ⟨b, hb⟩ := getElem?_of_lt (l := bl) (i := i) (by omega)
    refine w_idxN eBo_len (isl gI4) hb fun z hz => w_rd1 hz rfl ?_
    refine w_nilc (w_offP (w_rdP gX4 (v := vc) rfl (bldT rfl (by decide) rfl rfl ?_)))
    refine n_newv fun h5 x5 l5 g5 => ?_
    have oc5 := oc.mono (F' := fun j => h3.length ≤ j) (h' := h5) (fun _ _ h => h) fun j hj _ => x5.get j (oc.on hj).2
    refine appSl_of (app_g (by decide) oc5 (srcL_new (n := 1) (s := 1) g5 (by decide) rfl) rfl (by have := bigR; omega) fun v' h6 a1 a2 a3 a4 => ?_)
    have nX : ¬ onId vc h1.length := fun hh => by have := (oc.on hh).1; omega
    have gX6 : h6[h1.length]? = some (.row (moRow u m ++ [.slice (some ⟨I, 0, none⟩) m.pm.n m.pm.n, vc, .int .i64 (0 : Nat)]) true) := (a3 _ (by have := x4.len; have := x5.len; omega) nX).trans (x5.some gX4)
    obtain ⟨av, nv, cv, rfl⟩ := Sl.isSl a1.sl
    refine w_nilc (w_offP (w_stP gX6 (by show 0 + 9 < 11; omega) rfl rfl ?_))
    have lX6 := lt_of_get gX6
    have gX7 : (h6.set h1.length (.row ((moRow u m ++ [.slice (some ⟨I, 0, none⟩) m.pm.n m.pm.n, vc, .int .i64 (0 : Nat)]).set (0 + 9) (.slice av nv cv)) true))[h1.length]? = some (.row (moRow u m ++ [.slice (some ⟨I, 0, none⟩) m.pm.n m.pm.n, .slice av nv cv, .int .i64 (0 : Nat)]) true) := get_set _ lX6 _
    have x47 : ExF (fun j => j = h1.length) h3 (h6.set h1.length (.row ((moRow u m ++ [.slice (some ⟨I, 0, none⟩) m.pm.n m.pm.n, vc, .int .i64 (0 : Nat)]).set (0 + 9) (.slice av nv cv)) true)) := by
      refine ExF.set (F := fun j => j = h1.length) (a := h3) (b := h6) ⟨by have := x4.len; have := x5.len; omega, fun j hj hf => ?_⟩ rfl _
      rw [a3 j (by have := x4.len; have := x5.len; omega) fun hh => by have := (oc.on hh).1; omega, x5.get j (by have := x4.len; omega)]
      exact x4.get j hj hf
    have oc7 : OwnG 1 (fun j => h3.length ≤ j) (h6.set h1.length (.row ((moRow u m ++ [.slice (some ⟨I, 0, none⟩) m.pm.n m.pm.n, vc, .int .i64 (0 : Nat)]).set (0 + 9) (.slice av nv cv)) true)) (.slice av nv cv) (i + 1) (flat eI (c ++ [-1])) := by
      rw [flat_append]
      exact OwnG.mono a1 (fun j _ hj => hj.elim id fun e => by have := x4.len; have := x5.len; show h3.length ≤ j; omega) fun j hj hf => get_ne (by
        intro e
        subst e
        rcases hf with hf | hf
        · have : h3.length ≤ h1.length := hf
          omega
        · have := x4.len; have := x5.len; omega) _
    generalize h6.set h1.length (.row ((moRow u m ++ [.slice (some ⟨I, 0, none⟩) m.pm.n m.pm.n, vc, .int .i64 (0 : Nat)]).set (0 + 9) (.slice av nv cv)) true) = h7 at gX7 x47 oc7 ⊢
    have hlast : (c ++ [-1])[i]? = some (-1) := by rw [← hc]; simp
    have next : ∀ (e' : Env) (h' : AH) (c' : List Int), e' 1 = .pointer (some ⟨h.length, 0, none⟩) → e' 3 = .pointer (some ⟨h1.length, 0, none⟩) → e' 15 = .slice (some ⟨I, 0, none⟩) m.pm.n m.pm.n → e' 16 = .int .i64 (m.pm.n : Nat) → e' 17 = .int .i64 ((i : Int) + 1) →
        ExF (fun j => j = h1.length) h3 h' → h'[h1.length]? = some (.row (moRow u m ++ [.slice (some ⟨I, 0, none⟩) m.pm.n m.pm.n, .slice av nv cv, .int .i64 (0 : Nat)]) true) → OwnG 1 (fun j => h3.length ≤ j) h' (.slice av nv cv) (i + 1) (flat eI c') → c'.length = i + 1 → (∀ p, p < i → c'[p]? = c[p]?) → ((Rch m.pm i → c'[i]? = some 0) ∧ (¬ Rch m.pm i → c'[i]? = some (-1))) → J e' h' :=
      fun e' h' c' t1 t3 t15 t16 t17 y gy oy ly hy1 hy2 => ih (m.pm.n - (i + 1)) _ _ (by omega) ⟨i + 1, c', _, by omega, rfl, t1, t3, t15, t16, t17, y, gy, oy, ly, fun p hp => by
        by_cases ep : p = i
        · subst ep; exact hy2
        · rw [hy1 p (by omega)]; exact hall p (by omega)⟩
    have old : ∀ p, p < i → (c ++ [-1])[p]? = c[p]? := fun p hp => List.getElem?_append_left (by omega)
    cases b with
    | true =>
      have ri : Rch m.pm i := (hrch i).1 hb
      refine c_t (w_nilc (w_offP (w_rdP gX7 (v := .slice av nv cv) rfl (w_nilc (w_offP (w_rdP gX7 (v := .slice av nv cv) rfl ?_))))))
      refine w_len oc7.sl (w_sub (by omega) (by omega) ?_)
      have e5 : (((i + 1 : Nat) : Int)) - 1 = ((i : Nat) : Int) := by omega
      rw [e5]
      refine w_stG (K := fun v41 h_8 => optW (pBin Tryz.prog .add 3 (.int .i64 (i : Nat)) (.int .i64 1)) fun v42 => J _ h_8) oc7 (by omega) rfl rfl fun q8 h8 s1 s2 s3 => ?_
      refine w_add (by omega) (by omega) ?_
      rw [flat_eI_set] at s1
      refine next _ _ _ e1 e3 e15 e16 rfl ⟨by rw [s2]; exact x47.len, fun j hj hf => (s3 j fun hh => by have := (oc7.on hh).1; omega).trans (x47.get j hj hf)⟩ ((s3 _ fun hh => by have := (oc7.on hh).1; omega).trans gX7) s1 (by rw [List.length_set, List.length_append, hc]; rfl) (fun p hp => by rw [List.getElem?_set_ne (by omega)]; exact old p hp) ⟨fun _ => by rw [List.getElem?_set_self (by rw [List.length_append, hc]; simp)], fun h => absurd ri h⟩
    | false =>
      have nri : ¬ Rch m.pm i := fun r => by rw [(hrch i).2 r] at hb; cases hb
      refine c_f (w_add (by omega) (by omega) ?_)
      exact next _ _ _ e1 e3 e15 e16 rfl x47 gX7 oc7 (by rw [List.length_append, hc]; rfl) old ⟨fun h => absurd h nri, fun _ => hlast⟩
  · have ei : i = m.pm.n := by omega
    subst ei
    obtain ⟨C, hC, hP⟩ : ∃ C, h3.length ≤ C ∧ OwnG 1 (fun j => j = C) h4 vc c.length (flat eI c) := by
      obtain ⟨hl, ⟨_, h0⟩ | ⟨id, cc, hid, hv, hg⟩⟩ := oc
      · have := ok.n1; omega
      · exact ⟨id, hid, by rw [hc]; exact hl, .inr ⟨id, cc, rfl, by rw [hc]; exact hv, by rw [hc]; exact hg⟩⟩
    have lC4 : C < h4.length := by
      have hon : onId vc C := by
        obtain ⟨_, ⟨_, h0⟩ | ⟨id, cc, hid, hv, hg⟩⟩ := hP
        · have := ok.n1; omega
        · have : id = C := hid
          subst this
          rw [hv]; exact rfl
      exact (hP.on hon).2
    have P4 : Part h4 h1.length C u m (.slice (some ⟨I, 0, none⟩) m.pm.n m.pm.n) vc c 0 := ⟨gX4, hP, by omega⟩
    have C4 : Canon m.pm.n (Rch m.pm) (fun _ _ => True) c 1 := by
      refine ⟨hc, fun p hp h => (hall p hp).2 h, fun p hp h => ⟨0, by omega, (hall p hp).1 h⟩, fun p q hp hq rp rq => ⟨fun _ => trivial, fun _ => by rw [(hall p hp).1 rp, (hall q hq).1 rq]⟩, fun p d hp h e he => ?_, fun d hd => ?_⟩
      · by_cases rp : Rch m.pm p
        · rw [(hall p hp).1 rp] at h
          injection h with h
          omega
        · rw [(hall p hp).2 rp] at h
          injection h with h
          omega
      · have := ok.en 0 ok.k1
        exact ⟨m.pm.en 0, this.1, by rw [(hall _ this.1).1 (.en ok.k1)]; congr 1; omega⟩
    have x14 : Ex h1 h4 := ExF.base x13 x4 fun j hj => by omega
    have x04 := x1.trans x14
    have gb4 : h4[h.length]? = some (.row (moRow u m) true) := x14.some g1'
    have nb : ¬ XC h1.length C h.length := fun hf => by rcases hf with hf | hf <;> omega
    have hF : ∀ j, XC h1.length C j → h.length ≤ j := fun j hj => by rcases hj with rfl | rfl <;> omega
    refine split52' (b := fun p => m.pm.of p) P4 C4 hn60 (fun h' p K' y hp rp k' => cls53 v (y.some gb4 nb) (mh.ex (ExF.base x04 y hF)) hp k') fun h5 c5 cnt5 x5 P5 C5 => ?_
    refine split52' (b := fun p => if m.pm.fi p = true then 1 else 0) P5 C5 hn60 (fun h' p K' y hp rp k' => cls54 v (y.some (x5.some gb4 nb) nb) (mh.ex (ExF.base x04 (x5.trans y) hF)) hp k') fun h6 c6 cnt6 x6 P6 C6 => ?_
    have C6' : Canon m.pm.n (Rch m.pm) (E m.pm 0) c6 cnt6 := C6.congr (fun _ _ => Iff.rfl) fun p q _ _ _ _ => by
      constructor
      · rintro ⟨⟨_, h1⟩, h2⟩
        refine ⟨h1, ?_⟩
        cases hp : m.pm.fi p <;> cases hq : m.pm.fi q <;> simp_all
      · rintro ⟨h1, h2⟩
        exact ⟨⟨trivial, h1⟩, by rw [h2]⟩
    have x46 := x5.trans x6
    refine w_some (v := eArr (0, 0)) rfl ?_
    refine n_var rfl rfl rfl fun h7 x7 l7 g7 => ?_
    have x47 := x46.trans (.ex x7)
    have l46 := x46.len
    refine loopE_intro (fun mm e' h' => ∃ (t w1 w2 W cnt : Nat) (c : List Int), mm = m.pm.n + 2 - w1 ∧ e' 3 = .pointer (some ⟨h1.length, 0, none⟩) ∧ e' 6 = .pointer (some ⟨W, 0, none⟩) ∧ h4.length ≤ W ∧ h'[W]? = some (.row [.int .i64 (w1 : Nat), .int .i64 (w2 : Nat)] true) ∧
        ExF (XC h1.length C) h4 h' ∧ Part h' h1.length C u m (.slice (some ⟨I, 0, none⟩) m.pm.n m.pm.n) vc c cnt ∧ Canon m.pm.n (Rch m.pm) (E m.pm t) c cnt ∧ (w1 = 0 ∨ ∃ t' c', t = t' + 1 ∧ Canon m.pm.n (Rch m.pm) (E m.pm t') c' w1 ∧ w2 = up0 c')) (m.pm.n + 2)
      ⟨0, 0, 0, h6.length, cnt6, c6, rfl, e3, rfl, l46, g7, x47, P6.ex x7, C6', .inl rfl⟩ ?_
    clear ih hmm e1 e3 e15 e16 e17 q
    clear e mm J
    rintro J mm e h8 ⟨t, w1, w2, W, cnt, c8, hmm, e3, e6, hW, gW, x8, P8, C8, hw⟩ ih
    rw [e3, e6]
    have hc8 := C8.len
    have c1 : 1 ≤ cnt := by
      obtain ⟨d, hd, _⟩ := C8.re (m.pm.en 0) (ok.en 0 ok.k1).1 (.en ok.k1)
      omega
    have cn := C8.le
    refine w_rdPA gW (Nat.le_refl 2) ?_
    refine size55 P8 (by omega) fun h9 x9 => ?_
    refine ⟨ptr_id (x9.get _ (lt_of_get gW)), ?_⟩
    show optW (pBin Tryz.prog .neq 198 (eArr ((w1 : Nat), (w2 : Nat))) (eArr ((cnt : Nat), (up0 c8 : Nat)))) _
    refine w_neqA (c_dec (fun q => ?_) (fun q => ?_))
    · have lt : w1 < cnt := by
        rcases hw with h0 | ⟨t', c', et, C', ew⟩
        · omega
        · subst et
          have := (C'.mono C8 fun p q _ _ _ _ h => h.1).1
          have eu := up0_eq C' C8
          by_cases e : w1 = cnt
          · exact absurd (by rw [e, ew, eu]) q
          · omega
      refine size55 (P8.ex x9) (by omega) fun h10 x10 => ?_
      have x810 := x9.trans x10
      refine w_stPA (x810.some gW) rfl (Nat.le_refl 2) rfl ?_
      have lW := lt_of_get (x810.some gW)
      have nW : ∀ j, XC h1.length C j → j ≠ W := fun j hj => by rcases hj with rfl | rfl <;> (have := x4.len; omega)
      have gW11 : (h10.set W (.row (spliceL [.int .i64 (w1 : Nat), .int .i64 (w2 : Nat)] 0 (cellsL (eArr ((cnt : Nat), (up0 c8 : Nat))))) true))[W]? = some (.row [.int .i64 (cnt : Nat), .int .i64 (up0 c8 : Nat)] true) := get_set _ lW _
      have x11 : ExF (XC h1.length C) h4 (h10.set W (.row (spliceL [.int .i64 (w1 : Nat), .int .i64 (w2 : Nat)] 0 (cellsL (eArr ((cnt : Nat), (up0 c8 : Nat))))) true)) := ExF.new (x8.trans (.ex x810)) hW _
      have P11 : Part (h10.set W (.row (spliceL [.int .i64 (w1 : Nat), .int .i64 (w2 : Nat)] 0 (cellsL (eArr ((cnt : Nat), (up0 c8 : Nat))))) true)) h1.length C u m (.slice (some ⟨I, 0, none⟩) m.pm.n m.pm.n) vc c8 cnt := by
        have P10 := P8.ex x810
        exact ⟨(get_ne (Ne.symm (nW _ (.inl rfl))) _).trans P10.row, P10.cls.mono (fun _ _ h => h) fun j hj hf => get_ne (Ne.symm (nW j (.inr hf))) _, P10.ne⟩
      generalize h10.set W (.row (spliceL [.int .i64 (w1 : Nat), .int .i64 (w2 : Nat)] 0 (cellsL (eArr ((cnt : Nat), (up0 c8 : Nat))))) true) = h11 at gW11 x11 P11 ⊢
      refine round56 v mh (ExF.base x04 x11 hF) (by omega) (by omega) (by have := x11.len; omega) P11 C8 fun h12 c12 cnt12 x12 P12 C12 => ?_
      have gW12 := x12.some gW11 fun hf => nW _ hf rfl
      refine w_rdPA gW12 (Nat.le_refl 2) ?_
      refine n_var rfl rfl rfl fun h13 x13' l13 g13 => ?_
      exact ih (m.pm.n + 2 - cnt) _ _ (by omega) ⟨t + 1, cnt, up0 c8, h12.length, cnt12, c12, rfl, e3, rfl, by have := x11.len; have := x12.len; omega, g13, (x11.trans x12).trans (.ex x13'), P12.ex x13', C12, .inr ⟨t, c8, rfl, C8, rfl⟩⟩
    · have q' := Decidable.not_not.1 q
      injection q' with q1 q2
      rcases hw with h0 | ⟨t', c', et, C', ew⟩
      · omega
      · subst et
        have e1 : w1 = cnt := by omega
        have st := (C'.mono C8 fun p q _ _ _ _ h => h.1).2 e1
        have stable : ∀ p q, Rch m.pm p → Rch m.pm q → E m.pm t' p q → E m.pm (t' + 1) p q := fun p q rp rq h => st p q (rp.lt ok) (rq.lt ok) rp rq h
        refine k h9 h1.length C _ vc c8 cnt ((ExF.base x04 x8 hF).trans x9) (by omega) (by omega) (by have := x8.len; have := x9.len; omega) (P8.ex x9) (C8.congr (fun _ _ => Iff.rfl) fun p q hp hq rp rq => ⟨fun h => EE.of_stable stable rp rq h.1, fun h => h _⟩)
theorem classes24 {h : AH} {u : MoV} {m : Mo} {K : Value → AH → Prop} (mh : MoH h u m) (kf : ¬ Valid m → ∀ h', Ex h h' → K (.slice none 0 0) h')
    (kt : Valid m → ∀ h' vc c cnt, Ex h h' → OwnG 1 (fun j => h.length ≤ j) h' vc c.length (flat eI c) → Canon m.pm.n (Rch m.pm) (EE m.pm) c cnt → K vc h') : callW Tryz.prog 20 [.agg (moRow u m).toArray] h K := by
  refine c20 ?_
  unfold s20
  refine n_boxv rfl fun h1 x1 l1 g1 => ?_
  have g1' : h1[h.length]? = some (.row (moRow u m) true) := g1
  refine w_rdPA g1' (Nat.le_refl 8) ?_
  refine check15 (mh.ex x1) (fun nv h2 x2 => w_neq (c_tt (by decide) (kf nv _ (x1.trans x2)))) fun v h2 x2 => w_neq (c_ff (by decide) ?_)
  refine w_rdPA (x2.some g1') (Nat.le_refl 8) ?_
  refine classes38 v (mh.ex (x1.trans x2)) fun h3 X C vis vc c cnt x3 hX hC lC P Ca => ?_
  refine w_nilc (w_offP (w_rdP P.row (v := vc) rfl ?_))
  exact kt v _ _ c cnt ((x1.trans x2).trans x3) (P.cls.mono (fun j _ hj => by have := x1.len; have := x2.len; have : j = C := hj; show h.length ≤ j; omega) fun _ _ _ => rfl) Ca
end Go.Proofs.YtdlbiliolbdbmaaGreat.W
end
