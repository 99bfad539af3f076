/- Parts of a proof, joined by a program. Conditions: none. -/
import Derived.Test.YtnpbehfhncbjfaaRB0
import Derived.Test.YtnpbehfhncbjfaaRS0

section
/- Fold's laws: the code's Check. Conditions: none. -/
namespace Go.Proofs.Ytnpbehfhncbjfaa.W
open Go Go.AM
set_option linter.unusedVariables false
set_option maxRecDepth 100000
def RowOK (m : Mo) (l : List Int) (long c : Int) : Prop := (l.length : Int) = long ∧ ∀ (k : Nat) (x : Int), l[k]? = some x → Mem m.Of m.Of.length c x
def RetOK (m : Mo) (r : List (List Int)) : Prop := (r.length : Int) = m.cl ∧ ∀ (j : Nat) (l : List Int), r[j]? = some l → l.length = m.Of.length ∧ ∀ (k : Nat) (x : Int), l[k]? = some x → ∃ c, m.Of[k]? = some c ∧ Mem m.Of m.Of.length c x
def InOK (m : Mo) (p : Nat) : Prop := ∀ (c : Int) (l : List Int), m.Of[p]? = some c → m.In[p]? = some l → RowOK m l m.pl c
def ClOK (m : Mo) (p : Nat) : Prop := ∀ (c : Int) (lo : List Int) (re : List (List Int)), m.Of[p]? = some c → m.Low[p]? = some lo → m.Ret[p]? = some re → (c = 0 → re.length = 0 ∧ RowOK m lo m.cl 0) ∧ (c ≠ 0 → lo.length = 0 ∧ RetOK m re)
structure Valid (m : Mo) : Prop where
  pl : 0 ≤ m.pl ∧ m.pl < 21
  cl : 0 ≤ m.cl ∧ m.cl < 21
  n1 : 1 ≤ (m.Of.length : Int)
  n2 : (m.Of.length : Int) ≤ 60
  k1 : 1 ≤ (m.En.length : Int)
  k2 : (m.En.length : Int) ≤ 21
  of : ∀ (k : Nat) (x : Int), m.Of[k]? = some x → 0 ≤ x ∧ x < (m.En.length : Int)
  en : ∀ (k : Nat) (x : Int), m.En[k]? = some x → Mem m.Of m.Of.length k x
  lf : m.Fi.length = m.Of.length
  li : m.In.length = m.Of.length
  ll : m.Low.length = m.Of.length
  lr : m.Ret.length = m.Of.length
  st : ∀ p, p < m.Of.length → InOK m p ∧ ClOK m p
theorem read_cons {b : Array Nat} {j k : Nat} {xs : List Nat} {hb ha : AH} {S : ST} {K : Prop} (h : ∀ x ∈ xs, hb[x]? = ha[x]?) (r : readC b j hb ha S K) : readC b j hb ha ((k, xs) :: S) K := by
  unfold readC
  split
  · exact ⟨h, r⟩
  · exact r
theorem hist_cons {b : Array Nat} {j k : Nat} {xs : List Nat} {hb ha : AH} {H : HT} {K : Prop} (h : ∀ x ∈ xs, hb[x]? = ha[x]?) (r : histC b j xs H K) : histC b j xs ((k, hb, ha) :: H) K := by
  unfold histC
  split
  · exact ⟨h, r⟩
  · exact r
theorem idxV {h : AH} {v : Value} {n : Nat} {vals : List Value} {i : Nat} {x : Value} {K : Value → Prop} (hv : Sl 1 h v n vals) (hx : vals[i]? = some x) (k : ∀ p, PtrTo h p [x] → K p) : optW (pIdxS 1 v (.int .i64 (i : Nat))) K := by
  have hl : vals.length = n := by have := hv.1; omega
  have hi := (List.getElem?_eq_some_iff.1 hx).1
  refine w_idx hv (by omega) (by omega) fun p hp => k p ?_
  have e : (vals.drop (((i : Nat) : Int).toNat * 1)).take 1 = [x] := by
    rw [Int.toNat_natCast, Nat.mul_one, List.drop_eq_getElem_cons hi]
    have := (List.getElem?_eq_some_iff.1 hx).2
    rw [this]
    rfl
  rw [e] at hp
  exact hp
theorem cls50 {h : AH} {b b5 : Nat} {u : MoV} {m : Mo} {w w' : Bool} {k : Nat} {x : Int} {K : Value → AH → Prop} (g : h[b]? = some (.row (moRow u m) w)) (g5 : h[b5]? = some (.row [.func (.func 48) #[] #[.pointer (some ⟨b, 0, none⟩)]] w')) (mh : MoH h u m)
    (kk : ∀ r h', Ex h h' → (r = true ↔ ∃ c, m.Of[k]? = some c ∧ Mem m.Of m.Of.length c x) → K (.bool r) h') : callV (callW Try.prog) (.func (.func 50) #[] #[.pointer (some ⟨b, 0, none⟩), .pointer (some ⟨b5, 0, none⟩)]) [.int .i64 (k : Nat), .int .i64 x] h K := by
  show callW Try.prog 50 [.int .i64 (k : Nat), .int .i64 x, .pointer (some ⟨b, 0, none⟩), .pointer (some ⟨b5, 0, none⟩)] h K
  refine c50 ?_
  unfold s50
  have of := mh.of
  refine w_offP (w_rdP g (v := sv u.vo) rfl (w_len of (w_lss ?_)))
  by_cases q : (k : Int) < ((m.Of.length : Nat) : Int)
  · obtain ⟨c, hc⟩ := getElem?_of_lt (l := m.Of) (i := k) (by omega)
    refine gd_tt q (w_rdP g5 rfl (gd_tt q (w_offP (gd_tt q (hist_nil (w_rdP g (v := sv u.vo) rfl (gd_tt q (gd_tt q (w_idxN eI_len of hc fun z hz => gd_tt q (hist_nil (w_rd1 hz rfl (gd_tt q ?_))))))))))))
    refine cls48 fun h1 x1 g1 => ?_
    refine read_cons (hz.ids (Ex.refl _) x1) (read_cons (idrow g (x1.some g)) (read_cons (idrow g5 (x1.some g5)) (read_cons (idrow g (x1.some g)) (read_nil ?_))))
    refine gd_tt q (gd_tt q (gd_tt q ?_))
    refine cls49 (x1.some g) g1 (mh.ex x1) fun r hr => read_same ?_
    refine pk_tt q (kk r h1 x1 ⟨fun h => ⟨c, hc, hr.1 h⟩, fun ⟨d, hd, hm⟩ => ?_⟩)
    rw [hc] at hd
    cases hd
    exact hr.2 hm
  · refine gd_tf q (gd_tf q (gd_tf q (gd_tf q (gd_tf q (gd_tf q (gd_tf q (gd_tf q (gd_tf q (gd_tf q (pk_ff q ?_))))))))))
    refine kk _ h (Ex.refl _) ⟨fun h => (by cases h), fun ⟨d, hd, hm⟩ => ?_⟩
    have := (List.getElem?_eq_some_iff.1 hd).1
    exact absurd (by omega) q
theorem closings36 {h : AH} {u : MoV} {m : Mo} {p : Nat} {c : Int} {lo : List Int} {re : List (List Int)} {K : Value → AH → Prop} (mh : MoH h u m) (hc : m.Of[p]? = some c) (hlo : m.Low[p]? = some lo) (hre : m.Ret[p]? = some re)
    (kk : ∀ r h', Ex h h' → (r = true ↔ ClOK m p) → K (.bool r) h') : callW Try.prog 36 [.agg (moRow u m).toArray, .int .i64 (p : Nat)] h K := by
  refine c36 ?_
  unfold s36
  refine n_boxv rfl fun h1 x1 l1 g1 => n_rowv fun h2 x2 l2 g2 => w_stP g2 (Nat.zero_lt_one) rfl rfl ?_
  have lt2 := lt_of_get g2
  have x3 : Ex h1 (h2.set h1.length (.row ([Value.nilFunc].set 0 (.func (.func 48) #[] #[.pointer (some ⟨h.length, 0, none⟩)])) true)) := x2.set (Nat.le_refl _) _
  have g5 : (h2.set h1.length (.row ([Value.nilFunc].set 0 (.func (.func 48) #[] #[.pointer (some ⟨h.length, 0, none⟩)])) true))[h1.length]? = some (.row [.func (.func 48) #[] #[.pointer (some ⟨h.length, 0, none⟩)]] true) := get_set _ lt2 _
  generalize hH : h2.set h1.length _ = h3
  have e3 : h2.set h1.length (.row ([Value.nilFunc].set 0 (.func (.func 48) #[] #[.pointer (some ⟨h.length, 0, none⟩)])) true) = h3 := hH
  rw [e3] at x3 g5
  clear hH e3
  have x03 : Ex h h3 := x1.trans x3
  have g : h3[h.length]? = some (.row (moRow u m) true) := x3.some g1
  have m3 := mh.ex x03
  have of := m3.of
  have hclok : ∀ r : Bool, (r = true ↔ (c = 0 → re.length = 0 ∧ RowOK m lo m.cl 0) ∧ (c ≠ 0 → lo.length = 0 ∧ RetOK m re)) → (r = true ↔ ClOK m p) := fun r hr => hr.trans ⟨fun h c' lo' re' h1 h2 h3 => by
    rw [hc] at h1; rw [hlo] at h2; rw [hre] at h3
    cases h1; cases h2; cases h3
    exact h, fun h => h c lo re hc hlo hre⟩
  obtain ⟨lv, lv1, lv2⟩ := m3.low
  obtain ⟨wl, wl1, wl2⟩ := lv2 p lo hlo
  obtain ⟨rv, rv1, rv2⟩ := m3.ret
  obtain ⟨wr, wr1, wr2⟩ := rv2 p re hre
  obtain ⟨rrv, rrv1, rrv2⟩ := wr2
  have szl := m3.szL lo (List.mem_of_getElem? hlo)
  have szr := m3.szR re (List.mem_of_getElem? hre)
  refine w_offP (w_rdP g (v := sv u.vo) rfl (w_idxN eI_len of hc fun z hz => w_rd1 hz rfl (w_eql (c_dec (fun qc => ?_) (fun qc => ?_)))))
  · refine w_offP (w_rdP g (v := sv u.vr) rfl (idxV rv1 wr1 fun z1 hz1 => w_rd1 hz1 rfl (w_len rrv1 (w_eql ?_))))
    by_cases q : ((re.length : Nat) : Int) = 0
    · refine gd_tt q (w_offP (gd_tt q (hist_nil (w_rdP g (v := sv u.vl) rfl (gd_tt q (gd_tt q (idxV lv1 wl1 fun z2 hz2 => gd_tt q (hist_nil (w_rd1 hz2 rfl ?_)))))))))
      refine gd_tt q (w_offP (gd_tt q (hist_nil (w_rdP g (v := .int .i64 m.cl) rfl (gd_tt q (hist_nil (w_rdP g5 rfl (gd_tt q ?_))))))))
      refine cls48 fun h4 x4 g4 => ?_
      refine read_cons (idrow g5 (x4.some g5)) (read_cons (idrow g (x4.some g)) (read_cons (hz2.ids (Ex.refl _) x4) (read_cons (idrow g (x4.some g)) (read_cons (hz1.ids (Ex.refl _) x4) (read_cons (idrow g (x4.some g)) (read_nil ?_))))))
      refine gd_tt q ?_
      refine row32 (R := fun a b => a = b) (may := fun _ x => Mem m.Of m.Of.length 0 x) (fun _ => rfl) (fun a b => a.trans b) (fun e => e ▸ Ex.refl _) (Sl.ex wl2 x4) szl (fun k x hc' K' hk hh k' => ?_) fun r h5 hr5 hr => ?_
      · subst hh
        exact cls49 (x4.some g) g4 (m3.ex x4) fun r hr => k' r _ rfl hr
      · subst hr5
        refine read_same (pk_tt q ?_)
        refine kk r h4 (x03.trans x4) (hclok r (hr.trans ⟨fun h => ⟨fun _ => ⟨by omega, h.1, h.2⟩, fun hn => absurd qc hn⟩, fun h => (h.1 qc).2⟩))
    · refine gd_tf q (gd_tf q (gd_tf q (gd_tf q (gd_tf q (gd_tf q (gd_tf q (gd_tf q (gd_tf q (gd_tf q (pk_ff q ?_))))))))))
      exact kk _ h3 x03 (hclok _ ⟨fun h => (by cases h), fun h => absurd (h.1 qc).1 (by omega)⟩)
  · refine w_offP (w_rdP g (v := sv u.vl) rfl (idxV lv1 wl1 fun z1 hz1 => w_rd1 hz1 rfl (w_len wl2 (w_neq ?_))))
    by_cases q : ¬ ((lo.length : Nat) : Int) = 0
    · refine gd_ft q (gd_ft q (gd_ft q (gd_ft q (gd_ft q (gd_ft q (gd_ft q (gd_ft q (gd_ft q (pk_tt q (c_t ?_))))))))))
      exact kk _ h3 x03 (hclok _ ⟨fun h => (by cases h), fun h => absurd (h.2 qc).1 (by omega)⟩)
    · refine gd_ff q (w_offP (gd_ff q (hist_nil (w_rdP g (v := sv u.vr) rfl (gd_ff q (gd_ff q (idxV rv1 wr1 fun z2 hz2 => gd_ff q (hist_nil (w_rd1 hz2 rfl ?_)))))))))
      refine gd_ff q (w_len rrv1 (gd_ff q (w_offP (gd_ff q (hist_nil (w_rdP g (v := .int .i64 m.cl) rfl (gd_ff q (w_neq (pk_ff q ?_)))))))))
      refine c_dec (fun q2 => ?_) (fun q2 => ?_)
      · exact kk _ h3 x03 (hclok _ ⟨fun h => (by cases h), fun h => absurd (h.2 qc).2.1 q2⟩)
      refine w_offP (w_rdP g (v := sv u.vr) rfl (idxV rv1 wr1 fun z3 hz3 => w_rd1 hz3 rfl (w_len rrv1 ?_)))
      refine loopE_intro (fun mm e h' => ∃ j : Nat, j ≤ re.length ∧ mm = re.length - j ∧ e 2 = .pointer (some ⟨h.length, 0, none⟩) ∧ e 5 = .pointer (some ⟨h1.length, 0, none⟩) ∧ e 56 = wr ∧ e 57 = .int .i64 (re.length : Nat) ∧ e 58 = .int .i64 (j : Nat) ∧ Ex h3 h' ∧ ∀ (a : Nat) (l : List Int), a < j → re[a]? = some l → l.length = m.Of.length ∧ ∀ (k : Nat) (x : Int), l[k]? = some x → ∃ c, m.Of[k]? = some c ∧ Mem m.Of m.Of.length c x) re.length
        ⟨0, Nat.zero_le _, rfl, rfl, rfl, rfl, rfl, rfl, Ex.refl _, fun a l ha => by omega⟩ ?_
      rintro I mm e h4 ⟨j, hj, hmm, e2, e5, e56, e57, e58, x4, hall⟩ ih
      rw [e2, e5, e56, e57, e58]
      refine w_lss (c_dec (fun q3 => ?_) (fun q3 => ?_))
      · obtain ⟨l, hl⟩ := getElem?_of_lt (l := re) (i := j) (by omega)
        obtain ⟨wj, wj1, wj2⟩ := rrv2 j l hl
        refine idxV (rrv1.ex x4) wj1 fun z4 hz4 => w_rd1 hz4 rfl (w_offP (w_rdP (x4.some g) (v := sv u.vo) rfl (w_len (Sl.ex of x4) ?_)))
        refine row32 (R := Ex) (may := fun k x => ∃ c, m.Of[k]? = some c ∧ Mem m.Of m.Of.length c x) Ex.refl (fun a b => a.trans b) (fun e => e) (Sl.ex wj2 x4) (szr.2 l (List.mem_of_getElem? hl)) (fun k x hd K' hk hh k' => ?_) fun r h5 hr5 hr => ?_
        · exact cls50 ((x4.trans hh).some g) ((x4.trans hh).some g5) (m3.ex (x4.trans hh)) fun r h6 x6 hr => k' r h6 x6 hr
        · cases r with
          | true =>
            refine w_notb (c_f (w_add (by omega) (by omega) ?_))
            refine ih (re.length - (j + 1)) _ _ (by omega) ⟨j + 1, by omega, rfl, e2, e5, e56, e57, rfl, x4.trans hr5, fun a l' ha hl' => ?_⟩
            by_cases ea : a = j
            · subst ea
              rw [hl] at hl'
              cases hl'
              have := hr.1 rfl
              exact ⟨by omega, this.2⟩
            · exact hall a l' (by omega) hl'
          | false =>
            refine w_notb (c_t ?_)
            refine kk _ h5 ((x03.trans x4).trans hr5) (hclok _ ⟨fun h => (by cases h), fun h => ?_⟩)
            have := (h.2 qc).2.2 j l hl
            have := hr.2 ⟨by omega, this.2⟩
            cases this
      · refine kk _ h4 (x03.trans x4) (hclok _ ⟨fun _ => ⟨fun h => absurd h qc, fun _ => ⟨by omega, by omega, fun a l hl => hall a l (by have := (List.getElem?_eq_some_iff.1 hl).1; omega) hl⟩⟩, fun _ => rfl⟩)
theorem check15 {h : AH} {u : MoV} {m : Mo} {K : Value → AH → Prop} (mh : MoH h u m) (kf : ¬ Valid m → ∀ h', Ex h h' → K (.int .i64 11) h') (kt : Valid m → ∀ h', Ex h h' → K (.int .i64 0) h') : callW Try.prog 15 [.agg (moRow u m).toArray] h K := by
  have szO := mh.szO
  have szE := mh.szE
  refine c15 ?_
  unfold s15
  refine n_boxv rfl fun h1 x1 l1 g1 => ?_
  have g1' : h1[h.length]? = some (.row (moRow u m) true) := g1
  refine w_offP (w_rdP g1' (v := sv u.vo) rfl (w_len (Sl.ex mh.of x1) ?_))
  refine n_rowv fun h2 x2 l2 g2 => w_stP g2 (Nat.zero_lt_one) rfl rfl ?_
  have lt2 := lt_of_get g2
  have x3 : Ex h1 (h2.set h1.length (.row ([Value.int .i64 0].set 0 (.int .i64 (m.Of.length : Nat))) true)) := x2.set (Nat.le_refl _) _
  have gn : (h2.set h1.length (.row ([Value.int .i64 0].set 0 (.int .i64 (m.Of.length : Nat))) true))[h1.length]? = some (.row [.int .i64 (m.Of.length : Nat)] true) := get_set _ lt2 _
  generalize hH : h2.set h1.length _ = h3
  have e3 : h2.set h1.length (.row ([Value.int .i64 0].set 0 (.int .i64 (m.Of.length : Nat))) true) = h3 := hH
  rw [e3] at x3 gn
  clear hH e3
  have x03 : Ex h h3 := x1.trans x3
  have g : h3[h.length]? = some (.row (moRow u m) true) := x3.some g1
  have m3 := mh.ex x03
  have of := m3.of
  have en := m3.en
  refine w_offP (w_rdP g (v := .int .i64 m.pl) rfl (within31 ?_))
  by_cases q : 0 ≤ m.pl ∧ m.pl < 21
  case neg =>
    refine g_tf q (g_tf q (g_tf q (pk_ff q (gc_tf (gc_tf (pk_f (gc_tf (gc_tf (pk_f (gc_tf (gc_tf (gc_tf (gc_tf (pk_f (gc_tf (gc_tf (gc_tf (gc_tf (pk_f (gc_tf (gc_tf (gc_tf (gc_tf (gc_tf (pk_f (gc_tf (gc_tf (gc_tf (gc_tf (gc_tf (gc_tf (gc_tf (pk_f (w_notb (gc_ft (gc_ft (gc_ft (gc_ft (gc_ft (pk_t (gc_ft (gc_ft (gc_ft (gc_ft (gc_ft (pk_t (gc_ft (gc_ft (gc_ft (gc_ft (gc_ft (pk_t (gc_ft (gc_ft (gc_ft (gc_ft (gc_ft (pk_t (c_t (?_))))))))))))))))))))))))))))))))))))))))))))))))))))))))))))
    exact kf (fun v => q v.pl) _ x03
  have vpl := q
  refine g_tt q (w_offP (g_tt q (w_rdP g (v := .int .i64 m.cl) rfl (g_tt q (within31 (pk_tt q ?_))))))
  clear q
  by_cases q : 0 ≤ m.cl ∧ m.cl < 21
  case neg =>
    refine g_tf q (g_tf q (pk_ff q (gc_tf (gc_tf (pk_f (gc_tf (gc_tf (gc_tf (gc_tf (pk_f (gc_tf (gc_tf (gc_tf (gc_tf (pk_f (gc_tf (gc_tf (gc_tf (gc_tf (gc_tf (pk_f (gc_tf (gc_tf (gc_tf (gc_tf (gc_tf (gc_tf (gc_tf (pk_f (w_notb (gc_ft (gc_ft (gc_ft (gc_ft (gc_ft (pk_t (gc_ft (gc_ft (gc_ft (gc_ft (gc_ft (pk_t (gc_ft (gc_ft (gc_ft (gc_ft (gc_ft (pk_t (gc_ft (gc_ft (gc_ft (gc_ft (gc_ft (pk_t (c_t (?_))))))))))))))))))))))))))))))))))))))))))))))))))))))))
    exact kf (fun v => q v.cl) _ x03
  have vcl := q
  refine g_tt q (w_rdP gn (v := .int .i64 (m.Of.length : Nat)) rfl (g_tt q (w_geq (pk_tt q ?_))))
  clear q
  by_cases q : 1 ≤ (m.Of.length : Int)
  case neg =>
    refine g_tf q (g_tf q (pk_ff q (gc_tf (gc_tf (gc_tf (gc_tf (pk_f (gc_tf (gc_tf (gc_tf (gc_tf (pk_f (gc_tf (gc_tf (gc_tf (gc_tf (gc_tf (pk_f (gc_tf (gc_tf (gc_tf (gc_tf (gc_tf (gc_tf (gc_tf (pk_f (w_notb (gc_ft (gc_ft (gc_ft (gc_ft (gc_ft (pk_t (gc_ft (gc_ft (gc_ft (gc_ft (gc_ft (pk_t (gc_ft (gc_ft (gc_ft (gc_ft (gc_ft (pk_t (gc_ft (gc_ft (gc_ft (gc_ft (gc_ft (pk_t (c_t (?_)))))))))))))))))))))))))))))))))))))))))))))))))))))
    exact kf (fun v => q v.n1) _ x03
  have vn1 := q
  refine g_tt q (w_rdP gn (v := .int .i64 (m.Of.length : Nat)) rfl (g_tt q (w_leq (pk_tt q ?_))))
  clear q
  by_cases q : (m.Of.length : Int) ≤ 60
  case neg =>
    refine g_tf q (g_tf q (g_tf q (g_tf q (pk_ff q (gc_tf (gc_tf (gc_tf (gc_tf (pk_f (gc_tf (gc_tf (gc_tf (gc_tf (gc_tf (pk_f (gc_tf (gc_tf (gc_tf (gc_tf (gc_tf (gc_tf (gc_tf (pk_f (w_notb (gc_ft (gc_ft (gc_ft (gc_ft (gc_ft (pk_t (gc_ft (gc_ft (gc_ft (gc_ft (gc_ft (pk_t (gc_ft (gc_ft (gc_ft (gc_ft (gc_ft (pk_t (gc_ft (gc_ft (gc_ft (gc_ft (gc_ft (pk_t (c_t (?_))))))))))))))))))))))))))))))))))))))))))))))))))
    exact kf (fun v => q v.n2) _ x03
  have vn2 := q
  refine g_tt q (w_offP (g_tt q (w_rdP g (v := sv u.ve) rfl (g_tt q (w_len en (g_tt q (w_geq (pk_tt q ?_))))))))
  clear q
  by_cases q : 1 ≤ (m.En.length : Int)
  case neg =>
    refine g_tf q (g_tf q (g_tf q (g_tf q (pk_ff q (gc_tf (gc_tf (gc_tf (gc_tf (gc_tf (pk_f (gc_tf (gc_tf (gc_tf (gc_tf (gc_tf (gc_tf (gc_tf (pk_f (w_notb (gc_ft (gc_ft (gc_ft (gc_ft (gc_ft (pk_t (gc_ft (gc_ft (gc_ft (gc_ft (gc_ft (pk_t (gc_ft (gc_ft (gc_ft (gc_ft (gc_ft (pk_t (gc_ft (gc_ft (gc_ft (gc_ft (gc_ft (pk_t (c_t (?_)))))))))))))))))))))))))))))))))))))))))))))
    exact kf (fun v => q v.k1) _ x03
  have vk1 := q
  refine g_tt q (w_offP (g_tt q (w_rdP g (v := sv u.ve) rfl (g_tt q (w_len en (g_tt q (w_leq (pk_tt q ?_))))))))
  clear q
  by_cases q : (m.En.length : Int) ≤ 21
  case neg =>
    refine g_tf q (g_tf q (g_tf q (g_tf q (g_tf q (pk_ff q (gc_tf (gc_tf (gc_tf (gc_tf (gc_tf (gc_tf (gc_tf (pk_f (w_notb (gc_ft (gc_ft (gc_ft (gc_ft (gc_ft (pk_t (gc_ft (gc_ft (gc_ft (gc_ft (gc_ft (pk_t (gc_ft (gc_ft (gc_ft (gc_ft (gc_ft (pk_t (gc_ft (gc_ft (gc_ft (gc_ft (gc_ft (pk_t (c_t (?_))))))))))))))))))))))))))))))))))))))))
    exact kf (fun v => q v.k2) _ x03
  have vk2 := q
  refine g_tt q (w_offP (g_tt q (w_rdP g (v := sv u.vo) rfl (g_tt q (w_rdP gn (v := .int .i64 (m.Of.length : Nat)) rfl (g_tt q (g_tt q ?_)))))))
  refine row32 (R := fun a b => a = b) (may := fun _ x => 0 ≤ x ∧ x < (m.En.length : Int)) (fun _ => rfl) (fun a b => a.trans b) (fun e => e ▸ Ex.refl _) of szO (fun k x hc K' hk hh k' => ?_) fun r h4 hr4 hr => ?_
  · subst hh
    exact cls33 g m3 fun r hr => k' r _ rfl hr
  subst hr4
  refine pk_tt q ?_
  clear q
  cases r with
  | false =>
    refine gc_tf (gc_tf (gc_tf (gc_tf (gc_tf (gc_tf (gc_tf (pk_f (w_notb (gc_ft (gc_ft (gc_ft (gc_ft (gc_ft (pk_t (gc_ft (gc_ft (gc_ft (gc_ft (gc_ft (pk_t (gc_ft (gc_ft (gc_ft (gc_ft (gc_ft (pk_t (gc_ft (gc_ft (gc_ft (gc_ft (gc_ft (pk_t (c_t (?_))))))))))))))))))))))))))))))))))
    exact kf (fun v => by have := hr.2 ⟨rfl, v.of⟩; cases this) _ x03
  | true =>
  have vof := (hr.1 rfl).2
  clear hr
  refine gc_tt (w_offP (gc_tt (w_rdP g (v := sv u.ve) rfl (gc_tt (w_offP (gc_tt (w_rdP g (v := sv u.ve) rfl (gc_tt (w_len en (gc_tt (gc_tt ?_)))))))))))
  refine row32 (R := fun a b => a = b) (may := fun k x => Mem m.Of m.Of.length k x) (fun _ => rfl) (fun a b => a.trans b) (fun e => e ▸ Ex.refl _) en szE (fun k x hc K' hk hh k' => ?_) fun r h4 hr4 hr => ?_
  · subst hh
    exact cls34 g gn m3 fun r hr => k' r _ rfl hr
  subst hr4
  refine pk_t ?_
  cases r with
  | false =>
    refine w_notb (gc_ft (gc_ft (gc_ft (gc_ft (gc_ft (pk_t (gc_ft (gc_ft (gc_ft (gc_ft (gc_ft (pk_t (gc_ft (gc_ft (gc_ft (gc_ft (gc_ft (pk_t (gc_ft (gc_ft (gc_ft (gc_ft (gc_ft (pk_t (c_t (?_))))))))))))))))))))))))))
    exact kf (fun v => by have := hr.2 ⟨rfl, v.en⟩; cases this) _ x03
  | true =>
  have ven := (hr.1 rfl).2
  clear hr
  obtain ⟨iv, iv1, iv2⟩ := m3.inn
  obtain ⟨lv, lv1, lv2⟩ := m3.low
  obtain ⟨rv, rv1, rv2⟩ := m3.ret
  refine w_notb (gc_ff (w_offP (gc_ff (w_rdP g (v := sv u.vf) rfl (gc_ff (w_len m3.fi (gc_ff (w_rdP gn (v := .int .i64 (m.Of.length : Nat)) rfl (gc_ff (w_neq (pk_f ?_)))))))))))
  by_cases q : ¬ (m.Fi.length : Int) = (m.Of.length : Nat)
  · refine g_ft q (g_ft q (g_ft q (g_ft q (g_ft q (pk_tt q (gc_ft (gc_ft (gc_ft (gc_ft (gc_ft (pk_t (gc_ft (gc_ft (gc_ft (gc_ft (gc_ft (pk_t (c_t (?_)))))))))))))))))))
    exact kf (fun v => q (by rw [v.lf])) _ x03
  have vlf := q
  refine g_ff q (w_offP (g_ff q (w_rdP g (v := sv u.vi) rfl (g_ff q (w_len iv1 (g_ff q (w_rdP gn (v := .int .i64 (m.Of.length : Nat)) rfl (g_ff q (w_neq (pk_ff q ?_))))))))))
  clear q
  by_cases q : ¬ (m.In.length : Int) = (m.Of.length : Nat)
  · refine g_ft q (g_ft q (g_ft q (g_ft q (g_ft q (pk_tt q (gc_ft (gc_ft (gc_ft (gc_ft (gc_ft (pk_t (c_t (?_)))))))))))))
    exact kf (fun v => q (by rw [v.li])) _ x03
  have vli := q
  refine g_ff q (w_offP (g_ff q (w_rdP g (v := sv u.vl) rfl (g_ff q (w_len lv1 (g_ff q (w_rdP gn (v := .int .i64 (m.Of.length : Nat)) rfl (g_ff q (w_neq (pk_ff q ?_))))))))))
  clear q
  by_cases q : ¬ (m.Low.length : Int) = (m.Of.length : Nat)
  · refine g_ft q (g_ft q (g_ft q (g_ft q (g_ft q (pk_tt q (c_t (?_)))))))
    exact kf (fun v => q (by rw [v.ll])) _ x03
  have vll := q
  refine g_ff q (w_offP (g_ff q (w_rdP g (v := sv u.vr) rfl (g_ff q (w_len rv1 (g_ff q (w_rdP gn (v := .int .i64 (m.Of.length : Nat)) rfl (g_ff q (w_neq (pk_ff q ?_))))))))))
  clear q
  refine c_dec (fun q => ?_) (fun q => ?_)
  · exact kf (fun v => q (by rw [v.lr])) _ x03
  have vlr := q
  refine w_rdP gn (v := .int .i64 (m.Of.length : Nat)) rfl ?_
  refine loopE_intro (fun mm e h' => ∃ p : Nat, p ≤ m.Of.length ∧ mm = m.Of.length - p ∧ e 1 = .pointer (some ⟨h.length, 0, none⟩) ∧ e 3 = .pointer (some ⟨h1.length, 0, none⟩) ∧ e 85 = .int .i64 (m.Of.length : Nat) ∧ e 86 = .int .i64 (p : Nat) ∧ Ex h3 h' ∧ ∀ a : Nat, a < p → InOK m a ∧ ClOK m a) m.Of.length
    ⟨0, Nat.zero_le _, rfl, rfl, rfl, rfl, rfl, Ex.refl _, fun a ha => by omega⟩ ?_
  rintro I mm e h4 ⟨p, hp, hmm, e1, e3, e85, e86, x4, hall⟩ ih
  rw [e1, e3, e85, e86]
  refine w_lss (c_dec (fun q3 => ?_) (fun q3 => kt ⟨vpl, vcl, vn1, vn2, vk1, vk2, vof, ven, by omega, by omega, by omega, by omega, fun a ha => hall a (by omega)⟩ _ (x03.trans x4)))
  obtain ⟨c, hc⟩ := getElem?_of_lt (l := m.Of) (i := p) (by omega)
  obtain ⟨l, hl⟩ := getElem?_of_lt (l := m.In) (i := p) (by omega)
  obtain ⟨lo, hlo⟩ := getElem?_of_lt (l := m.Low) (i := p) (by omega)
  obtain ⟨re, hre⟩ := getElem?_of_lt (l := m.Ret) (i := p) (by omega)
  obtain ⟨wi, wi1, wi2⟩ := iv2 p l hl
  refine n_rowv fun h5 x5 l5 g5 => w_stP g5 (Nat.zero_lt_one) rfl rfl ?_
  have lt5 := lt_of_get g5
  have x6 : Ex h4 (h5.set h4.length (.row ([Value.int .i64 0].set 0 (.int .i64 (p : Nat))) true)) := x5.set (Nat.le_refl _) _
  have gp : (h5.set h4.length (.row ([Value.int .i64 0].set 0 (.int .i64 (p : Nat))) true))[h4.length]? = some (.row [.int .i64 (p : Nat)] true) := get_set _ lt5 _
  generalize hH : h5.set h4.length _ = h6
  have e6 : h5.set h4.length (.row ([Value.int .i64 0].set 0 (.int .i64 (p : Nat))) true) = h6 := hH
  rw [e6] at x6 gp
  clear hH e6
  have x36 : Ex h3 h6 := x4.trans x6
  have G := x36.some g
  have M := m3.ex x36
  refine w_offP (w_rdP G (v := sv u.vi) rfl (w_rdP gp (v := .int .i64 (p : Nat)) rfl (idxV (iv1.ex x36) wi1 fun z hz => w_rd1 hz rfl (w_offP (w_rdP G (v := .int .i64 m.pl) rfl ?_)))))
  refine row32 (R := fun a b => a = b) (may := fun _ x => Mem m.Of m.Of.length c x) (fun _ => rfl) (fun a b => a.trans b) (fun e => e ▸ Ex.refl _) (Sl.ex wi2 x36) (m3.szI l (List.mem_of_getElem? hl)) (fun k x hd K' hk hh k' => ?_) fun r h7 hr7 hr => ?_
  · subst hh
    exact cls35 G (x36.some gn) gp hc M fun r hr => k' r _ rfl hr
  subst hr7
  have inok : r = true ↔ InOK m p := hr.trans ⟨fun h c' l' h1 h2 => by
    rw [hc] at h1; rw [hl] at h2
    cases h1; cases h2
    exact h, fun h => h c l hc hl⟩
  cases r with
  | false =>
    refine w_notb (gdc_ft (gdc_ft (gdc_ft (gdc_ft (pk_t (c_t ?_))))))
    exact kf (fun v => by have := inok.2 (v.st p (by omega)).1; cases this) _ (x03.trans x36)
  | true =>
  refine w_notb (gdc_ff (w_rdPA G (Nat.le_refl 8) (gdc_ff (hist_same (w_rdP gp (v := .int .i64 (p : Nat)) rfl (gdc_ff ?_))))))
  refine closings36 M hc hlo hre fun r h8 x8 hr8 => ?_
  refine read_cons (idrow gp (x8.some gp)) (read_cons (idrow G (x8.some G)) (read_cons (idrow G (x8.some G)) (read_cons (hz.ids (Ex.refl _) x8) (read_cons (idrow gp (x8.some gp)) (read_cons (idrow G (x8.some G)) (read_nil ?_))))))
  cases r with
  | false =>
    refine gdc_ff (w_notb (pk_f (c_t ?_)))
    exact kf (fun v => by have := hr8.2 (v.st p (by omega)).2; cases this) _ ((x03.trans x36).trans x8)
  | true =>
  refine gdc_ff (w_notb (pk_f (c_f (w_add (by omega) (by omega) ?_))))
  refine ih (m.Of.length - (p + 1)) _ _ (by omega) ⟨p + 1, by omega, rfl, e1, e3, e85, rfl, x36.trans x8, fun a ha => ?_⟩
  by_cases ea : a = p
  · subst ea
    exact ⟨inok.1 rfl, hr8.1 rfl⟩
  · exact hall a (by omega)
end Go.Proofs.Ytnpbehfhncbjfaa.W
end

section
/- Fold's laws: the document's Check. Conditions: none. -/
namespace Go.Proofs.Ytnpbehfhncbjfaa.W
open Go Go.AM
set_option linter.unusedVariables false
set_option maxRecDepth 100000
theorem row51 {h : AH} {u : MoV} {m : Mo} {v : Value} {l : List Int} {n c : Int} {K : Value → AH → Prop} (mh : MoH h u m) (hl : Ints h v l) (sz : l.length ≤ 1000) (k : ∀ b h', Ex h h' → (b = true ↔ RowOK m l n c) → K (.bool b) h') : callW Try.prog 51 [.agg (moRow u m).toArray, v, .int .i64 n, .int .i64 c] h K := by
  refine c51 ?_
  unfold s51
  refine n_boxv rfl fun h1 x1 l1 g1 => ?_
  have g : h1[h.length]? = some (.row (moRow u m) true) := g1
  have m1 := mh.ex x1
  have of := m1.of
  have hl1 : Ints h1 v l := Sl.ex hl x1
  refine w_len hl (w_neq (c_dec (fun q => ?_) (fun q => ?_)))
  · exact k _ h1 x1 ⟨fun h => (by cases h), fun h => absurd h.1 q⟩
  refine loopE_intro (fun mm e h' => ∃ i : Nat, i ≤ l.length ∧ mm = l.length - i ∧ e 1 = v ∧ e 2 = .int .i64 n ∧ e 3 = .int .i64 c ∧ e 4 = .pointer (some ⟨h.length, 0, none⟩) ∧ e 9 = .int .i64 (i : Nat) ∧ h' = h1 ∧ ∀ (a : Nat) (x : Int), a < i → l[a]? = some x → Mem m.Of m.Of.length c x) l.length
    ⟨0, Nat.zero_le _, rfl, rfl, rfl, rfl, rfl, rfl, rfl, fun a x ha => by omega⟩ ?_
  rintro I mm e h' ⟨i, hi, hmm, e1, e2, e3, e4, e9, rfl, hall⟩ ih
  rw [e1, e2, e3, e4, e9]
  refine w_lss (c_dec (fun q1 => ?_) (fun q1 => ?_))
  · obtain ⟨x, hx⟩ := getElem?_of_lt (l := l) (i := i) (by omega)
    refine w_idxN eI_len hl1 hx fun z hz => w_rd1 hz rfl (w_lss ?_)
    have bad : ¬ Mem m.Of m.Of.length c x → K (.bool false) h' := fun hb => k _ h' x1 ⟨fun h => (by cases h), fun h => absurd (h.2 i x hx) hb⟩
    by_cases q2 : x < 0
    · refine gd_ft q2 (gd_ft q2 (gd_ft q2 (gd_ft q2 (gd_ft q2 (gd_ft q2 (gd_ft q2 (gd_ft q2 (pk_tt q2 (gdc_ft (gdc_ft (gdc_ft (gdc_ft (gdc_ft (gdc_ft (gdc_ft (gdc_ft (gdc_ft (gdc_ft (pk_t (c_t ?_))))))))))))))))))))
      exact bad fun h => by have := h.1; omega
    refine gd_ff q2 (gd_ff q2 (gd_ff q2 (w_idxN eI_len hl1 hx fun z2 hz2 => gd_ff q2 (hist_nil (w_rd1 hz2 rfl (gd_ff q2 (w_offP (gd_ff q2 (hist_nil (w_rdP g (v := sv u.vo) rfl (gd_ff q2 (w_len of (gd_ff q2 (w_geq (pk_ff q2 ?_)))))))))))))))
    by_cases q3 : ((m.Of.length : Nat) : Int) ≤ x
    · refine gd_ft q3 (gd_ft q3 (gd_ft q3 (gd_ft q3 (gd_ft q3 (gd_ft q3 (gd_ft q3 (gd_ft q3 (gd_ft q3 (gd_ft q3 (pk_tt q3 (c_t ?_)))))))))))
      exact bad fun h => by have := h.2.1; omega
    obtain ⟨d, hd⟩ := getElem?_of_lt (l := m.Of) (i := x.toNat) (by omega)
    refine gd_ff q3 (w_offP (gd_ff q3 (hist_nil (w_rdP g (v := sv u.vo) rfl (gd_ff q3 (gd_ff q3 (gd_ff q3 (w_idxN eI_len hl1 hx fun z3 hz3 => gd_ff q3 (hist_nil (w_rd1 hz3 rfl (gd_ff q3 (w_idxT eI_len of (by omega) hd fun z4 hz4 => gd_ff q3 (hist_nil (w_rd1 hz4 rfl (gd_ff q3 (gd_ff q3 (w_neq (pk_ff q3 (c_dec (fun q4 => ?_) (fun q4 => ?_))))))))))))))))))))
    · exact bad fun h => q4 (by have := h.2.2; rw [hd] at this; cases this; rfl)
    · refine w_add (by omega) (by omega) ?_
      refine ih (l.length - (i + 1)) _ _ (by omega) ⟨i + 1, by omega, rfl, e1, e2, e3, e4, rfl, rfl, fun a y ha hy => ?_⟩
      by_cases ea : a = i
      · subst ea
        rw [hx] at hy
        cases hy
        exact ⟨by omega, by omega, by rw [hd, Decidable.not_not.1 q4]⟩
      · exact hall a y (by omega) hy
  · exact k _ h' x1 ⟨fun _ => ⟨Decidable.not_not.1 q, fun a x hx => hall a x (by have := (List.getElem?_eq_some_iff.1 hx).1; omega) hx⟩, fun _ => rfl⟩
theorem state37 {h : AH} {u : MoV} {m : Mo} {p : Nat} {c : Int} {li lo : List Int} {re : List (List Int)} {K : Value → AH → Prop} (mh : MoH h u m) (hcl : 0 ≤ m.cl ∧ m.cl < 21) (hc : m.Of[p]? = some c) (hli : m.In[p]? = some li) (hlo : m.Low[p]? = some lo) (hre : m.Ret[p]? = some re)
    (kk : ∀ r h', Ex h h' → (r = true ↔ InOK m p ∧ ClOK m p) → K (.bool r) h') : callW Try.prog 37 [.agg (moRow u m).toArray, .int .i64 (p : Nat)] h K := by
  have szO := mh.szO
  refine c37 ?_
  unfold s37
  refine n_boxv rfl fun h1 x1 l1 g1 => ?_
  have g : h1[h.length]? = some (.row (moRow u m) true) := g1
  have m1 := mh.ex x1
  have of := m1.of
  have hin : ∀ {q : Prop}, ((RowOK m li m.pl c) → q ↔ ClOK m p) → True := fun _ => trivial
  have inI : RowOK m li m.pl c ↔ InOK m p := ⟨fun h c' l' h1 h2 => by
    rw [hc] at h1; rw [hli] at h2
    cases h1; cases h2
    exact h, fun h => h c li hc hli⟩
  have clI : ((c = 0 → re.length = 0 ∧ RowOK m lo m.cl 0) ∧ (c ≠ 0 → lo.length = 0 ∧ RetOK m re)) ↔ ClOK m p := ⟨fun h c' lo' re' h1 h2 h3 => by
    rw [hc] at h1; rw [hlo] at h2; rw [hre] at h3
    cases h1; cases h2; cases h3
    exact h, fun h => h c lo re hc hlo hre⟩
  obtain ⟨iv, iv1, iv2⟩ := m1.inn
  obtain ⟨wi, wi1, wi2⟩ := iv2 p li hli
  obtain ⟨lv, lv1, lv2⟩ := m1.low
  obtain ⟨wl, wl1, wl2⟩ := lv2 p lo hlo
  obtain ⟨rv, rv1, rv2⟩ := m1.ret
  obtain ⟨wr, wr1, wr2⟩ := rv2 p re hre
  obtain ⟨rrv, rrv1, rrv2⟩ := wr2
  have szi := m1.szI li (List.mem_of_getElem? hli)
  have szl := m1.szL lo (List.mem_of_getElem? hlo)
  have szr := m1.szR re (List.mem_of_getElem? hre)
  refine w_rdPA g (Nat.le_refl 8) (w_offP (w_rdP g (v := sv u.vi) rfl (idxV iv1 wi1 fun z1 hz1 => w_rd1 hz1 rfl (w_offP (w_rdP g (v := .int .i64 m.pl) rfl (w_offP (w_rdP g (v := sv u.vo) rfl (w_idxN eI_len of hc fun z2 hz2 => w_rd1 hz2 rfl ?_))))))))
  refine row51 m1 wi2 szi fun r h2 x2 hr => ?_
  have G := x2.some g
  have m2 := m1.ex x2
  have of2 : Ints h2 (sv u.vo) m.Of := m2.of
  cases r with
  | false =>
    refine w_notb (c_t ?_)
    exact kk _ h2 (x1.trans x2) ⟨fun h => (by cases h), fun h => by have := hr.2 (inI.2 h.1); cases this⟩
  | true =>
  have hin := inI.1 (hr.1 rfl)
  have fin : ∀ r : Bool, (r = true ↔ (c = 0 → re.length = 0 ∧ RowOK m lo m.cl 0) ∧ (c ≠ 0 → lo.length = 0 ∧ RetOK m re)) → (r = true ↔ InOK m p ∧ ClOK m p) := fun r h => h.trans ⟨fun h => ⟨hin, clI.1 h⟩, fun h => clI.2 h.2⟩
  refine w_notb (c_f (w_offP (w_rdP G (v := sv u.vo) rfl (w_idxN eI_len of2 hc fun z3 hz3 => w_rd1 hz3 rfl (w_eql (c_dec (fun qc => ?_) (fun qc => ?_)))))))
  · refine w_rdPA G (Nat.le_refl 8) (w_offP (w_rdP G (v := sv u.vl) rfl (idxV (lv1.ex x2) wl1 fun z4 hz4 => w_rd1 hz4 rfl (w_offP (w_rdP G (v := .int .i64 m.cl) rfl ?_)))))
    refine row51 m2 (Sl.ex wl2 x2) szl fun r h3 x3 hr3 => ?_
    cases r with
    | false =>
      refine gdc_tf (gdc_tf (gdc_tf (gdc_tf (gdc_tf (gdc_tf (gdc_tf (pk_f ?_)))))))
      exact kk _ h3 ((x1.trans x2).trans x3) (fin _ ⟨fun h => (by cases h), fun h => by have := hr3.2 (h.1 qc).2; cases this⟩)
    | true =>
      have x23 := x2.trans x3
      refine gdc_tt (w_offP (gdc_tt (hist_cons (idrow G (x3.some G)) (hist_nil (w_rdP (x3.some G) (v := sv u.vr) rfl (gdc_tt (gdc_tt (idxV (rv1.ex x2) wr1 fun z5 hz5 => gdc_tt (hist_cons (hz5.ids (Ex.refl _) x3) (hist_nil (w_rd1 (hz5.ex x3) rfl (gdc_tt (w_len (rrv1.ex x23) (gdc_tt (w_eql (pk_t ?_))))))))))))))))
      exact kk _ h3 ((x1.trans x2).trans x3) (fin _ ⟨fun h => ⟨fun _ => ⟨by have := of_decide_eq_true h; omega, hr3.1 rfl⟩, fun hn => absurd qc hn⟩, fun h => decide_eq_true (by have := (h.1 qc).1; omega)⟩)
  · refine w_offP (w_rdP G (v := sv u.vl) rfl (idxV (lv1.ex x2) wl1 fun z4 hz4 => w_rd1 hz4 rfl (w_len (Sl.ex wl2 x2) (w_neq ?_))))
    by_cases q : ¬ ((lo.length : Nat) : Int) = 0
    · refine gd_ft q (gd_ft q (gd_ft q (gd_ft q (gd_ft q (gd_ft q (gd_ft q (gd_ft q (gd_ft q (pk_tt q (c_t ?_))))))))))
      exact kk _ h2 (x1.trans x2) (fin _ ⟨fun h => (by cases h), fun h => absurd (h.2 qc).1 (by omega)⟩)
    refine gd_ff q (w_offP (gd_ff q (hist_nil (w_rdP G (v := sv u.vr) rfl (gd_ff q (gd_ff q (idxV (rv1.ex x2) wr1 fun z2 hz2 => gd_ff q (hist_nil (w_rd1 hz2 rfl ?_)))))))))
    refine gd_ff q (w_len (rrv1.ex x2) (gd_ff q (w_offP (gd_ff q (hist_nil (w_rdP G (v := .int .i64 m.cl) rfl (gd_ff q (w_neq (pk_ff q ?_)))))))))
    refine c_dec (fun q2 => ?_) (fun q2 => ?_)
    · exact kk _ h2 (x1.trans x2) (fin _ ⟨fun h => (by cases h), fun h => absurd (h.2 qc).2.1 q2⟩)
    have q2' : (re.length : Int) = m.cl := Decidable.not_not.1 q2
    refine loopE_intro (fun mm e h' => ∃ j : Nat, j ≤ re.length ∧ mm = re.length - j ∧ e 1 = .int .i64 (p : Nat) ∧ e 2 = .pointer (some ⟨h.length, 0, none⟩) ∧ e 5 = .int .i64 (j : Nat) ∧ h' = h2 ∧ ∀ (a : Nat) (l : List Int), a < j → re[a]? = some l → l.length = m.Of.length ∧ ∀ (k : Nat) (x : Int), l[k]? = some x → ∃ c, m.Of[k]? = some c ∧ Mem m.Of m.Of.length c x) re.length
      ⟨0, Nat.zero_le _, rfl, rfl, rfl, rfl, rfl, fun a l ha => by omega⟩ ?_
    rintro I mm e h' ⟨j, hj, hmm, e1, e2, e5, rfl, hall⟩ ih
    rw [e1, e2, e5]
    refine w_offP (w_rdP G (v := .int .i64 m.cl) rfl (w_lss (c_dec (fun q3 => ?_) (fun q3 => ?_))))
    · obtain ⟨l, hl⟩ := getElem?_of_lt (l := re) (i := j) (by omega)
      obtain ⟨wj, wj1, wj2⟩ := rrv2 j l hl
      have bad : ¬ (l.length = m.Of.length ∧ ∀ (k : Nat) (x : Int), l[k]? = some x → ∃ c, m.Of[k]? = some c ∧ Mem m.Of m.Of.length c x) → K (.bool false) h' := fun hb => kk _ h' (x1.trans x2) (fin _ ⟨fun h => (by cases h), fun h => absurd ((h.2 qc).2.2 j l hl) hb⟩)
      have wj2' : Ints h' wj l := Sl.ex wj2 x2
      refine w_offP (w_rdP G (v := sv u.vr) rfl (idxV (rv1.ex x2) wr1 fun z5 hz5 => w_rd1 hz5 rfl (idxV (rrv1.ex x2) wj1 fun z6 hz6 => w_rd1 hz6 rfl (w_len wj2' (w_offP (w_rdP G (v := sv u.vo) rfl (w_len of2 (w_neq (c_dec (fun q4 => ?_) (fun q4 => ?_))))))))))
      · exact bad fun h => q4 (by rw [h.1])
      refine loopE_intro (fun mm e h'' => ∃ s : Nat, s ≤ m.Of.length ∧ mm = m.Of.length - s ∧ e 1 = .int .i64 (p : Nat) ∧ e 2 = .pointer (some ⟨h.length, 0, none⟩) ∧ e 5 = .int .i64 (j : Nat) ∧ e 6 = .int .i64 (s : Nat) ∧ h'' = h' ∧ ∀ (k : Nat) (x : Int), k < s → l[k]? = some x → ∃ c, m.Of[k]? = some c ∧ Mem m.Of m.Of.length c x) m.Of.length
        ⟨0, Nat.zero_le _, rfl, e1, e2, e5, rfl, rfl, fun a x ha => by omega⟩ ?_
      rintro I2 mm2 f h'' ⟨s, hs, hmm2, f1, f2, f5, f6, rfl, hall2⟩ ih2
      rw [f1, f2, f5, f6]
      refine w_offP (w_rdP G (v := sv u.vo) rfl (w_len of2 (w_lss (c_dec (fun q5 => ?_) (fun q5 => ?_)))))
      · obtain ⟨x, hx⟩ := getElem?_of_lt (l := l) (i := s) (by omega)
        obtain ⟨d, hd⟩ := getElem?_of_lt (l := m.Of) (i := s) (by omega)
        have bad2 : ¬ Mem m.Of m.Of.length d x → K (.bool false) h'' := fun hb => bad fun h => by
          obtain ⟨c', a1, a2⟩ := h.2 s x hx
          rw [hd] at a1
          cases a1
          exact hb a2
        refine w_offP (w_rdP G (v := sv u.vr) rfl (idxV (rv1.ex x2) wr1 fun z7 hz7 => w_rd1 hz7 rfl (idxV (rrv1.ex x2) wj1 fun z8 hz8 => w_rd1 hz8 rfl (w_idxN eI_len wj2' hx fun z9 hz9 => w_rd1 hz9 rfl (w_lss ?_)))))
        by_cases q6 : x < 0
        · refine gd_ft q6 (gd_ft q6 (gd_ft q6 (gd_ft q6 (gd_ft q6 (pk_tt q6 (gdc_ft (gdc_ft (gdc_ft (gdc_ft (gdc_ft (gdc_ft (gdc_ft (gdc_ft (gdc_ft (gdc_ft (gdc_ft (pk_t (c_t ?_))))))))))))))))))
          exact bad2 fun h => by have := h.1; omega
        refine gd_ff q6 (gd_ff q6 (w_offP (gd_ff q6 (hist_nil (w_rdP G (v := sv u.vo) rfl (gd_ff q6 (w_len of2 (gd_ff q6 (w_geq (pk_ff q6 ?_))))))))))
        by_cases q7 : ((m.Of.length : Nat) : Int) ≤ x
        · refine gd_ft q7 (gd_ft q7 (gd_ft q7 (gd_ft q7 (gd_ft q7 (gd_ft q7 (gd_ft q7 (gd_ft q7 (gd_ft q7 (gd_ft q7 (gd_ft q7 (pk_tt q7 (c_t ?_))))))))))))
          exact bad2 fun h => by have := h.2.1; omega
        obtain ⟨d2, hd2⟩ := getElem?_of_lt (l := m.Of) (i := x.toNat) (by omega)
        refine gd_ff q7 (w_offP (gd_ff q7 (hist_nil (w_rdP G (v := sv u.vo) rfl (gd_ff q7 (gd_ff q7 (w_idxT eI_len of2 (by omega) hd2 fun y1 hy1 => gd_ff q7 (hist_nil (w_rd1 hy1 rfl ?_)))))))))
        refine gd_ff q7 (w_offP (gd_ff q7 (hist_nil (w_rdP G (v := sv u.vo) rfl (gd_ff q7 (gd_ff q7 (w_idxN eI_len of2 hd fun y2 hy2 => gd_ff q7 (hist_nil (w_rd1 hy2 rfl (gd_ff q7 (w_neq (pk_ff q7 (c_dec (fun q8 => ?_) (fun q8 => ?_))))))))))))))
        · exact bad2 fun h => q8 (by have := h.2.2; rw [hd2] at this; cases this; rfl)
        refine w_add (by omega) (by omega) ?_
        refine ih2 (m.Of.length - (s + 1)) _ _ (by omega) ⟨s + 1, by omega, rfl, f1, f2, f5, rfl, rfl, fun k y hk hy => ?_⟩
        by_cases ea : k = s
        · subst ea
          rw [hx] at hy
          cases hy
          exact ⟨d, hd, by omega, by omega, by rw [hd2, Decidable.not_not.1 q8]⟩
        · exact hall2 k y (by omega) hy
      · refine w_add (by omega) (by omega) ?_
        refine ih (re.length - (j + 1)) _ _ (by omega) ⟨j + 1, by omega, rfl, f1, f2, rfl, rfl, fun a l' ha hl' => ?_⟩
        by_cases ea : a = j
        · subst ea
          rw [hl] at hl'
          cases hl'
          exact ⟨by omega, fun k x hx => hall2 k x (by have := (List.getElem?_eq_some_iff.1 hx).1; omega) hx⟩
        · exact hall a l' (by omega) hl'
    · exact kk _ h' (x1.trans x2) (fin _ ⟨fun _ => ⟨fun h => absurd h qc, fun _ => ⟨by omega, q2', fun a l hl => hall a l (by have := (List.getElem?_eq_some_iff.1 hl).1; omega) hl⟩⟩, fun _ => rfl⟩)
theorem refcheck17 {h : AH} {u : MoV} {m : Mo} {K : Value → AH → Prop} (mh : MoH h u m) (kf : ¬ Valid m → ∀ h', Ex h h' → K (.int .i64 11) h') (kt : Valid m → ∀ h', Ex h h' → K (.int .i64 0) h') : callW Try.prog 17 [.agg (moRow u m).toArray] h K := by
  have szO := mh.szO
  have szE := mh.szE
  refine c17 ?_
  unfold s17
  refine n_boxv rfl fun h1 x1 l1 g1 => ?_
  have g : h1[h.length]? = some (.row (moRow u m) true) := g1
  have m1 := mh.ex x1
  have of := m1.of
  have en := m1.en
  have no : ¬ Valid m → K (.int .i64 11) h1 := fun h => kf h _ x1
  refine w_offP (w_rdP g (v := sv u.vo) rfl (w_len of (w_offP (w_rdP g (v := sv u.ve) rfl (w_len en (w_offP (w_rdP g (v := .int .i64 m.pl) rfl (w_lss ?_))))))))
  by_cases q : m.pl < 0
  · refine g_ft q (g_ft q (g_ft q (pk_tt q (gc_ft (gc_ft (gc_ft (pk_t (gc_ft (gc_ft (gc_ft (pk_t (gc_ft (gc_ft (pk_t (gc_ft (gc_ft (pk_t (gc_ft (gc_ft (pk_t (gc_ft (gc_ft (pk_t (c_t ?_))))))))))))))))))))))))
    exact no fun v => by have := v.pl; omega
  refine g_ff q (w_offP (g_ff q (w_rdP g (v := .int .i64 m.pl) rfl (g_ff q (w_gtr (pk_ff q ?_))))))
  by_cases q1 : 20 < m.pl
  · refine g_ft q1 (g_ft q1 (g_ft q1 (pk_tt q1 (gc_ft (gc_ft (gc_ft (pk_t (gc_ft (gc_ft (pk_t (gc_ft (gc_ft (pk_t (gc_ft (gc_ft (pk_t (gc_ft (gc_ft (pk_t (c_t ?_))))))))))))))))))))
    exact no fun v => by have := v.pl; omega
  refine g_ff q1 (w_offP (g_ff q1 (w_rdP g (v := .int .i64 m.cl) rfl (g_ff q1 (w_lss (pk_ff q1 ?_))))))
  by_cases q2 : m.cl < 0
  · refine g_ft q2 (g_ft q2 (g_ft q2 (pk_tt q2 (gc_ft (gc_ft (pk_t (gc_ft (gc_ft (pk_t (gc_ft (gc_ft (pk_t (gc_ft (gc_ft (pk_t (c_t ?_))))))))))))))))
    exact no fun v => by have := v.cl; omega
  refine g_ff q2 (w_offP (g_ff q2 (w_rdP g (v := .int .i64 m.cl) rfl (g_ff q2 (w_gtr (pk_ff q2 ?_))))))
  by_cases q3 : 20 < m.cl
  · refine g_ft q3 (g_ft q3 (pk_tt q3 (gc_ft (gc_ft (pk_t (gc_ft (gc_ft (pk_t (gc_ft (gc_ft (pk_t (c_t ?_))))))))))))
    exact no fun v => by have := v.cl; omega
  refine g_ff q3 (g_ff q3 (w_lss (pk_ff q3 ?_)))
  by_cases q4 : ((m.Of.length : Nat) : Int) < 1
  · refine g_ft q4 (g_ft q4 (pk_tt q4 (gc_ft (gc_ft (pk_t (gc_ft (gc_ft (pk_t (c_t ?_)))))))))
    exact no fun v => by have := v.n1; omega
  refine g_ff q4 (g_ff q4 (w_gtr (pk_ff q4 ?_)))
  by_cases q5 : 60 < ((m.Of.length : Nat) : Int)
  · refine g_ft q5 (g_ft q5 (pk_tt q5 (gc_ft (gc_ft (pk_t (c_t ?_))))))
    exact no fun v => by have := v.n2; omega
  refine g_ff q5 (g_ff q5 (w_lss (pk_ff q5 ?_)))
  by_cases q6 : ((m.En.length : Nat) : Int) < 1
  · refine g_ft q6 (g_ft q6 (pk_tt q6 (c_t ?_)))
    exact no fun v => by have := v.k1; omega
  refine g_ff q6 (g_ff q6 (w_gtr (pk_ff q6 (c_dec (fun q7 => ?_) (fun q7 => ?_)))))
  · exact no fun v => by have := v.k2; omega
  refine loopE_intro (fun mm e h' => ∃ p : Nat, p ≤ m.Of.length ∧ mm = m.Of.length - p ∧ e 1 = .pointer (some ⟨h.length, 0, none⟩) ∧ e 3 = .int .i64 (m.Of.length : Nat) ∧ e 4 = .int .i64 (m.En.length : Nat) ∧ e 5 = .int .i64 (p : Nat) ∧ h' = h1 ∧ ∀ (k : Nat) (x : Int), k < p → m.Of[k]? = some x → 0 ≤ x ∧ x < (m.En.length : Int)) m.Of.length
    ⟨0, Nat.zero_le _, rfl, rfl, rfl, rfl, rfl, rfl, fun a x ha => by omega⟩ ?_
  rintro I mm e h' ⟨p, hp, hmm, e1, e3, e4, e5, rfl, hof⟩ ih
  rw [e1, e3, e4, e5]
  refine w_lss (c_dec (fun q8 => ?_) (fun q8 => ?_))
  · obtain ⟨x, hx⟩ := getElem?_of_lt (l := m.Of) (i := p) (by omega)
    refine w_offP (w_rdP g (v := sv u.vo) rfl (w_idxN eI_len of hx fun z hz => w_rd1 hz rfl (w_lss ?_)))
    by_cases q9 : x < 0
    · refine g_ft q9 (g_ft q9 (g_ft q9 (g_ft q9 (g_ft q9 (g_ft q9 (g_ft q9 (pk_tt q9 (c_t ?_))))))))
      exact no fun v => by have := v.of p x hx; omega
    refine g_ff q9 (w_offP (g_ff q9 (w_rdP g (v := sv u.vo) rfl (g_ff q9 (g_ff q9 (w_idxN eI_len of hx fun z2 hz2 => g_ff q9 (w_rd1 hz2 rfl (g_ff q9 (g_ff q9 (w_geq (pk_ff q9 (c_dec (fun q10 => ?_) (fun q10 => ?_)))))))))))))
    · exact no fun v => by have := v.of p x hx; omega
    refine w_add (by omega) (by omega) ?_
    refine ih (m.Of.length - (p + 1)) _ _ (by omega) ⟨p + 1, by omega, rfl, e1, e3, e4, rfl, rfl, fun a y ha hy => ?_⟩
    by_cases ea : a = p
    · subst ea
      rw [hx] at hy
      cases hy
      omega
    · exact hof a y (by omega) hy
  have vof : ∀ (k : Nat) (x : Int), m.Of[k]? = some x → 0 ≤ x ∧ x < (m.En.length : Int) := fun k x hx => hof k x (by have := (List.getElem?_eq_some_iff.1 hx).1; omega) hx
  refine loopE_intro (fun mm e h'' => ∃ i : Nat, i ≤ m.En.length ∧ mm = m.En.length - i ∧ e 1 = .pointer (some ⟨h.length, 0, none⟩) ∧ e 3 = .int .i64 (m.Of.length : Nat) ∧ e 4 = .int .i64 (m.En.length : Nat) ∧ e 6 = .int .i64 (i : Nat) ∧ h'' = h' ∧ ∀ (k : Nat) (x : Int), k < i → m.En[k]? = some x → Mem m.Of m.Of.length k x) m.En.length
    ⟨0, Nat.zero_le _, rfl, e1, e3, e4, rfl, rfl, fun a x ha => by omega⟩ ?_
  clear ih hof q8 hmm hp e1 e3 e4 e5
  clear e I mm p
  rintro I mm e h'' ⟨i, hi, hmm, e1, e3, e4, e6, rfl, hen⟩ ih
  rw [e1, e3, e4, e6]
  refine w_lss (c_dec (fun q8 => ?_) (fun q8 => ?_))
  · obtain ⟨x, hx⟩ := getElem?_of_lt (l := m.En) (i := i) (by omega)
    refine w_offP (w_rdP g (v := sv u.ve) rfl (w_idxN eI_len en hx fun z hz => w_rd1 hz rfl (w_lss ?_)))
    by_cases q9 : x < 0
    · refine gd_ft q9 (gd_ft q9 (gd_ft q9 (gd_ft q9 (gd_ft q9 (gd_ft q9 (gd_ft q9 (pk_tt q9 (gdc_ft (gdc_ft (gdc_ft (gdc_ft (gdc_ft (gdc_ft (gdc_ft (gdc_ft (gdc_ft (gdc_ft (gdc_ft (pk_t (c_t ?_))))))))))))))))))))
      exact no fun v => by have := (v.en i x hx).1; omega
    refine gd_ff q9 (w_offP (gd_ff q9 (hist_nil (w_rdP g (v := sv u.ve) rfl (gd_ff q9 (gd_ff q9 (w_idxN eI_len en hx fun z2 hz2 => gd_ff q9 (hist_nil (w_rd1 hz2 rfl (gd_ff q9 (gd_ff q9 (w_geq (pk_ff q9 ?_)))))))))))))
    by_cases q10 : ((m.Of.length : Nat) : Int) ≤ x
    · refine gd_ft q10 (gd_ft q10 (gd_ft q10 (gd_ft q10 (gd_ft q10 (gd_ft q10 (gd_ft q10 (gd_ft q10 (gd_ft q10 (gd_ft q10 (gd_ft q10 (pk_tt q10 (c_t ?_))))))))))))
      exact no fun v => by have := (v.en i x hx).2.1; omega
    obtain ⟨d, hd⟩ := getElem?_of_lt (l := m.Of) (i := x.toNat) (by omega)
    refine gd_ff q10 (w_offP (gd_ff q10 (hist_nil (w_rdP g (v := sv u.vo) rfl (gd_ff q10 (w_offP (gd_ff q10 (hist_nil (w_rdP g (v := sv u.ve) rfl ?_)))))))))
    refine gd_ff q10 (gd_ff q10 (w_idxN eI_len en hx fun z3 hz3 => gd_ff q10 (hist_nil (w_rd1 hz3 rfl (gd_ff q10 (w_idxT eI_len of (by omega) hd fun z4 hz4 => gd_ff q10 (hist_nil (w_rd1 hz4 rfl (gd_ff q10 (gd_ff q10 (w_neq (pk_ff q10 (c_dec (fun q11 => ?_) (fun q11 => ?_))))))))))))))
    · exact no fun v => q11 (by have := (v.en i x hx).2.2; rw [hd] at this; cases this; rfl)
    refine w_add (by omega) (by omega) ?_
    refine ih (m.En.length - (i + 1)) _ _ (by omega) ⟨i + 1, by omega, rfl, e1, e3, e4, rfl, rfl, fun a y ha hy => ?_⟩
    by_cases ea : a = i
    · subst ea
      rw [hx] at hy
      cases hy
      exact ⟨by omega, by omega, by rw [hd, Decidable.not_not.1 q11]⟩
    · exact hen a y (by omega) hy
  have ven : ∀ (k : Nat) (x : Int), m.En[k]? = some x → Mem m.Of m.Of.length k x := fun k x hx => hen k x (by have := (List.getElem?_eq_some_iff.1 hx).1; omega) hx
  clear ih hen q8
  obtain ⟨iv, iv1, iv2⟩ := m1.inn
  obtain ⟨lv, lv1, lv2⟩ := m1.low
  obtain ⟨rv, rv1, rv2⟩ := m1.ret
  refine w_offP (w_rdP g (v := sv u.vf) rfl (w_len m1.fi (w_neq ?_)))
  by_cases q8 : ¬ (m.Fi.length : Int) = (m.Of.length : Nat)
  · refine g_ft q8 (g_ft q8 (g_ft q8 (g_ft q8 (g_ft q8 (pk_tt q8 (gc_ft (gc_ft (gc_ft (gc_ft (gc_ft (pk_t (gc_ft (gc_ft (gc_ft (gc_ft (gc_ft (pk_t (c_t ?_))))))))))))))))))
    exact no fun v => q8 (by rw [v.lf])
  refine g_ff q8 (w_offP (g_ff q8 (w_rdP g (v := sv u.vi) rfl (g_ff q8 (w_len iv1 (g_ff q8 (g_ff q8 (w_neq (pk_ff q8 ?_)))))))))
  by_cases q9 : ¬ (m.In.length : Int) = (m.Of.length : Nat)
  · refine g_ft q9 (g_ft q9 (g_ft q9 (g_ft q9 (g_ft q9 (pk_tt q9 (gc_ft (gc_ft (gc_ft (gc_ft (gc_ft (pk_t (c_t ?_))))))))))))
    exact no fun v => q9 (by rw [v.li])
  refine g_ff q9 (w_offP (g_ff q9 (w_rdP g (v := sv u.vl) rfl (g_ff q9 (w_len lv1 (g_ff q9 (g_ff q9 (w_neq (pk_ff q9 ?_)))))))))
  by_cases q10 : ¬ (m.Low.length : Int) = (m.Of.length : Nat)
  · refine g_ft q10 (g_ft q10 (g_ft q10 (g_ft q10 (g_ft q10 (pk_tt q10 (c_t ?_))))))
    exact no fun v => q10 (by rw [v.ll])
  refine g_ff q10 (w_offP (g_ff q10 (w_rdP g (v := sv u.vr) rfl (g_ff q10 (w_len rv1 (g_ff q10 (g_ff q10 (w_neq (pk_ff q10 (c_dec (fun q11 => ?_) (fun q11 => ?_)))))))))))
  · exact no fun v => q11 (by rw [v.lr])
  refine loopE_intro (fun mm e h3 => ∃ p : Nat, p ≤ m.Of.length ∧ mm = m.Of.length - p ∧ e 1 = .pointer (some ⟨h.length, 0, none⟩) ∧ e 3 = .int .i64 (m.Of.length : Nat) ∧ e 7 = .int .i64 (p : Nat) ∧ Ex h'' h3 ∧ ∀ a : Nat, a < p → InOK m a ∧ ClOK m a) m.Of.length
    ⟨0, Nat.zero_le _, rfl, e1, e3, rfl, Ex.refl _, fun a ha => by omega⟩ ?_
  clear hmm hi e1 e3 e4 e6
  clear e I mm i
  rintro I mm e h3 ⟨p, hp, hmm, e1, e3, e7, x3, hall⟩ ih
  rw [e1, e3, e7]
  refine w_lss (c_dec (fun q12 => ?_) (fun q12 => kt ⟨by omega, by omega, by omega, by omega, by omega, by omega, vof, ven, by omega, by omega, by omega, by omega, fun a ha => hall a (by omega)⟩ _ (x1.trans x3)))
  obtain ⟨c, hc⟩ := getElem?_of_lt (l := m.Of) (i := p) (by omega)
  obtain ⟨l, hl⟩ := getElem?_of_lt (l := m.In) (i := p) (by omega)
  obtain ⟨lo, hlo⟩ := getElem?_of_lt (l := m.Low) (i := p) (by omega)
  obtain ⟨re, hre⟩ := getElem?_of_lt (l := m.Ret) (i := p) (by omega)
  refine w_rdPA (x3.some g) (Nat.le_refl 8) ?_
  refine state37 (m1.ex x3) (by omega) hc hl hlo hre fun r h4 x4 hr => ?_
  cases r with
  | false =>
    refine w_notb (c_t ?_)
    exact kf (fun v => by have := hr.2 (v.st p (by omega)); cases this) _ ((x1.trans x3).trans x4)
  | true =>
    refine w_notb (c_f (w_add (by omega) (by omega) ?_))
    refine ih (m.Of.length - (p + 1)) _ _ (by omega) ⟨p + 1, by omega, rfl, e1, e3, rfl, x3.trans x4, fun a ha => ?_⟩
    by_cases ea : a = p
    · subst ea
      exact hr.1 rfl
    · exact hall a (by omega)
end Go.Proofs.Ytnpbehfhncbjfaa.W
end

section
/- Fold's laws: a machine that was made, its places its own. Conditions: none. -/
namespace Go.Proofs.Ytnpbehfhncbjfaa.W
open Go Go.AM
set_option linter.unusedVariables false
set_option maxRecDepth 100000
structure MoO (h : AH) (b : Nat) (o : Nat → Tg) (u : MoV) (m : Mo) : Prop where
  of : ∃ i, u.vo = (some ⟨i, 0, none⟩, m.Of.length, m.Of.length) ∧ h[i]? = some (.row (flat eI m.Of) true) ∧ o i = .off
  en : ∃ i, u.ve = (some ⟨i, 0, none⟩, m.En.length, m.En.length) ∧ h[i]? = some (.row (flat eI m.En) true) ∧ o i = .ent
  fi : OwnG 1 (fun j => o j = .fin) h (sv u.vf) m.Fi.length (flat eBo m.Fi)
  inn : ∃ vs, OwnG 1 (fun j => o j = .inS) h (sv u.vi) m.In.length vs ∧ RowsT h o .inn vs m.In
  low : ∃ vs, OwnG 1 (fun j => o j = .lowS) h (sv u.vl) m.Low.length vs ∧ RowsT h o .low vs m.Low
  ret : ∃ vs, OwnG 1 (fun j => o j = .retS) h (sv u.vr) m.Ret.length vs ∧ RetsT h o vs m.Ret
  on : ∀ j, o j ≠ .no → b ≤ j ∧ j < h.length
  szO : m.Of.length ≤ 10
  szE : m.En.length ≤ 10
  szI : ∀ l ∈ m.In, l.length ≤ 10
  szL : ∀ l ∈ m.Low, l.length ≤ 10
  szR : ∀ r ∈ m.Ret, r.length ≤ 10 ∧ ∀ l ∈ r, l.length ≤ 10
theorem RowsT.rows {h : AH} {o tg : Nat → Tg} {F : Nat → Prop} {v : Value} {vs : List Value} {ls : List (List Int)} (hv : OwnG 1 F h v ls.length vs) (r : RowsT h o tg vs ls) : RowsR h v ls :=
  ⟨vs, hv.sl, fun i l hl => by obtain ⟨w, h1, h2⟩ := r.2 i l hl; have := h2.sl; exact ⟨w, h1, this⟩⟩
theorem RetsT.rets {h : AH} {o : Nat → Tg} {F : Nat → Prop} {v : Value} {vs : List Value} {ls : List (List (List Int))} (hv : OwnG 1 F h v ls.length vs) (r : RetsT h o vs ls) : RetsR h v ls :=
  ⟨vs, hv.sl, fun i l hl => by obtain ⟨w, ws, h1, h2, h3⟩ := r.2 i l hl; exact ⟨w, h1, h3.rows (by rw [← h3.1]; exact h2)⟩⟩
theorem ownI {h : AH} {i : Nat} {l : List Int} (hg : h[i]? = some (.row (flat eI l) true)) (hs : l.length < 100) : Ints h (sv (some ⟨i, 0, none⟩, l.length, l.length)) l := slI hg rfl hs
theorem MoO.ofH {h h' : AH} {b : Nat} {o : Nat → Tg} {u : MoV} {m : Mo} (x : MoO h b o u m) (hh : ∀ j, o j = .off → h'[j]? = h[j]?) : Ints h' (sv u.vo) m.Of := by
  obtain ⟨i, e, g, c⟩ := x.of
  rw [e]
  exact ownI ((hh i c).trans g) (by have := x.szO; omega)
theorem MoO.enH {h h' : AH} {b : Nat} {o : Nat → Tg} {u : MoV} {m : Mo} (x : MoO h b o u m) (hh : ∀ j, o j = .ent → h'[j]? = h[j]?) : Ints h' (sv u.ve) m.En := by
  obtain ⟨i, e, g, c⟩ := x.en
  rw [e]
  exact ownI ((hh i c).trans g) (by have := x.szE; omega)
theorem MoO.fiH {h h' : AH} {b : Nat} {o : Nat → Tg} {u : MoV} {m : Mo} (x : MoO h b o u m) (hh : ∀ j, o j = .fin → h'[j]? = h[j]?) : SlT 1 eBo h' (sv u.vf) m.Fi :=
  (x.fi.mono (fun _ _ h => h) fun j _ hj => hh j hj).sl
theorem RowsT.to {h h' : AH} {o tg : Nat → Tg} {vals : List Value} {ls : List (List Int)} (r : RowsT h o tg vals ls) (hh : ∀ j, (∃ p, o j = tg p) → h'[j]? = h[j]?) : RowsT h' o tg vals ls :=
  ⟨r.1, fun p l hl => by obtain ⟨v, h1, h2⟩ := r.2 p l hl; exact ⟨v, h1, h2.mono (fun _ _ h => h) fun j _ hj => hh j ⟨p, hj⟩⟩⟩
theorem MoO.inH {h h' : AH} {b : Nat} {o : Nat → Tg} {u : MoV} {m : Mo} (x : MoO h b o u m) (hh : ∀ j, (o j = .inS ∨ ∃ p, o j = .inn p) → h'[j]? = h[j]?) : RowsR h' (sv u.vi) m.In := by
  obtain ⟨vs, h1, h2⟩ := x.inn
  exact (h2.to fun j hj => hh j (.inr hj)).rows (h1.mono (fun _ _ h => h) fun j _ hj => hh j (.inl hj))
theorem MoO.lowH {h h' : AH} {b : Nat} {o : Nat → Tg} {u : MoV} {m : Mo} (x : MoO h b o u m) (hh : ∀ j, (o j = .lowS ∨ ∃ p, o j = .low p) → h'[j]? = h[j]?) : RowsR h' (sv u.vl) m.Low := by
  obtain ⟨vs, h1, h2⟩ := x.low
  exact (h2.to fun j hj => hh j (.inr hj)).rows (h1.mono (fun _ _ h => h) fun j _ hj => hh j (.inl hj))
theorem RetsT.to {h h' : AH} {o : Nat → Tg} {vals : List Value} {rs : List (List (List Int))} (r : RetsT h o vals rs) (hh : ∀ j, ((∃ p, o j = .ret p) ∨ ∃ p q, o j = .rr p q) → h'[j]? = h[j]?) : RetsT h' o vals rs :=
  ⟨r.1, fun p l hl => by
    obtain ⟨v, vs, h1, h2, h3⟩ := r.2 p l hl
    exact ⟨v, vs, h1, h2.mono (fun _ _ h => h) fun j _ hj => hh j (.inl ⟨p, hj⟩), h3.to fun j ⟨q, hj⟩ => hh j (.inr ⟨p, q, hj⟩)⟩⟩
theorem MoO.retH {h h' : AH} {b : Nat} {o : Nat → Tg} {u : MoV} {m : Mo} (x : MoO h b o u m) (hh : ∀ j, (o j = .retS ∨ (∃ p, o j = .ret p) ∨ ∃ p q, o j = .rr p q) → h'[j]? = h[j]?) : RetsR h' (sv u.vr) m.Ret := by
  obtain ⟨vs, h1, h2⟩ := x.ret
  exact (h2.to fun j hj => hh j (.inr hj)).rets (h1.mono (fun _ _ h => h) fun j _ hj => hh j (.inl hj))
theorem MoO.toH {h h' : AH} {b : Nat} {o : Nat → Tg} {u : MoV} {m : Mo} (x : MoO h b o u m) (hh : ∀ j, o j ≠ .no → h'[j]? = h[j]?) : MoH h' u m :=
  ⟨x.ofH fun j hj => hh j (by rw [hj]; exact Tg.noConfusion), x.enH fun j hj => hh j (by rw [hj]; exact Tg.noConfusion), x.fiH fun j hj => hh j (by rw [hj]; exact Tg.noConfusion),
   x.inH fun j hj => hh j (by rcases hj with hj | ⟨p, hj⟩ <;> rw [hj] <;> exact Tg.noConfusion), x.lowH fun j hj => hh j (by rcases hj with hj | ⟨p, hj⟩ <;> rw [hj] <;> exact Tg.noConfusion),
   x.retH fun j hj => hh j (by rcases hj with hj | ⟨p, hj⟩ | ⟨p, q, hj⟩ <;> rw [hj] <;> exact Tg.noConfusion), by have := x.szO; omega, by have := x.szE; omega, fun l hl => by have := x.szI l hl; omega, fun l hl => by have := x.szL l hl; omega, fun r hr => ⟨by have := (x.szR r hr).1; omega, fun l hl => by have := (x.szR r hr).2 l hl; omega⟩⟩
theorem MoO.keep {h h' : AH} {b : Nat} {o : Nat → Tg} {u : MoV} {m : Mo} (x : MoO h b o u m) (hl : h.length ≤ h'.length) (hh : ∀ j, o j ≠ .no → h'[j]? = h[j]?) : MoO h' b o u m := by
  obtain ⟨i, e, g, c⟩ := x.of
  obtain ⟨i2, e2, g2, c2⟩ := x.en
  obtain ⟨vs, v1, v2⟩ := x.inn
  obtain ⟨ws, w1, w2⟩ := x.low
  obtain ⟨rs, r1, r2⟩ := x.ret
  exact ⟨⟨i, e, (hh i (by rw [c]; exact Tg.noConfusion)).trans g, c⟩, ⟨i2, e2, (hh i2 (by rw [c2]; exact Tg.noConfusion)).trans g2, c2⟩, x.fi.mono (fun _ _ h => h) fun j _ hj => hh j (by rw [hj]; exact Tg.noConfusion),
    ⟨vs, v1.mono (fun _ _ h => h) fun j _ hj => hh j (by rw [hj]; exact Tg.noConfusion), v2.mono (fun _ => Tg.noConfusion) fun j hj => ⟨rfl, hh j hj⟩⟩,
    ⟨ws, w1.mono (fun _ _ h => h) fun j _ hj => hh j (by rw [hj]; exact Tg.noConfusion), w2.mono (fun _ => Tg.noConfusion) fun j hj => ⟨rfl, hh j hj⟩⟩,
    ⟨rs, r1.mono (fun _ _ h => h) fun j _ hj => hh j (by rw [hj]; exact Tg.noConfusion), r2.mono fun j hj => ⟨rfl, hh j hj⟩⟩, fun j hj => by have := x.on j hj; omega, x.szO, x.szE, x.szI, x.szL, x.szR⟩
theorem lenL {q : Pl} {d : MD} {p : Nat} (v : V3 q d p) (h1 : q.pl ≤ 2) (h2 : 0 ≤ q.cl ∧ q.cl ≤ 2) (h3 : q.n ≤ 8) : (∀ l ∈ d.ins, l.length ≤ 10) ∧ (∀ l ∈ d.lows, l.length ≤ 10) ∧ (∀ r ∈ d.rets, r.length ≤ 10 ∧ ∀ l ∈ r, l.length ≤ 10) := by
  refine ⟨fun l hl => ?_, fun l hl => ?_, fun r hr => ?_⟩
  · obtain ⟨i, hi⟩ := List.getElem?_of_mem hl
    obtain ⟨c, _, h, _⟩ := v.ins i l hi
    omega
  · obtain ⟨i, hi⟩ := List.getElem?_of_mem hl
    obtain ⟨c, _, h, _⟩ := v.lows i l hi
    split at h <;> omega
  · obtain ⟨i, hi⟩ := List.getElem?_of_mem hr
    obtain ⟨c, _, h, h'⟩ := v.rets i r hi
    refine ⟨by split at h <;> omega, fun l hl => by have := (h' l hl).1; omega⟩
theorem flat_eBo (l : List Bool) : flat eBo l = l.map .bool := by
  induction l with
  | nil => rfl
  | cons a l ih => show eBo a ++ flat eBo l = _; rw [ih]; rfl
theorem offId {i n c j : Nat} (h : i ≠ j) : ¬ onId (.slice (some ⟨i, 0, none⟩) n c) j := fun e => h e
def IsMk (a0 : Int) (ns : List Int) (m : Mo) : Prop := ∃ q : Pl, QOf a0 q ∧ m = ⟨q.pl, q.cl, (psEnd ns q).ol, (psEnd ns q).el, (psEnd ns q).fin, (psEnd ns q).ins, (psEnd ns q).lows, (psEnd ns q).rets⟩
theorem IsMk.uniq {a0 : Int} {ns : List Int} {m m' : Mo} (x : IsMk a0 ns m) (y : IsMk a0 ns m') : m = m' := by
  obtain ⟨q, a, e⟩ := x
  obtain ⟨q', b, e'⟩ := y
  have e1 : q.pl = q'.pl := a.pl.trans b.pl.symm
  have e2 : q.cl = q'.cl := a.cl.trans b.cl.symm
  have e3 : q.k = q'.k := by have := a.k; have := b.k; omega
  have e4 : q.n = q'.n := by have := a.n; have := b.n; omega
  have e5 : psEnd ns q = psEnd ns q' := by unfold psEnd; rw [e1, e2, e3, e4]
  rw [e, e', e1, e2, e5]
theorem make14m {h : AH} {a0 : Int} {vns : Value} {ns : List Int} {K : Value → AH → Prop} (hns : Ints h vns ns)
    (k : ∀ h' u m o, Ex h h' → MoO h' h.length o u m → Valid m → IsMk a0 ns m → K (.agg (moRow u m).toArray) h') : callW Try.prog 14 [.int .i64 a0, vns] h K := by
  refine make14 hns fun h' q d hm ok qof D L x' hh => ?_
  have o0 := ok.h0; have o1 := ok.h1; have o2 := ok.h2; have o3 := ok.h3; have o4 := ok.h4; have o5 := ok.h5
  have okk := ok.k; have okn := ok.n; have okp := ok.pl; have okc := ok.cl
  have fx := L.ms.fx
  obtain ⟨bl, bl1, bl2⟩ := L.fin
  have lO := fx.lOf; have lE := fx.lEn
  obtain ⟨zI, zL, zR⟩ := lenL L.v3 okp.2 okc okn.2
  have n1 := L.v3.n1; have n2 := L.v3.n2; have n3 := L.v3.n3
  have s0 := L.ms.sl.own 0 (by omega)
  have s1 := L.ms.sl.own 1 (by omega)
  have s2 := L.ms.sl.own 2 (by omega)
  have s3 := L.ms.sl.own 3 (by omega)
  obtain ⟨a1, n1', c1, e1⟩ := Sl.isSl s0.sl
  obtain ⟨a2, n2', c2, e2⟩ := Sl.isSl s1.sl
  obtain ⟨a3, n3', c3, e3⟩ := Sl.isSl s2.sl
  obtain ⟨a4, n4', c4, e4⟩ := Sl.isSl s3.sl
  have em : mrow q d.v = moRow ⟨(some ⟨q.iOf, 0, none⟩, q.n, q.n), (some ⟨q.iEn, 0, none⟩, q.k, q.k), (a1, n1', c1), (a2, n2', c2), (a3, n3', c3), (a4, n4', c4)⟩ ⟨q.pl, q.cl, d.ol, d.el, bl, d.ins, d.lows, d.rets⟩ := by
    unfold mrow moRow sv
    rw [e1, e2, e3, e4]
  rw [em]
  have ap := L.ms.sl.ap
  have low : ∀ i, i < 11 → ∀ j, onId (d.v i) j → q.b2 < j ∧ j < hm.length := fun i hi j hj => L.ms.sl.on hi hj
  have frz := L.ms.fz
  have hkeep : ∀ j, q.p4 < j → h'[j]? = hm[j]? := fun j hj => hh j (by omega)
  have hl4 : hm.length ≤ h'.length := by
    by_cases hc : hm.length ≤ h'.length
    · exact hc
    · have hlt := L.ms.lt
      have hlast := hkeep (hm.length - 1) (by omega)
      rw [List.getElem?_eq_none (by omega)] at hlast
      have : hm.length - 1 < hm.length := by omega
      rw [List.getElem?_eq_getElem this] at hlast
      cases hlast
  let O : Nat → Tg := paint (paint (paint (paint (paint (paint d.o (d.v 0) .fin) (d.v 1) .inS) (d.v 2) .lowS) (d.v 3) .retS) (.slice (some ⟨q.iOf, 0, none⟩) q.n q.n) .off) (.slice (some ⟨q.iEn, 0, none⟩) q.k q.k) .ent
  have hOe : O q.iEn = .ent := paint_on rfl
  have hOo : O q.iOf = .off := (paint_off (offId (by omega))).trans (paint_on rfl)
  have hO4 : ∀ j, q.b2 < j → O j = paint (paint (paint (paint d.o (d.v 0) .fin) (d.v 1) .inS) (d.v 2) .lowS) (d.v 3) .retS j := fun j hj => (paint_off (offId (by omega))).trans (paint_off (offId (by omega)))
  have hO3 : ∀ j, onId (d.v 3) j → O j = .retS := fun j hj => (hO4 j (low 3 (by omega) j hj).1).trans (paint_on hj)
  have hO2 : ∀ j, onId (d.v 2) j → O j = .lowS := fun j hj => (hO4 j (low 2 (by omega) j hj).1).trans ((paint_off (ap 2 3 (by omega) (by omega) (by omega) j hj)).trans (paint_on hj))
  have hO1 : ∀ j, onId (d.v 1) j → O j = .inS := fun j hj => (hO4 j (low 1 (by omega) j hj).1).trans ((paint_off (ap 1 3 (by omega) (by omega) (by omega) j hj)).trans ((paint_off (ap 1 2 (by omega) (by omega) (by omega) j hj)).trans (paint_on hj)))
  have hO0 : ∀ j, onId (d.v 0) j → O j = .fin := fun j hj => (hO4 j (low 0 (by omega) j hj).1).trans ((paint_off (ap 0 3 (by omega) (by omega) (by omega) j hj)).trans ((paint_off (ap 0 2 (by omega) (by omega) (by omega) j hj)).trans ((paint_off (ap 0 1 (by omega) (by omega) (by omega) j hj)).trans (paint_on hj))))
  have hOz : ∀ j, d.o j ≠ .no → O j = d.o j := fun j hj => by
    have f := frz j hj
    exact (hO4 j f.1).trans ((paint_off (f.2.2 3 (by omega))).trans ((paint_off (f.2.2 2 (by omega))).trans ((paint_off (f.2.2 1 (by omega))).trans (paint_off (f.2.2 0 (by omega))))))
  have hOn : ∀ j, O j ≠ .no → h.length ≤ j ∧ j < h'.length := fun j hj => by
    have hlt := L.ms.lt
    by_cases b1 : j = q.iEn
    · omega
    by_cases b2 : j = q.iOf
    · omega
    have eO : O j = paint (paint (paint (paint d.o (d.v 0) .fin) (d.v 1) .inS) (d.v 2) .lowS) (d.v 3) .retS j := (paint_off (offId (Ne.symm b1))).trans (paint_off (offId (Ne.symm b2)))
    rw [eO] at hj
    by_cases b3 : onId (d.v 3) j
    · have := low 3 (by omega) j b3; omega
    rw [paint_off b3] at hj
    by_cases b4 : onId (d.v 2) j
    · have := low 2 (by omega) j b4; omega
    rw [paint_off b4] at hj
    by_cases b5 : onId (d.v 1) j
    · have := low 1 (by omega) j b5; omega
    rw [paint_off b5] at hj
    by_cases b6 : onId (d.v 0) j
    · have := low 0 (by omega) j b6; omega
    rw [paint_off b6] at hj
    have := frz j hj
    omega
  have fzm : ∀ j, d.o j ≠ .no → O j = d.o j ∧ h'[j]? = hm[j]? := fun j hj => ⟨hOz j hj, hkeep j (by have := (frz j hj).1; omega)⟩
  have r1 := L.ms.rIn.mono (fun _ => Tg.noConfusion) fzm
  have r2 := L.ms.rLow.mono (fun _ => Tg.noConfusion) fzm
  have r3 := L.ms.rRet.mono fzm
  refine k h' _ _ O x' ⟨⟨q.iOf, ?_, (hkeep _ (by omega)).trans fx.rOf, hOo⟩, ⟨q.iEn, ?_, (hkeep _ (by omega)).trans fx.rEn, hOe⟩, ?_, ⟨d.cs 1, ?_, r1⟩, ⟨d.cs 2, ?_, r2⟩, ⟨d.cs 3, ?_, r3⟩, hOn, ?_, ?_, zI, zL, zR⟩ ?_ ⟨q, qof, ?_⟩
  rotate_right
  · have ebl : bl = (psEnd ns q).fin := (List.map_inj_right (fun a b e => by injection e)).1 (bl1.symm.trans D.fin)
    rw [← D.ol, ← D.el, ← D.ins, ← D.lows, ← D.rets, ← ebl]
  · show (some _, q.n, q.n) = (some _, d.ol.length, d.ol.length)
    rw [lO]
  · show (some _, q.k, q.k) = (some _, d.el.length, d.el.length)
    rw [lE]
  · show OwnG 1 _ h' (.slice a1 n1' c1) bl.length (flat eBo bl)
    rw [← e1, flat_eBo, ← bl1]
    have e : bl.length = (d.cs 0).length := by rw [bl1, List.length_map]
    rw [e]
    exact s0.mono (fun j hj _ => hO0 j hj) fun j hj _ => hkeep j (by have := low 0 (by omega) j hj; omega)
  · show OwnG 1 _ h' (.slice a2 n2' c2) d.ins.length (d.cs 1)
    rw [← e2, ← L.ms.rIn.1]
    exact s1.mono (fun j hj _ => hO1 j hj) fun j hj _ => hkeep j (by have := low 1 (by omega) j hj; omega)
  · show OwnG 1 _ h' (.slice a3 n3' c3) d.lows.length (d.cs 2)
    rw [← e3, ← L.ms.rLow.1]
    exact s2.mono (fun j hj _ => hO2 j hj) fun j hj _ => hkeep j (by have := low 2 (by omega) j hj; omega)
  · show OwnG 1 _ h' (.slice a4 n4' c4) d.rets.length (d.cs 3)
    rw [← e4, ← L.ms.rRet.1]
    exact s3.mono (fun j hj _ => hO3 j hj) fun j hj _ => hkeep j (by have := low 3 (by omega) j hj; omega)
  · show d.ol.length ≤ 10; omega
  · show d.el.length ≤ 10; omega
  · have oln : d.ol.length = q.n := lO
    refine ⟨by show 0 ≤ q.pl ∧ q.pl < 21; omega, by show 0 ≤ q.cl ∧ q.cl < 21; omega, by show 1 ≤ (d.ol.length : Int); omega, by show (d.ol.length : Int) ≤ 60; omega, by show 1 ≤ (d.el.length : Int); omega, by show (d.el.length : Int) ≤ 21; omega, fun i x hx => ?_, fun i x hx => ?_, by show bl.length = d.ol.length; omega, by show d.ins.length = d.ol.length; omega, by show d.lows.length = d.ol.length; omega, by show d.rets.length = d.ol.length; omega, fun p hp => ⟨fun c l hc hl => ?_, fun c lo re hc hlo hre => ?_⟩⟩
    · have := fx.bOf x (List.mem_of_getElem? hx)
      show 0 ≤ x ∧ x < (d.el.length : Int)
      omega
    · have hi := (List.getElem?_eq_some_iff.1 hx).1
      obtain ⟨y, y1, y2⟩ := L.ent i (by have : i < d.el.length := hi; omega)
      have : x = y := by
        have hx' : d.el[i]? = some x := hx
        rw [y1] at hx'
        cases hx'
        rfl
      subst this
      show Mem d.ol d.ol.length i x
      rw [oln]
      exact y2
    · obtain ⟨c', a1, a2, a3⟩ := L.v3.ins p l hl
      have : c = c' := by
        have hc' : d.ol[p]? = some c := hc
        rw [a1] at hc'
        cases hc'
        rfl
      subst this
      refine ⟨a2, fun i x hx => ?_⟩
      show Mem d.ol d.ol.length c x
      rw [oln]
      exact a3 x (List.mem_of_getElem? hx)
    · obtain ⟨c', a1, a2, a3⟩ := L.v3.lows p lo hlo
      have : c = c' := by
        have hc' : d.ol[p]? = some c := hc
        rw [a1] at hc'
        cases hc'
        rfl
      subst this
      obtain ⟨c', b1, b2, b3⟩ := L.v3.rets p re hre
      have : c = c' := by
        have hc' : d.ol[p]? = some c := hc
        rw [b1] at hc'
        cases hc'
        rfl
      subst this
      refine ⟨fun e0 => ⟨?_, ?_, fun i x hx => ?_⟩, fun e0 => ⟨?_, ?_, fun j l hl => ⟨?_, fun i x hx => ?_⟩⟩⟩
      · rw [if_pos e0] at b2; omega
      · rw [if_pos e0] at a2; exact a2
      · show Mem d.ol d.ol.length 0 x
        rw [oln]
        exact a3 x (List.mem_of_getElem? hx)
      · rw [if_neg e0] at a2; omega
      · rw [if_neg e0] at b2; exact b2
      · show l.length = d.ol.length
        rw [oln]
        exact (b3 l (List.mem_of_getElem? hl)).1
      · obtain ⟨c2, g1, g2⟩ := (b3 l (List.mem_of_getElem? hl)).2 i x hx
        refine ⟨c2, g1, ?_⟩
        show Mem d.ol d.ol.length c2 x
        rw [oln]
        exact g2
end Go.Proofs.Ytnpbehfhncbjfaa.W
end
