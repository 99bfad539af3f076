/- Parts of a proof, joined by a program. Conditions: none. -/
import Derived.Test.YtnpbehfhncbjfaaRB0
import Derived.Test.YtnpbehfhncbjfaaRS0
import Derived.Test.YtnpbehfhncbjfaaRA2

section
/- Fold's laws: the code's Check. Conditions: none. -/
namespace Go.Proofs.Ytnpbehfhncbjfaa.W
open Go Go.AM
set_option linter.unusedVariables false
set_option maxRecDepth 100000
def RowOK (m : Mo) (l : List Int) (long c : Int) : Prop := (l.length : Int) = long ∧ ∀ (k : Nat) (x : Int), l[k]? = some x → Mem m.Of m.Of.length c x
def RetOK (m : Mo) (r : List (List Int)) : Prop := (r.length : Int) = m.cl ∧ ∀ (j : Nat) (l : List Int), r[j]? = some l → l.length = m.Of.length ∧ ∀ (k : Nat) (x : Int), l[k]? = some x → ∃ c, m.Of[k]? = some c ∧ Mem m.Of m.Of.length c x
def InOK (m : Mo) (p : Nat) : Prop := ∀ (c : Int) (l : List Int), m.Of[p]? = some c → m.In[p]? = some l → RowOK m l m.pl c
def ClOK (m : Mo) (p : Nat) : Prop := ∀ (c : Int) (lo : List Int) (re : List (List Int)), m.Of[p]? = some c → m.Low[p]? = some lo → m.Ret[p]? = some re → (c = 0 → re.length = 0 ∧ RowOK m lo m.cl 0) ∧ (c ≠ 0 → lo.length = 0 ∧ RetOK m re)
structure Valid (m : Mo) : Prop where
  pl : 0 ≤ m.pl ∧ m.pl < 21
  cl : 0 ≤ m.cl ∧ m.cl < 21
  n1 : 1 ≤ (m.Of.length : Int)
  n2 : (m.Of.length : Int) ≤ 60
  k1 : 1 ≤ (m.En.length : Int)
  k2 : (m.En.length : Int) ≤ 21
  of : ∀ (k : Nat) (x : Int), m.Of[k]? = some x → 0 ≤ x ∧ x < (m.En.length : Int)
  en : ∀ (k : Nat) (x : Int), m.En[k]? = some x → Mem m.Of m.Of.length k x
  lf : m.Fi.length = m.Of.length
  li : m.In.length = m.Of.length
  ll : m.Low.length = m.Of.length
  lr : m.Ret.length = m.Of.length
  st : ∀ p, p < m.Of.length → InOK m p ∧ ClOK m p
theorem read_cons {b : Array Nat} {j k : Nat} {xs : List Nat} {hb ha : AH} {S : ST} {K : Prop} (h : ∀ x ∈ xs, hb[x]? = ha[x]?) (r : readC b j hb ha S K) : readC b j hb ha ((k, xs) :: S) K := by
  unfold readC
  split
  · exact ⟨h, r⟩
  · exact r
theorem hist_cons {b : Array Nat} {j k : Nat} {xs : List Nat} {hb ha : AH} {H : HT} {K : Prop} (h : ∀ x ∈ xs, hb[x]? = ha[x]?) (r : histC b j xs H K) : histC b j xs ((k, hb, ha) :: H) K := by
  unfold histC
  split
  · exact ⟨h, r⟩
  · exact r
theorem idxV {h : AH} {v : Value} {n : Nat} {vals : List Value} {i : Nat} {x : Value} {K : Value → Prop} (hv : Sl 1 h v n vals) (hx : vals[i]? = some x) (k : ∀ p, PtrTo h p [x] → K p) : optW (pIdxS 1 v (.int .i64 (i : Nat))) K := by
  have hl : vals.length = n := by have := hv.1; omega
  have hi := (List.getElem?_eq_some_iff.1 hx).1
  refine w_idx hv (by omega) (by omega) fun p hp => k p ?_
  have e : (vals.drop (((i : Nat) : Int).toNat * 1)).take 1 = [x] := by
    rw [Int.toNat_natCast, Nat.mul_one, List.drop_eq_getElem_cons hi]
    have := (List.getElem?_eq_some_iff.1 hx).2
    rw [this]
    rfl
  rw [e] at hp
  exact hp
theorem cls50 {h : AH} {b b5 : Nat} {u : MoV} {m : Mo} {w w' : Bool} {k : Nat} {x : Int} {K : Value → AH → Prop} (g : h[b]? = some (.row (moRow u m) w)) (g5 : h[b5]? = some (.row [.func (.func 48) #[] #[.pointer (some ⟨b, 0, none⟩)]] w')) (mh : MoH h u m)
    (kk : ∀ r h', Ex h h' → (r = true ↔ ∃ c, m.Of[k]? = some c ∧ Mem m.Of m.Of.length c x) → K (.bool r) h') : callV (callW Try.prog) (.func (.func 50) #[] #[.pointer (some ⟨b, 0, none⟩), .pointer (some ⟨b5, 0, none⟩)]) [.int .i64 (k : Nat), .int .i64 x] h K := by
  show callW Try.prog 50 [.int .i64 (k : Nat), .int .i64 x, .pointer (some ⟨b, 0, none⟩), .pointer (some ⟨b5, 0, none⟩)] h K
  refine c50 ?_
  unfold s50
  have of := mh.of
  refine w_offP (w_rdP g (v := sv u.vo) rfl (w_len of (w_lss ?_)))
  by_cases q : (k : Int) < ((m.Of.length : Nat) : Int)
  · obtain ⟨c, hc⟩ := getElem?_of_lt (l := m.Of) (i := k) (by omega)
    refine gd_tt q (w_rdP g5 rfl (gd_tt q (w_offP (gd_tt q (hist_nil (w_rdP g (v := sv u.vo) rfl (gd_tt q (gd_tt q (w_idxN eI_len of hc fun z hz => gd_tt q (hist_nil (w_rd1 hz rfl (gd_tt q ?_))))))))))))
    refine cls48 fun h1 x1 g1 => ?_
    refine read_cons (hz.ids (Ex.refl _) x1) (read_cons (idrow g (x1.some g)) (read_cons (idrow g5 (x1.some g5)) (read_cons (idrow g (x1.some g)) (read_nil ?_))))
    refine gd_tt q (gd_tt q (gd_tt q ?_))
    refine cls49 (x1.some g) g1 (mh.ex x1) fun r hr => read_same ?_
    refine pk_tt q (kk r h1 x1 ⟨fun h => ⟨c, hc, hr.1 h⟩, fun ⟨d, hd, hm⟩ => ?_⟩)
    rw [hc] at hd
    cases hd
    exact hr.2 hm
  · refine gd_tf q (gd_tf q (gd_tf q (gd_tf q (gd_tf q (gd_tf q (gd_tf q (gd_tf q (gd_tf q (gd_tf q (pk_ff q ?_))))))))))
    refine kk _ h (Ex.refl _) ⟨fun h => (by cases h), fun ⟨d, hd, hm⟩ => ?_⟩
    have := (List.getElem?_eq_some_iff.1 hd).1
    exact absurd (by omega) q
theorem closings36 {h : AH} {u : MoV} {m : Mo} {p : Nat} {c : Int} {lo : List Int} {re : List (List Int)} {K : Value → AH → Prop} (mh : MoH h u m) (hc : m.Of[p]? = some c) (hlo : m.Low[p]? = some lo) (hre : m.Ret[p]? = some re)
    (kk : ∀ r h', Ex h h' → (r = true ↔ ClOK m p) → K (.bool r) h') : callW Try.prog 36 [.agg (moRow u m).toArray, .int .i64 (p : Nat)] h K := by
  refine c36 ?_
  unfold s36
  refine n_boxv rfl fun h1 x1 l1 g1 => n_rowv fun h2 x2 l2 g2 => w_stP g2 (Nat.zero_lt_one) rfl rfl ?_
  have lt2 := lt_of_get g2
  have x3 : Ex h1 (h2.set h1.length (.row ([Value.nilFunc].set 0 (.func (.func 48) #[] #[.pointer (some ⟨h.length, 0, none⟩)])) true)) := x2.set (Nat.le_refl _) _
  have g5 : (h2.set h1.length (.row ([Value.nilFunc].set 0 (.func (.func 48) #[] #[.pointer (some ⟨h.length, 0, none⟩)])) true))[h1.length]? = some (.row [.func (.func 48) #[] #[.pointer (some ⟨h.length, 0, none⟩)]] true) := get_set _ lt2 _
  generalize hH : h2.set h1.length _ = h3
  have e3 : h2.set h1.length (.row ([Value.nilFunc].set 0 (.func (.func 48) #[] #[.pointer (some ⟨h.length, 0, none⟩)])) true) = h3 := hH
  rw [e3] at x3 g5
  clear hH e3
  have x03 : Ex h h3 := x1.trans x3
  have g : h3[h.length]? = some (.row (moRow u m) true) := x3.some g1
  have m3 := mh.ex x03
  have of := m3.of
  have hclok : ∀ r : Bool, (r = true ↔ (c = 0 → re.length = 0 ∧ RowOK m lo m.cl 0) ∧ (c ≠ 0 → lo.length = 0 ∧ RetOK m re)) → (r = true ↔ ClOK m p) := fun r hr => hr.trans ⟨fun h c' lo' re' h1 h2 h3 => by
    rw [hc] at h1; rw [hlo] at h2; rw [hre] at h3
    cases h1; cases h2; cases h3
    exact h, fun h => h c lo re hc hlo hre⟩
  obtain ⟨lv, lv1, lv2⟩ := m3.low
  obtain ⟨wl, wl1, wl2⟩ := lv2 p lo hlo
  obtain ⟨rv, rv1, rv2⟩ := m3.ret
  obtain ⟨wr, wr1, wr2⟩ := rv2 p re hre
  obtain ⟨rrv, rrv1, rrv2⟩ := wr2
  have szl := m3.szL lo (List.mem_of_getElem? hlo)
  have szr := m3.szR re (List.mem_of_getElem? hre)
  refine w_offP (w_rdP g (v := sv u.vo) rfl (w_idxN eI_len of hc fun z hz => w_rd1 hz rfl (w_eql (c_dec (fun qc => ?_) (fun qc => ?_)))))
  · refine w_offP (w_rdP g (v := sv u.vr) rfl (idxV rv1 wr1 fun z1 hz1 => w_rd1 hz1 rfl (w_len rrv1 (w_eql ?_))))
    by_cases q : ((re.length : Nat) : Int) = 0
    · refine gd_tt q (w_offP (gd_tt q (hist_nil (w_rdP g (v := sv u.vl) rfl (gd_tt q (gd_tt q (idxV lv1 wl1 fun z2 hz2 => gd_tt q (hist_nil (w_rd1 hz2 rfl ?_)))))))))
      refine gd_tt q (w_offP (gd_tt q (hist_nil (w_rdP g (v := .int .i64 m.cl) rfl (gd_tt q (hist_nil (w_rdP g5 rfl (gd_tt q ?_))))))))
      refine cls48 fun h4 x4 g4 => ?_
      refine read_cons (idrow g5 (x4.some g5)) (read_cons (idrow g (x4.some g)) (read_cons (hz2.ids (Ex.refl _) x4) (read_cons (idrow g (x4.some g)) (read_cons (hz1.ids (Ex.refl _) x4) (read_cons (idrow g (x4.some g)) (read_nil ?_))))))
      refine gd_tt q ?_
      refine row32 (R := fun a b => a = b) (may := fun _ x => Mem m.Of m.Of.length 0 x) (fun _ => rfl) (fun a b => a.trans b) (fun e => e ▸ Ex.refl _) (Sl.ex wl2 x4) szl (fun k x hc' K' hk hh k' => ?_) fun r h5 hr5 hr => ?_
      · subst hh
        exact cls49 (x4.some g) g4 (m3.ex x4) fun r hr => k' r _ rfl hr
      · subst hr5
        refine read_same (pk_tt q ?_)
        refine kk r h4 (x03.trans x4) (hclok r (hr.trans ⟨fun h => ⟨fun _ => ⟨by omega, h.1, h.2⟩, fun hn => absurd qc hn⟩, fun h => (h.1 qc).2⟩))
    · refine gd_tf q (gd_tf q (gd_tf q (gd_tf q (gd_tf q (gd_tf q (gd_tf q (gd_tf q (gd_tf q (gd_tf q (pk_ff q ?_))))))))))
      exact kk _ h3 x03 (hclok _ ⟨fun h => (by cases h), fun h => absurd (h.1 qc).1 (by omega)⟩)
  · refine w_offP (w_rdP g (v := sv u.vl) rfl (idxV lv1 wl1 fun z1 hz1 => w_rd1 hz1 rfl (w_len wl2 (w_neq ?_))))
    by_cases q : ¬ ((lo.length : Nat) : Int) = 0
    · refine gd_ft q (gd_ft q (gd_ft q (gd_ft q (gd_ft q (gd_ft q (gd_ft q (gd_ft q (gd_ft q (pk_tt q (c_t ?_))))))))))
      exact kk _ h3 x03 (hclok _ ⟨fun h => (by cases h), fun h => absurd (h.2 qc).1 (by omega)⟩)
    · refine gd_ff q (w_offP (gd_ff q (hist_nil (w_rdP g (v := sv u.vr) rfl (gd_ff q (gd_ff q (idxV rv1 wr1 fun z2 hz2 => gd_ff q (hist_nil (w_rd1 hz2 rfl ?_)))))))))
      refine gd_ff q (w_len rrv1 (gd_ff q (w_offP (gd_ff q (hist_nil (w_rdP g (v := .int .i64 m.cl) rfl (gd_ff q (w_neq (pk_ff q ?_)))))))))
      refine c_dec (fun q2 => ?_) (fun q2 => ?_)
      · exact kk _ h3 x03 (hclok _ ⟨fun h => (by cases h), fun h => absurd (h.2 qc).2.1 q2⟩)
      refine w_offP (w_rdP g (v := sv u.vr) rfl (idxV rv1 wr1 fun z3 hz3 => w_rd1 hz3 rfl (w_len rrv1 ?_)))
      refine loopE_intro (fun mm e h' => ∃ j : Nat, j ≤ re.length ∧ mm = re.length - j ∧ e 2 = .pointer (some ⟨h.length, 0, none⟩) ∧ e 5 = .pointer (some ⟨h1.length, 0, none⟩) ∧ e 56 = wr ∧ e 57 = .int .i64 (re.length : Nat) ∧ e 58 = .int .i64 (j : Nat) ∧ Ex h3 h' ∧ ∀ (a : Nat) (l : List Int), a < j → re[a]? = some l → l.length = m.Of.length ∧ ∀ (k : Nat) (x : Int), l[k]? = some x → ∃ c, m.Of[k]? = some c ∧ Mem m.Of m.Of.length c x) re.length
        ⟨0, Nat.zero_le _, rfl, rfl, rfl, rfl, rfl, rfl, Ex.refl _, fun a l ha => by omega⟩ ?_
      rintro I mm e h4 ⟨j, hj, hmm, e2, e5, e56, e57, e58, x4, hall⟩ ih
      rw [e2, e5, e56, e57, e58]
      refine w_lss (c_dec (fun q3 => ?_) (fun q3 => ?_))
      · obtain ⟨l, hl⟩ := getElem?_of_lt (l := re) (i := j) (by omega)
        obtain ⟨wj, wj1, wj2⟩ := rrv2 j l hl
        refine idxV (rrv1.ex x4) wj1 fun z4 hz4 => w_rd1 hz4 rfl (w_offP (w_rdP (x4.some g) (v := sv u.vo) rfl (w_len (Sl.ex of x4) ?_)))
        refine row32 (R := Ex) (may := fun k x => ∃ c, m.Of[k]? = some c ∧ Mem m.Of m.Of.length c x) Ex.refl (fun a b => a.trans b) (fun e => e) (Sl.ex wj2 x4) (szr.2 l (List.mem_of_getElem? hl)) (fun k x hd K' hk hh k' => ?_) fun r h5 hr5 hr => ?_
        · exact cls50 ((x4.trans hh).some g) ((x4.trans hh).some g5) (m3.ex (x4.trans hh)) fun r h6 x6 hr => k' r h6 x6 hr
        · cases r with
          | true =>
            refine w_notb (c_f (w_add (by omega) (by omega) ?_))
            refine ih (re.length - (j + 1)) _ _ (by omega) ⟨j + 1, by omega, rfl, e2, e5, e56, e57, rfl, x4.trans hr5, fun a l' ha hl' => ?_⟩
            by_cases ea : a = j
            · subst ea
              rw [hl] at hl'
              cases hl'
              have := hr.1 rfl
              exact ⟨by omega, this.2⟩
            · exact hall a l' (by omega) hl'
          | false =>
            refine w_notb (c_t ?_)
            refine kk _ h5 ((x03.trans x4).trans hr5) (hclok _ ⟨fun h => (by cases h), fun h => ?_⟩)
            have := (h.2 qc).2.2 j l hl
            have := hr.2 ⟨by omega, this.2⟩
            cases this
      · refine kk _ h4 (x03.trans x4) (hclok _ ⟨fun _ => ⟨fun h => absurd h qc, fun _ => ⟨by omega, by omega, fun a l hl => hall a l (by have := (List.getElem?_eq_some_iff.1 hl).1; omega) hl⟩⟩, fun _ => rfl⟩)
theorem check15 {h : AH} {u : MoV} {m : Mo} {K : Value → AH → Prop} (mh : MoH h u m) (kf : ¬ Valid m → ∀ h', Ex h h' → K (.int .i64 11) h') (kt : Valid m → ∀ h', Ex h h' → K (.int .i64 0) h') : callW Try.prog 15 [.agg (moRow u m).toArray] h K := by
  have szO := mh.szO
  have szE := mh.szE
  refine c15 ?_
  unfold s15
  refine n_boxv rfl fun h1 x1 l1 g1 => ?_
  have g1' : h1[h.length]? = some (.row (moRow u m) true) := g1
  refine w_offP (w_rdP g1' (v := sv u.vo) rfl (w_len (Sl.ex mh.of x1) ?_))
  refine n_rowv fun h2 x2 l2 g2 => w_stP g2 (Nat.zero_lt_one) rfl rfl ?_
  have lt2 := lt_of_get g2
  have x3 : Ex h1 (h2.set h1.length (.row ([Value.int .i64 0].set 0 (.int .i64 (m.Of.length : Nat))) true)) := x2.set (Nat.le_refl _) _
  have gn : (h2.set h1.length (.row ([Value.int .i64 0].set 0 (.int .i64 (m.Of.length : Nat))) true))[h1.length]? = some (.row [.int .i64 (m.Of.length : Nat)] true) := get_set _ lt2 _
  generalize hH : h2.set h1.length _ = h3
  have e3 : h2.set h1.length (.row ([Value.int .i64 0].set 0 (.int .i64 (m.Of.length : Nat))) true) = h3 := hH
  rw [e3] at x3 gn
  clear hH e3
  have x03 : Ex h h3 := x1.trans x3
  have g : h3[h.length]? = some (.row (moRow u m) true) := x3.some g1
  have m3 := mh.ex x03
  have of := m3.of
  have en := m3.en
  refine w_offP (w_rdP g (v := .int .i64 m.pl) rfl (within31 ?_))
  by_cases q : 0 ≤ m.pl ∧ m.pl < 21
  case neg =>
    refine g_tf q (g_tf q (g_tf q (pk_ff q (gc_tf (gc_tf (pk_f (gc_tf (gc_tf (pk_f (gc_tf (gc_tf (gc_tf (gc_tf (pk_f (gc_tf (gc_tf (gc_tf (gc_tf (pk_f (gc_tf (gc_tf (gc_tf (gc_tf (gc_tf (pk_f (gc_tf (gc_tf (gc_tf (gc_tf (gc_tf (gc_tf (gc_tf (pk_f (w_notb (gc_ft (gc_ft (gc_ft (gc_ft (gc_ft (pk_t (gc_ft (gc_ft (gc_ft (gc_ft (gc_ft (pk_t (gc_ft (gc_ft (gc_ft (gc_ft (gc_ft (pk_t (gc_ft (gc_ft (gc_ft (gc_ft (gc_ft (pk_t (c_t (?_))))))))))))))))))))))))))))))))))))))))))))))))))))))))))))
    exact kf (fun v => q v.pl) _ x03
  have vpl := q
  refine g_tt q (w_offP (g_tt q (w_rdP g (v := .int .i64 m.cl) rfl (g_tt q (within31 (pk_tt q ?_))))))
  clear q
  by_cases q : 0 ≤ m.cl ∧ m.cl < 21
  case neg =>
    refine g_tf q (g_tf q (pk_ff q (gc_tf (gc_tf (pk_f (gc_tf (gc_tf (gc_tf (gc_tf (pk_f (gc_tf (gc_tf (gc_tf (gc_tf (pk_f (gc_tf (gc_tf (gc_tf (gc_tf (gc_tf (pk_f (gc_tf (gc_tf (gc_tf (gc_tf (gc_tf (gc_tf (gc_tf (pk_f (w_notb (gc_ft (gc_ft (gc_ft (gc_ft (gc_ft (pk_t (gc_ft (gc_ft (gc_ft (gc_ft (gc_ft (pk_t (gc_ft (gc_ft (gc_ft (gc_ft (gc_ft (pk_t (gc_ft (gc_ft (gc_ft (gc_ft (gc_ft (pk_t (c_t (?_))))))))))))))))))))))))))))))))))))))))))))))))))))))))
    exact kf (fun v => q v.cl) _ x03
  have vcl := q
  refine g_tt q (w_rdP gn (v := .int .i64 (m.Of.length : Nat)) rfl (g_tt q (w_geq (pk_tt q ?_))))
  clear q
  by_cases q : 1 ≤ (m.Of.length : Int)
  case neg =>
    refine g_tf q (g_tf q (pk_ff q (gc_tf (gc_tf (gc_tf (gc_tf (pk_f (gc_tf (gc_tf (gc_tf (gc_tf (pk_f (gc_tf (gc_tf (gc_tf (gc_tf (gc_tf (pk_f (gc_tf (gc_tf (gc_tf (gc_tf (gc_tf (gc_tf (gc_tf (pk_f (w_notb (gc_ft (gc_ft (gc_ft (gc_ft (gc_ft (pk_t (gc_ft (gc_ft (gc_ft (gc_ft (gc_ft (pk_t (gc_ft (gc_ft (gc_ft (gc_ft (gc_ft (pk_t (gc_ft (gc_ft (gc_ft (gc_ft (gc_ft (pk_t (c_t (?_)))))))))))))))))))))))))))))))))))))))))))))))))))))
    exact kf (fun v => q v.n1) _ x03
  have vn1 := q
  refine g_tt q (w_rdP gn (v := .int .i64 (m.Of.length : Nat)) rfl (g_tt q (w_leq (pk_tt q ?_))))
  clear q
  by_cases q : (m.Of.length : Int) ≤ 60
  case neg =>
    refine g_tf q (g_tf q (g_tf q (g_tf q (pk_ff q (gc_tf (gc_tf (gc_tf (gc_tf (pk_f (gc_tf (gc_tf (gc_tf (gc_tf (gc_tf (pk_f (gc_tf (gc_tf (gc_tf (gc_tf (gc_tf (gc_tf (gc_tf (pk_f (w_notb (gc_ft (gc_ft (gc_ft (gc_ft (gc_ft (pk_t (gc_ft (gc_ft (gc_ft (gc_ft (gc_ft (pk_t (gc_ft (gc_ft (gc_ft (gc_ft (gc_ft (pk_t (gc_ft (gc_ft (gc_ft (gc_ft (gc_ft (pk_t (c_t (?_))))))))))))))))))))))))))))))))))))))))))))))))))
    exact kf (fun v => q v.n2) _ x03
  have vn2 := q
  refine g_tt q (w_offP (g_tt q (w_rdP g (v := sv u.ve) rfl (g_tt q (w_len en (g_tt q (w_geq (pk_tt q ?_))))))))
  clear q
  by_cases q : 1 ≤ (m.En.length : Int)
  case neg =>
    refine g_tf q (g_tf q (g_tf q (g_tf q (pk_ff q (gc_tf (gc_tf (gc_tf (gc_tf (gc_tf (pk_f (gc_tf (gc_tf (gc_tf (gc_tf (gc_tf (gc_tf (gc_tf (pk_f (w_notb (gc_ft (gc_ft (gc_ft (gc_ft (gc_ft (pk_t (gc_ft (gc_ft (gc_ft (gc_ft (gc_ft (pk_t (gc_ft (gc_ft (gc_ft (gc_ft (gc_ft (pk_t (gc_ft (gc_ft (gc_ft (gc_ft (gc_ft (pk_t (c_t (?_)))))))))))))))))))))))))))))))))))))))))))))
    exact kf (fun v => q v.k1) _ x03
  have vk1 := q
  refine g_tt q (w_offP (g_tt q (w_rdP g (v := sv u.ve) rfl (g_tt q (w_len en (g_tt q (w_leq (pk_tt q ?_))))))))
  clear q
  by_cases q : (m.En.length : Int) ≤ 21
  case neg =>
    refine g_tf q (g_tf q (g_tf q (g_tf q (g_tf q (pk_ff q (gc_tf (gc_tf (gc_tf (gc_tf (gc_tf (gc_tf (gc_tf (pk_f (w_notb (gc_ft (gc_ft (gc_ft (gc_ft (gc_ft (pk_t (gc_ft (gc_ft (gc_ft (gc_ft (gc_ft (pk_t (gc_ft (gc_ft (gc_ft (gc_ft (gc_ft (pk_t (gc_ft (gc_ft (gc_ft (gc_ft (gc_ft (pk_t (c_t (?_))))))))))))))))))))))))))))))))))))))))
    exact kf (fun v => q v.k2) _ x03
  have vk2 := q
  refine g_tt q (w_offP (g_tt q (w_rdP g (v := sv u.vo) rfl (g_tt q (w_rdP gn (v := .int .i64 (m.Of.length : Nat)) rfl (g_tt q (g_tt q ?_)))))))
  refine row32 (R := fun a b => a = b) (may := fun _ x => 0 ≤ x ∧ x < (m.En.length : Int)) (fun _ => rfl) (fun a b => a.trans b) (fun e => e ▸ Ex.refl _) of szO (fun k x hc K' hk hh k' => ?_) fun r h4 hr4 hr => ?_
  · subst hh
    exact cls33 g m3 fun r hr => k' r _ rfl hr
  subst hr4
  refine pk_tt q ?_
  clear q
  cases r with
  | false =>
    refine gc_tf (gc_tf (gc_tf (gc_tf (gc_tf (gc_tf (gc_tf (pk_f (w_notb (gc_ft (gc_ft (gc_ft (gc_ft (gc_ft (pk_t (gc_ft (gc_ft (gc_ft (gc_ft (gc_ft (pk_t (gc_ft (gc_ft (gc_ft (gc_ft (gc_ft (pk_t (gc_ft (gc_ft (gc_ft (gc_ft (gc_ft (pk_t (c_t (?_))))))))))))))))))))))))))))))))))
    exact kf (fun v => by have := hr.2 ⟨rfl, v.of⟩; cases this) _ x03
  | true =>
  have vof := (hr.1 rfl).2
  clear hr
  refine gc_tt (w_offP (gc_tt (w_rdP g (v := sv u.ve) rfl (gc_tt (w_offP (gc_tt (w_rdP g (v := sv u.ve) rfl (gc_tt (w_len en (gc_tt (gc_tt ?_)))))))))))
  refine row32 (R := fun a b => a = b) (may := fun k x => Mem m.Of m.Of.length k x) (fun _ => rfl) (fun a b => a.trans b) (fun e => e ▸ Ex.refl _) en szE (fun k x hc K' hk hh k' => ?_) fun r h4 hr4 hr => ?_
  · subst hh
    exact cls34 g gn m3 fun r hr => k' r _ rfl hr
  subst hr4
  refine pk_t ?_
  cases r with
  | false =>
    refine w_notb (gc_ft (gc_ft (gc_ft (gc_ft (gc_ft (pk_t (gc_ft (gc_ft (gc_ft (gc_ft (gc_ft (pk_t (gc_ft (gc_ft (gc_ft (gc_ft (gc_ft (pk_t (gc_ft (gc_ft (gc_ft (gc_ft (gc_ft (pk_t (c_t (?_))))))))))))))))))))))))))
    exact kf (fun v => by have := hr.2 ⟨rfl, v.en⟩; cases this) _ x03
  | true =>
  have ven := (hr.1 rfl).2
  clear hr
  obtain ⟨iv, iv1, iv2⟩ := m3.inn
  obtain ⟨lv, lv1, lv2⟩ := m3.low
  obtain ⟨rv, rv1, rv2⟩ := m3.ret
  refine w_notb (gc_ff (w_offP (gc_ff (w_rdP g (v := sv u.vf) rfl (gc_ff (w_len m3.fi (gc_ff (w_rdP gn (v := .int .i64 (m.Of.length : Nat)) rfl (gc_ff (w_neq (pk_f ?_)))))))))))
  by_cases q : ¬ (m.Fi.length : Int) = (m.Of.length : Nat)
  · refine g_ft q (g_ft q (g_ft q (g_ft q (g_ft q (pk_tt q (gc_ft (gc_ft (gc_ft (gc_ft (gc_ft (pk_t (gc_ft (gc_ft (gc_ft (gc_ft (gc_ft (pk_t (c_t (?_)))))))))))))))))))
    exact kf (fun v => q (by rw [v.lf])) _ x03
  have vlf := q
  refine g_ff q (w_offP (g_ff q (w_rdP g (v := sv u.vi) rfl (g_ff q (w_len iv1 (g_ff q (w_rdP gn (v := .int .i64 (m.Of.length : Nat)) rfl (g_ff q (w_neq (pk_ff q ?_))))))))))
  clear q
  by_cases q : ¬ (m.In.length : Int) = (m.Of.length : Nat)
  · refine g_ft q (g_ft q (g_ft q (g_ft q (g_ft q (pk_tt q (gc_ft (gc_ft (gc_ft (gc_ft (gc_ft (pk_t (c_t (?_)))))))))))))
    exact kf (fun v => q (by rw [v.li])) _ x03
  have vli := q
  refine g_ff q (w_offP (g_ff q (w_rdP g (v := sv u.vl) rfl (g_ff q (w_len lv1 (g_ff q (w_rdP gn (v := .int .i64 (m.Of.length : Nat)) rfl (g_ff q (w_neq (pk_ff q ?_))))))))))
  clear q
  by_cases q : ¬ (m.Low.length : Int) = (m.Of.length : Nat)
  · refine g_ft q (g_ft q (g_ft q (g_ft q (g_ft q (pk_tt q (c_t (?_)))))))
    exact kf (fun v => q (by rw [v.ll])) _ x03
  have vll := q
  refine g_ff q (w_offP (g_ff q (w_rdP g (v := sv u.vr) rfl (g_ff q (w_len rv1 (g_ff q (w_rdP gn (v := .int .i64 (m.Of.length : Nat)) rfl (g_ff q (w_neq (pk_ff q ?_))))))))))
  clear q
  refine c_dec (fun q => ?_) (fun q => ?_)
  · exact kf (fun v => q (by rw [v.lr])) _ x03
  have vlr := q
  refine w_rdP gn (v := .int .i64 (m.Of.length : Nat)) rfl ?_
  refine loopE_intro (fun mm e h' => ∃ p : Nat, p ≤ m.Of.length ∧ mm = m.Of.length - p ∧ e 1 = .pointer (some ⟨h.length, 0, none⟩) ∧ e 3 = .pointer (some ⟨h1.length, 0, none⟩) ∧ e 85 = .int .i64 (m.Of.length : Nat) ∧ e 86 = .int .i64 (p : Nat) ∧ Ex h3 h' ∧ ∀ a : Nat, a < p → InOK m a ∧ ClOK m a) m.Of.length
    ⟨0, Nat.zero_le _, rfl, rfl, rfl, rfl, rfl, Ex.refl _, fun a ha => by omega⟩ ?_
  rintro I mm e h4 ⟨p, hp, hmm, e1, e3, e85, e86, x4, hall⟩ ih
  rw [e1, e3, e85, e86]
  refine w_lss (c_dec (fun q3 => ?_) (fun q3 => kt ⟨vpl, vcl, vn1, vn2, vk1, vk2, vof, ven, by omega, by omega, by omega, by omega, fun a ha => hall a (by omega)⟩ _ (x03.trans x4)))
  obtain ⟨c, hc⟩ := getElem?_of_lt (l := m.Of) (i := p) (by omega)
  obtain ⟨l, hl⟩ := getElem?_of_lt (l := m.In) (i := p) (by omega)
  obtain ⟨lo, hlo⟩ := getElem?_of_lt (l := m.Low) (i := p) (by omega)
  obtain ⟨re, hre⟩ := getElem?_of_lt (l := m.Ret) (i := p) (by omega)
  obtain ⟨wi, wi1, wi2⟩ := iv2 p l hl
  refine n_rowv fun h5 x5 l5 g5 => w_stP g5 (Nat.zero_lt_one) rfl rfl ?_
  have lt5 := lt_of_get g5
  have x6 : Ex h4 (h5.set h4.length (.row ([Value.int .i64 0].set 0 (.int .i64 (p : Nat))) true)) := x5.set (Nat.le_refl _) _
  have gp : (h5.set h4.length (.row ([Value.int .i64 0].set 0 (.int .i64 (p : Nat))) true))[h4.length]? = some (.row [.int .i64 (p : Nat)] true) := get_set _ lt5 _
  generalize hH : h5.set h4.length _ = h6
  have e6 : h5.set h4.length (.row ([Value.int .i64 0].set 0 (.int .i64 (p : Nat))) true) = h6 := hH
  rw [e6] at x6 gp
  clear hH e6
  have x36 : Ex h3 h6 := x4.trans x6
  have G := x36.some g
  have M := m3.ex x36
  refine w_offP (w_rdP G (v := sv u.vi) rfl (w_rdP gp (v := .int .i64 (p : Nat)) rfl (idxV (iv1.ex x36) wi1 fun z hz => w_rd1 hz rfl (w_offP (w_rdP G (v := .int .i64 m.pl) rfl ?_)))))
  refine row32 (R := fun a b => a = b) (may := fun _ x => Mem m.Of m.Of.length c x) (fun _ => rfl) (fun a b => a.trans b) (fun e => e ▸ Ex.refl _) (Sl.ex wi2 x36) (m3.szI l (List.mem_of_getElem? hl)) (fun k x hd K' hk hh k' => ?_) fun r h7 hr7 hr => ?_
  · subst hh
    exact cls35 G (x36.some gn) gp hc M fun r hr => k' r _ rfl hr
  subst hr7
  have inok : r = true ↔ InOK m p := hr.trans ⟨fun h c' l' h1 h2 => by
    rw [hc] at h1; rw [hl] at h2
    cases h1; cases h2
    exact h, fun h => h c l hc hl⟩
  cases r with
  | false =>
    refine w_notb (gdc_ft (gdc_ft (gdc_ft (gdc_ft (pk_t (c_t ?_))))))
    exact kf (fun v => by have := inok.2 (v.st p (by omega)).1; cases this) _ (x03.trans x36)
  | true =>
  refine w_notb (gdc_ff (w_rdPA G (Nat.le_refl 8) (gdc_ff (hist_same (w_rdP gp (v := .int .i64 (p : Nat)) rfl (gdc_ff ?_))))))
  refine closings36 M hc hlo hre fun r h8 x8 hr8 => ?_
  refine read_cons (idrow gp (x8.some gp)) (read_cons (idrow G (x8.some G)) (read_cons (idrow G (x8.some G)) (read_cons (hz.ids (Ex.refl _) x8) (read_cons (idrow gp (x8.some gp)) (read_cons (idrow G (x8.some G)) (read_nil ?_))))))
  cases r with
  | false =>
    refine gdc_ff (w_notb (pk_f (c_t ?_)))
    exact kf (fun v => by have := hr8.2 (v.st p (by omega)).2; cases this) _ ((x03.trans x36).trans x8)
  | true =>
  refine gdc_ff (w_notb (pk_f (c_f (w_add (by omega) (by omega) ?_))))
  refine ih (m.Of.length - (p + 1)) _ _ (by omega) ⟨p + 1, by omega, rfl, e1, e3, e85, rfl, x36.trans x8, fun a ha => ?_⟩
  by_cases ea : a = p
  · subst ea
    exact ⟨inok.1 rfl, hr8.1 rfl⟩
  · exact hall a (by omega)
end Go.Proofs.Ytnpbehfhncbjfaa.W
end

section
/- Fold's laws: the document's Check. Conditions: none. -/
namespace Go.Proofs.Ytnpbehfhncbjfaa.W
open Go Go.AM
set_option linter.unusedVariables false
set_option maxRecDepth 100000
theorem row51 {h : AH} {u : MoV} {m : Mo} {v : Value} {l : List Int} {n c : Int} {K : Value → AH → Prop} (mh : MoH h u m) (hl : Ints h v l) (sz : l.length ≤ 1000) (k : ∀ b h', Ex h h' → (b = true ↔ RowOK m l n c) → K (.bool b) h') : callW Try.prog 51 [.agg (moRow u m).toArray, v, .int .i64 n, .int .i64 c] h K := by
  refine c51 ?_
  unfold s51
  refine n_boxv rfl fun h1 x1 l1 g1 => ?_
  have g : h1[h.length]? = some (.row (moRow u m) true) := g1
  have m1 := mh.ex x1
  have of := m1.of
  have hl1 : Ints h1 v l := Sl.ex hl x1
  refine w_len hl (w_neq (c_dec (fun q => ?_) (fun q => ?_)))
  · exact k _ h1 x1 ⟨fun h => (by cases h), fun h => absurd h.1 q⟩
  refine loopE_intro (fun mm e h' => ∃ i : Nat, i ≤ l.length ∧ mm = l.length - i ∧ e 1 = v ∧ e 2 = .int .i64 n ∧ e 3 = .int .i64 c ∧ e 4 = .pointer (some ⟨h.length, 0, none⟩) ∧ e 9 = .int .i64 (i : Nat) ∧ h' = h1 ∧ ∀ (a : Nat) (x : Int), a < i → l[a]? = some x → Mem m.Of m.Of.length c x) l.length
    ⟨0, Nat.zero_le _, rfl, rfl, rfl, rfl, rfl, rfl, rfl, fun a x ha => by omega⟩ ?_
  rintro I mm e h' ⟨i, hi, hmm, e1, e2, e3, e4, e9, rfl, hall⟩ ih
  rw [e1, e2, e3, e4, e9]
  refine w_lss (c_dec (fun q1 => ?_) (fun q1 => ?_))
  · obtain ⟨x, hx⟩ := getElem?_of_lt (l := l) (i := i) (by omega)
    refine w_idxN eI_len hl1 hx fun z hz => w_rd1 hz rfl (w_lss ?_)
    have bad : ¬ Mem m.Of m.Of.length c x → K (.bool false) h' := fun hb => k _ h' x1 ⟨fun h => (by cases h), fun h => absurd (h.2 i x hx) hb⟩
    by_cases q2 : x < 0
    · refine gd_ft q2 (gd_ft q2 (gd_ft q2 (gd_ft q2 (gd_ft q2 (gd_ft q2 (gd_ft q2 (gd_ft q2 (pk_tt q2 (gdc_ft (gdc_ft (gdc_ft (gdc_ft (gdc_ft (gdc_ft (gdc_ft (gdc_ft (gdc_ft (gdc_ft (pk_t (c_t ?_))))))))))))))))))))
      exact bad fun h => by have := h.1; omega
    refine gd_ff q2 (gd_ff q2 (gd_ff q2 (w_idxN eI_len hl1 hx fun z2 hz2 => gd_ff q2 (hist_nil (w_rd1 hz2 rfl (gd_ff q2 (w_offP (gd_ff q2 (hist_nil (w_rdP g (v := sv u.vo) rfl (gd_ff q2 (w_len of (gd_ff q2 (w_geq (pk_ff q2 ?_)))))))))))))))
    by_cases q3 : ((m.Of.length : Nat) : Int) ≤ x
    · refine gd_ft q3 (gd_ft q3 (gd_ft q3 (gd_ft q3 (gd_ft q3 (gd_ft q3 (gd_ft q3 (gd_ft q3 (gd_ft q3 (gd_ft q3 (pk_tt q3 (c_t ?_)))))))))))
      exact bad fun h => by have := h.2.1; omega
    obtain ⟨d, hd⟩ := getElem?_of_lt (l := m.Of) (i := x.toNat) (by omega)
    refine gd_ff q3 (w_offP (gd_ff q3 (hist_nil (w_rdP g (v := sv u.vo) rfl (gd_ff q3 (gd_ff q3 (gd_ff q3 (w_idxN eI_len hl1 hx fun z3 hz3 => gd_ff q3 (hist_nil (w_rd1 hz3 rfl (gd_ff q3 (w_idxT eI_len of (by omega) hd fun z4 hz4 => gd_ff q3 (hist_nil (w_rd1 hz4 rfl (gd_ff q3 (gd_ff q3 (w_neq (pk_ff q3 (c_dec (fun q4 => ?_) (fun q4 => ?_))))))))))))))))))))
    · exact bad fun h => q4 (by have := h.2.2; rw [hd] at this; cases this; rfl)
    · refine w_add (by omega) (by omega) ?_
      refine ih (l.length - (i + 1)) _ _ (by omega) ⟨i + 1, by omega, rfl, e1, e2, e3, e4, rfl, rfl, fun a y ha hy => ?_⟩
      by_cases ea : a = i
      · subst ea
        rw [hx] at hy
        cases hy
        exact ⟨by omega, by omega, by rw [hd, Decidable.not_not.1 q4]⟩
      · exact hall a y (by omega) hy
  · exact k _ h' x1 ⟨fun _ => ⟨Decidable.not_not.1 q, fun a x hx => hall a x (by have := (List.getElem?_eq_some_iff.1 hx).1; omega) hx⟩, fun _ => rfl⟩
theorem state37 {h : AH} {u : MoV} {m : Mo} {p : Nat} {c : Int} {li lo : List Int} {re : List (List Int)} {K : Value → AH → Prop} (mh : MoH h u m) (hcl : 0 ≤ m.cl ∧ m.cl < 21) (hc : m.Of[p]? = some c) (hli : m.In[p]? = some li) (hlo : m.Low[p]? = some lo) (hre : m.Ret[p]? = some re)
    (kk : ∀ r h', Ex h h' → (r = true ↔ InOK m p ∧ ClOK m p) → K (.bool r) h') : callW Try.prog 37 [.agg (moRow u m).toArray, .int .i64 (p : Nat)] h K := by
  have szO := mh.szO
  refine c37 ?_
  unfold s37
  refine n_boxv rfl fun h1 x1 l1 g1 => ?_
  have g : h1[h.length]? = some (.row (moRow u m) true) := g1
  have m1 := mh.ex x1
  have of := m1.of
  have hin : ∀ {q : Prop}, ((RowOK m li m.pl c) → q ↔ ClOK m p) → True := fun _ => trivial
  have inI : RowOK m li m.pl c ↔ InOK m p := ⟨fun h c' l' h1 h2 => by
    rw [hc] at h1; rw [hli] at h2
    cases h1; cases h2
    exact h, fun h => h c li hc hli⟩
  have clI : ((c = 0 → re.length = 0 ∧ RowOK m lo m.cl 0) ∧ (c ≠ 0 → lo.length = 0 ∧ RetOK m re)) ↔ ClOK m p := ⟨fun h c' lo' re' h1 h2 h3 => by
    rw [hc] at h1; rw [hlo] at h2; rw [hre] at h3
    cases h1; cases h2; cases h3
    exact h, fun h => h c lo re hc hlo hre⟩
  obtain ⟨iv, iv1, iv2⟩ := m1.inn
  obtain ⟨wi, wi1, wi2⟩ := iv2 p li hli
  obtain ⟨lv, lv1, lv2⟩ := m1.low
  obtain ⟨wl, wl1, wl2⟩ := lv2 p lo hlo
  obtain ⟨rv, rv1, rv2⟩ := m1.ret
  obtain ⟨wr, wr1, wr2⟩ := rv2 p re hre
  obtain ⟨rrv, rrv1, rrv2⟩ := wr2
  have szi := m1.szI li (List.mem_of_getElem? hli)
  have szl := m1.szL lo (List.mem_of_getElem? hlo)
  have szr := m1.szR re (List.mem_of_getElem? hre)
  refine w_rdPA g (Nat.le_refl 8) (w_offP (w_rdP g (v := sv u.vi) rfl (idxV iv1 wi1 fun z1 hz1 => w_rd1 hz1 rfl (w_offP (w_rdP g (v := .int .i64 m.pl) rfl (w_offP (w_rdP g (v := sv u.vo) rfl (w_idxN eI_len of hc fun z2 hz2 => w_rd1 hz2 rfl ?_))))))))
  refine row51 m1 wi2 szi fun r h2 x2 hr => ?_
  have G := x2.some g
  have m2 := m1.ex x2
  have of2 : Ints h2 (sv u.vo) m.Of := m2.of
  cases r with
  | false =>
    refine w_notb (c_t ?_)
    exact kk _ h2 (x1.trans x2) ⟨fun h => (by cases h), fun h => by have := hr.2 (inI.2 h.1); cases this⟩
  | true =>
  have hin := inI.1 (hr.1 rfl)
  have fin : ∀ r : Bool, (r = true ↔ (c = 0 → re.length = 0 ∧ RowOK m lo m.cl 0) ∧ (c ≠ 0 → lo.length = 0 ∧ RetOK m re)) → (r = true ↔ InOK m p ∧ ClOK m p) := fun r h => h.trans ⟨fun h => ⟨hin, clI.1 h⟩, fun h => clI.2 h.2⟩
  refine w_notb (c_f (w_offP (w_rdP G (v := sv u.vo) rfl (w_idxN eI_len of2 hc fun z3 hz3 => w_rd1 hz3 rfl (w_eql (c_dec (fun qc => ?_) (fun qc => ?_)))))))
  · refine w_rdPA G (Nat.le_refl 8) (w_offP (w_rdP G (v := sv u.vl) rfl (idxV (lv1.ex x2) wl1 fun z4 hz4 => w_rd1 hz4 rfl (w_offP (w_rdP G (v := .int .i64 m.cl) rfl ?_)))))
    refine row51 m2 (Sl.ex wl2 x2) szl fun r h3 x3 hr3 => ?_
    cases r with
    | false =>
      refine gdc_tf (gdc_tf (gdc_tf (gdc_tf (gdc_tf (gdc_tf (gdc_tf (pk_f ?_)))))))
      exact kk _ h3 ((x1.trans x2).trans x3) (fin _ ⟨fun h => (by cases h), fun h => by have := hr3.2 (h.1 qc).2; cases this⟩)
    | true =>
      have x23 := x2.trans x3
      refine gdc_tt (w_offP (gdc_tt (hist_cons (idrow G (x3.some G)) (hist_nil (w_rdP (x3.some G) (v := sv u.vr) rfl (gdc_tt (gdc_tt (idxV (rv1.ex x2) wr1 fun z5 hz5 => gdc_tt (hist_cons (hz5.ids (Ex.refl _) x3) (hist_nil (w_rd1 (hz5.ex x3) rfl (gdc_tt (w_len (rrv1.ex x23) (gdc_tt (w_eql (pk_t ?_))))))))))))))))
      exact kk _ h3 ((x1.trans x2).trans x3) (fin _ ⟨fun h => ⟨fun _ => ⟨by have := of_decide_eq_true h; omega, hr3.1 rfl⟩, fun hn => absurd qc hn⟩, fun h => decide_eq_true (by have := (h.1 qc).1; omega)⟩)
  · refine w_offP (w_rdP G (v := sv u.vl) rfl (idxV (lv1.ex x2) wl1 fun z4 hz4 => w_rd1 hz4 rfl (w_len (Sl.ex wl2 x2) (w_neq ?_))))
    by_cases q : ¬ ((lo.length : Nat) : Int) = 0
    · refine gd_ft q (gd_ft q (gd_ft q (gd_ft q (gd_ft q (gd_ft q (gd_ft q (gd_ft q (gd_ft q (pk_tt q (c_t ?_))))))))))
      exact kk _ h2 (x1.trans x2) (fin _ ⟨fun h => (by cases h), fun h => absurd (h.2 qc).1 (by omega)⟩)
    refine gd_ff q (w_offP (gd_ff q (hist_nil (w_rdP G (v := sv u.vr) rfl (gd_ff q (gd_ff q (idxV (rv1.ex x2) wr1 fun z2 hz2 => gd_ff q (hist_nil (w_rd1 hz2 rfl ?_)))))))))
    refine gd_ff q (w_len (rrv1.ex x2) (gd_ff q (w_offP (gd_ff q (hist_nil (w_rdP G (v := .int .i64 m.cl) rfl (gd_ff q (w_neq (pk_ff q ?_)))))))))
    refine c_dec (fun q2 => ?_) (fun q2 => ?_)
    · exact kk _ h2 (x1.trans x2) (fin _ ⟨fun h => (by cases h), fun h => absurd (h.2 qc).2.1 q2⟩)
    have q2' : (re.length : Int) = m.cl := Decidable.not_not.1 q2
    refine loopE_intro (fun mm e h' => ∃ j : Nat, j ≤ re.length ∧ mm = re.length - j ∧ e 1 = .int .i64 (p : Nat) ∧ e 2 = .pointer (some ⟨h.length, 0, none⟩) ∧ e 5 = .int .i64 (j : Nat) ∧ h' = h2 ∧ ∀ (a : Nat) (l : List Int), a < j → re[a]? = some l → l.length = m.Of.length ∧ ∀ (k : Nat) (x : Int), l[k]? = some x → ∃ c, m.Of[k]? = some c ∧ Mem m.Of m.Of.length c x) re.length
      ⟨0, Nat.zero_le _, rfl, rfl, rfl, rfl, rfl, fun a l ha => by omega⟩ ?_
    rintro I mm e h' ⟨j, hj, hmm, e1, e2, e5, rfl, hall⟩ ih
    rw [e1, e2, e5]
    refine w_offP (w_rdP G (v := .int .i64 m.cl) rfl (w_lss (c_dec (fun q3 => ?_) (fun q3 => ?_))))
    · obtain ⟨l, hl⟩ := getElem?_of_lt (l := re) (i := j) (by omega)
      obtain ⟨wj, wj1, wj2⟩ := rrv2 j l hl
      have bad : ¬ (l.length = m.Of.length ∧ ∀ (k : Nat) (x : Int), l[k]? = some x → ∃ c, m.Of[k]? = some c ∧ Mem m.Of m.Of.length c x) → K (.bool false) h' := fun hb => kk _ h' (x1.trans x2) (fin _ ⟨fun h => (by cases h), fun h => absurd ((h.2 qc).2.2 j l hl) hb⟩)
      have wj2' : Ints h' wj l := Sl.ex wj2 x2
      refine w_offP (w_rdP G (v := sv u.vr) rfl (idxV (rv1.ex x2) wr1 fun z5 hz5 => w_rd1 hz5 rfl (idxV (rrv1.ex x2) wj1 fun z6 hz6 => w_rd1 hz6 rfl (w_len wj2' (w_offP (w_rdP G (v := sv u.vo) rfl (w_len of2 (w_neq (c_dec (fun q4 => ?_) (fun q4 => ?_))))))))))
      · exact bad fun h => q4 (by rw [h.1])
      refine loopE_intro (fun mm e h'' => ∃ s : Nat, s ≤ m.Of.length ∧ mm = m.Of.length - s ∧ e 1 = .int .i64 (p : Nat) ∧ e 2 = .pointer (some ⟨h.length, 0, none⟩) ∧ e 5 = .int .i64 (j : Nat) ∧ e 6 = .int .i64 (s : Nat) ∧ h'' = h' ∧ ∀ (k : Nat) (x : Int), k < s → l[k]? = some x → ∃ c, m.Of[k]? = some c ∧ Mem m.Of m.Of.length c x) m.Of.length
        ⟨0, Nat.zero_le _, rfl, e1, e2, e5, rfl, rfl, fun a x ha => by omega⟩ ?_
      rintro I2 mm2 f h'' ⟨s, hs, hmm2, f1, f2, f5, f6, rfl, hall2⟩ ih2
      rw [f1, f2, f5, f6]
      refine w_offP (w_rdP G (v := sv u.vo) rfl (w_len of2 (w_lss (c_dec (fun q5 => ?_) (fun q5 => ?_)))))
      · obtain ⟨x, hx⟩ := getElem?_of_lt (l := l) (i := s) (by omega)
        obtain ⟨d, hd⟩ := getElem?_of_lt (l := m.Of) (i := s) (by omega)
        have bad2 : ¬ Mem m.Of m.Of.length d x → K (.bool false) h'' := fun hb => bad fun h => by
          obtain ⟨c', a1, a2⟩ := h.2 s x hx
          rw [hd] at a1
          cases a1
          exact hb a2
        refine w_offP (w_rdP G (v := sv u.vr) rfl (idxV (rv1.ex x2) wr1 fun z7 hz7 => w_rd1 hz7 rfl (idxV (rrv1.ex x2) wj1 fun z8 hz8 => w_rd1 hz8 rfl (w_idxN eI_len wj2' hx fun z9 hz9 => w_rd1 hz9 rfl (w_lss ?_)))))
        by_cases q6 : x < 0
        · refine gd_ft q6 (gd_ft q6 (gd_ft q6 (gd_ft q6 (gd_ft q6 (pk_tt q6 (gdc_ft (gdc_ft (gdc_ft (gdc_ft (gdc_ft (gdc_ft (gdc_ft (gdc_ft (gdc_ft (gdc_ft (gdc_ft (pk_t (c_t ?_))))))))))))))))))
          exact bad2 fun h => by have := h.1; omega
        refine gd_ff q6 (gd_ff q6 (w_offP (gd_ff q6 (hist_nil (w_rdP G (v := sv u.vo) rfl (gd_ff q6 (w_len of2 (gd_ff q6 (w_geq (pk_ff q6 ?_))))))))))
        by_cases q7 : ((m.Of.length : Nat) : Int) ≤ x
        · refine gd_ft q7 (gd_ft q7 (gd_ft q7 (gd_ft q7 (gd_ft q7 (gd_ft q7 (gd_ft q7 (gd_ft q7 (gd_ft q7 (gd_ft q7 (gd_ft q7 (pk_tt q7 (c_t ?_))))))))))))
          exact bad2 fun h => by have := h.2.1; omega
        obtain ⟨d2, hd2⟩ := getElem?_of_lt (l := m.Of) (i := x.toNat) (by omega)
        refine gd_ff q7 (w_offP (gd_ff q7 (hist_nil (w_rdP G (v := sv u.vo) rfl (gd_ff q7 (gd_ff q7 (w_idxT eI_len of2 (by omega) hd2 fun y1 hy1 => gd_ff q7 (hist_nil (w_rd1 hy1 rfl ?_)))))))))
        refine gd_ff q7 (w_offP (gd_ff q7 (hist_nil (w_rdP G (v := sv u.vo) rfl (gd_ff q7 (gd_ff q7 (w_idxN eI_len of2 hd fun y2 hy2 => gd_ff q7 (hist_nil (w_rd1 hy2 rfl (gd_ff q7 (w_neq (pk_ff q7 (c_dec (fun q8 => ?_) (fun q8 => ?_))))))))))))))
        · exact bad2 fun h => q8 (by have := h.2.2; rw [hd2] at this; cases this; rfl)
        refine w_add (by omega) (by omega) ?_
        refine ih2 (m.Of.length - (s + 1)) _ _ (by omega) ⟨s + 1, by omega, rfl, f1, f2, f5, rfl, rfl, fun k y hk hy => ?_⟩
        by_cases ea : k = s
        · subst ea
          rw [hx] at hy
          cases hy
          exact ⟨d, hd, by omega, by omega, by rw [hd2, Decidable.not_not.1 q8]⟩
        · exact hall2 k y (by omega) hy
      · refine w_add (by omega) (by omega) ?_
        refine ih (re.length - (j + 1)) _ _ (by omega) ⟨j + 1, by omega, rfl, f1, f2, rfl, rfl, fun a l' ha hl' => ?_⟩
        by_cases ea : a = j
        · subst ea
          rw [hl] at hl'
          cases hl'
          exact ⟨by omega, fun k x hx => hall2 k x (by have := (List.getElem?_eq_some_iff.1 hx).1; omega) hx⟩
        · exact hall a l' (by omega) hl'
    · exact kk _ h' (x1.trans x2) (fin _ ⟨fun _ => ⟨fun h => absurd h qc, fun _ => ⟨by omega, q2', fun a l hl => hall a l (by have := (List.getElem?_eq_some_iff.1 hl).1; omega) hl⟩⟩, fun _ => rfl⟩)
theorem refcheck17 {h : AH} {u : MoV} {m : Mo} {K : Value → AH → Prop} (mh : MoH h u m) (kf : ¬ Valid m → ∀ h', Ex h h' → K (.int .i64 11) h') (kt : Valid m → ∀ h', Ex h h' → K (.int .i64 0) h') : callW Try.prog 17 [.agg (moRow u m).toArray] h K := by
  have szO := mh.szO
  have szE := mh.szE
  refine c17 ?_
  unfold s17
  refine n_boxv rfl fun h1 x1 l1 g1 => ?_
  have g : h1[h.length]? = some (.row (moRow u m) true) := g1
  have m1 := mh.ex x1
  have of := m1.of
  have en := m1.en
  have no : ¬ Valid m → K (.int .i64 11) h1 := fun h => kf h _ x1
  refine w_offP (w_rdP g (v := sv u.vo) rfl (w_len of (w_offP (w_rdP g (v := sv u.ve) rfl (w_len en (w_offP (w_rdP g (v := .int .i64 m.pl) rfl (w_lss ?_))))))))
  by_cases q : m.pl < 0
  · refine g_ft q (g_ft q (g_ft q (pk_tt q (gc_ft (gc_ft (gc_ft (pk_t (gc_ft (gc_ft (gc_ft (pk_t (gc_ft (gc_ft (pk_t (gc_ft (gc_ft (pk_t (gc_ft (gc_ft (pk_t (gc_ft (gc_ft (pk_t (c_t ?_))))))))))))))))))))))))
    exact no fun v => by have := v.pl; omega
  refine g_ff q (w_offP (g_ff q (w_rdP g (v := .int .i64 m.pl) rfl (g_ff q (w_gtr (pk_ff q ?_))))))
  by_cases q1 : 20 < m.pl
  · refine g_ft q1 (g_ft q1 (g_ft q1 (pk_tt q1 (gc_ft (gc_ft (gc_ft (pk_t (gc_ft (gc_ft (pk_t (gc_ft (gc_ft (pk_t (gc_ft (gc_ft (pk_t (gc_ft (gc_ft (pk_t (c_t ?_))))))))))))))))))))
    exact no fun v => by have := v.pl; omega
  refine g_ff q1 (w_offP (g_ff q1 (w_rdP g (v := .int .i64 m.cl) rfl (g_ff q1 (w_lss (pk_ff q1 ?_))))))
  by_cases q2 : m.cl < 0
  · refine g_ft q2 (g_ft q2 (g_ft q2 (pk_tt q2 (gc_ft (gc_ft (pk_t (gc_ft (gc_ft (pk_t (gc_ft (gc_ft (pk_t (gc_ft (gc_ft (pk_t (c_t ?_))))))))))))))))
    exact no fun v => by have := v.cl; omega
  refine g_ff q2 (w_offP (g_ff q2 (w_rdP g (v := .int .i64 m.cl) rfl (g_ff q2 (w_gtr (pk_ff q2 ?_))))))
  by_cases q3 : 20 < m.cl
  · refine g_ft q3 (g_ft q3 (pk_tt q3 (gc_ft (gc_ft (pk_t (gc_ft (gc_ft (pk_t (gc_ft (gc_ft (pk_t (c_t ?_))))))))))))
    exact no fun v => by have := v.cl; omega
  refine g_ff q3 (g_ff q3 (w_lss (pk_ff q3 ?_)))
  by_cases q4 : ((m.Of.length : Nat) : Int) < 1
  · refine g_ft q4 (g_ft q4 (pk_tt q4 (gc_ft (gc_ft (pk_t (gc_ft (gc_ft (pk_t (c_t ?_)))))))))
    exact no fun v => by have := v.n1; omega
  refine g_ff q4 (g_ff q4 (w_gtr (pk_ff q4 ?_)))
  by_cases q5 : 60 < ((m.Of.length : Nat) : Int)
  · refine g_ft q5 (g_ft q5 (pk_tt q5 (gc_ft (gc_ft (pk_t (c_t ?_))))))
    exact no fun v => by have := v.n2; omega
  refine g_ff q5 (g_ff q5 (w_lss (pk_ff q5 ?_)))
  by_cases q6 : ((m.En.length : Nat) : Int) < 1
  · refine g_ft q6 (g_ft q6 (pk_tt q6 (c_t ?_)))
    exact no fun v => by have := v.k1; omega
  refine g_ff q6 (g_ff q6 (w_gtr (pk_ff q6 (c_dec (fun q7 => ?_) (fun q7 => ?_)))))
  · exact no fun v => by have := v.k2; omega
  refine loopE_intro (fun mm e h' => ∃ p : Nat, p ≤ m.Of.length ∧ mm = m.Of.length - p ∧ e 1 = .pointer (some ⟨h.length, 0, none⟩) ∧ e 3 = .int .i64 (m.Of.length : Nat) ∧ e 4 = .int .i64 (m.En.length : Nat) ∧ e 5 = .int .i64 (p : Nat) ∧ h' = h1 ∧ ∀ (k : Nat) (x : Int), k < p → m.Of[k]? = some x → 0 ≤ x ∧ x < (m.En.length : Int)) m.Of.length
    ⟨0, Nat.zero_le _, rfl, rfl, rfl, rfl, rfl, rfl, fun a x ha => by omega⟩ ?_
  rintro I mm e h' ⟨p, hp, hmm, e1, e3, e4, e5, rfl, hof⟩ ih
  rw [e1, e3, e4, e5]
  refine w_lss (c_dec (fun q8 => ?_) (fun q8 => ?_))
  · obtain ⟨x, hx⟩ := getElem?_of_lt (l := m.Of) (i := p) (by omega)
    refine w_offP (w_rdP g (v := sv u.vo) rfl (w_idxN eI_len of hx fun z hz => w_rd1 hz rfl (w_lss ?_)))
    by_cases q9 : x < 0
    · refine g_ft q9 (g_ft q9 (g_ft q9 (g_ft q9 (g_ft q9 (g_ft q9 (g_ft q9 (pk_tt q9 (c_t ?_))))))))
      exact no fun v => by have := v.of p x hx; omega
    refine g_ff q9 (w_offP (g_ff q9 (w_rdP g (v := sv u.vo) rfl (g_ff q9 (g_ff q9 (w_idxN eI_len of hx fun z2 hz2 => g_ff q9 (w_rd1 hz2 rfl (g_ff q9 (g_ff q9 (w_geq (pk_ff q9 (c_dec (fun q10 => ?_) (fun q10 => ?_)))))))))))))
    · exact no fun v => by have := v.of p x hx; omega
    refine w_add (by omega) (by omega) ?_
    refine ih (m.Of.length - (p + 1)) _ _ (by omega) ⟨p + 1, by omega, rfl, e1, e3, e4, rfl, rfl, fun a y ha hy => ?_⟩
    by_cases ea : a = p
    · subst ea
      rw [hx] at hy
      cases hy
      omega
    · exact hof a y (by omega) hy
  have vof : ∀ (k : Nat) (x : Int), m.Of[k]? = some x → 0 ≤ x ∧ x < (m.En.length : Int) := fun k x hx => hof k x (by have := (List.getElem?_eq_some_iff.1 hx).1; omega) hx
  refine loopE_intro (fun mm e h'' => ∃ i : Nat, i ≤ m.En.length ∧ mm = m.En.length - i ∧ e 1 = .pointer (some ⟨h.length, 0, none⟩) ∧ e 3 = .int .i64 (m.Of.length : Nat) ∧ e 4 = .int .i64 (m.En.length : Nat) ∧ e 6 = .int .i64 (i : Nat) ∧ h'' = h' ∧ ∀ (k : Nat) (x : Int), k < i → m.En[k]? = some x → Mem m.Of m.Of.length k x) m.En.length
    ⟨0, Nat.zero_le _, rfl, e1, e3, e4, rfl, rfl, fun a x ha => by omega⟩ ?_
  clear ih hof q8 hmm hp e1 e3 e4 e5
  clear e I mm p
  rintro I mm e h'' ⟨i, hi, hmm, e1, e3, e4, e6, rfl, hen⟩ ih
  rw [e1, e3, e4, e6]
  refine w_lss (c_dec (fun q8 => ?_) (fun q8 => ?_))
  · obtain ⟨x, hx⟩ := getElem?_of_lt (l := m.En) (i := i) (by omega)
    refine w_offP (w_rdP g (v := sv u.ve) rfl (w_idxN eI_len en hx fun z hz => w_rd1 hz rfl (w_lss ?_)))
    by_cases q9 : x < 0
    · refine gd_ft q9 (gd_ft q9 (gd_ft q9 (gd_ft q9 (gd_ft q9 (gd_ft q9 (gd_ft q9 (pk_tt q9 (gdc_ft (gdc_ft (gdc_ft (gdc_ft (gdc_ft (gdc_ft (gdc_ft (gdc_ft (gdc_ft (gdc_ft (gdc_ft (pk_t (c_t ?_))))))))))))))))))))
      exact no fun v => by have := (v.en i x hx).1; omega
    refine gd_ff q9 (w_offP (gd_ff q9 (hist_nil (w_rdP g (v := sv u.ve) rfl (gd_ff q9 (gd_ff q9 (w_idxN eI_len en hx fun z2 hz2 => gd_ff q9 (hist_nil (w_rd1 hz2 rfl (gd_ff q9 (gd_ff q9 (w_geq (pk_ff q9 ?_)))))))))))))
    by_cases q10 : ((m.Of.length : Nat) : Int) ≤ x
    · refine gd_ft q10 (gd_ft q10 (gd_ft q10 (gd_ft q10 (gd_ft q10 (gd_ft q10 (gd_ft q10 (gd_ft q10 (gd_ft q10 (gd_ft q10 (gd_ft q10 (pk_tt q10 (c_t ?_))))))))))))
      exact no fun v => by have := (v.en i x hx).2.1; omega
    obtain ⟨d, hd⟩ := getElem?_of_lt (l := m.Of) (i := x.toNat) (by omega)
    refine gd_ff q10 (w_offP (gd_ff q10 (hist_nil (w_rdP g (v := sv u.vo) rfl (gd_ff q10 (w_offP (gd_ff q10 (hist_nil (w_rdP g (v := sv u.ve) rfl ?_)))))))))
    refine gd_ff q10 (gd_ff q10 (w_idxN eI_len en hx fun z3 hz3 => gd_ff q10 (hist_nil (w_rd1 hz3 rfl (gd_ff q10 (w_idxT eI_len of (by omega) hd fun z4 hz4 => gd_ff q10 (hist_nil (w_rd1 hz4 rfl (gd_ff q10 (gd_ff q10 (w_neq (pk_ff q10 (c_dec (fun q11 => ?_) (fun q11 => ?_))))))))))))))
    · exact no fun v => q11 (by have := (v.en i x hx).2.2; rw [hd] at this; cases this; rfl)
    refine w_add (by omega) (by omega) ?_
    refine ih (m.En.length - (i + 1)) _ _ (by omega) ⟨i + 1, by omega, rfl, e1, e3, e4, rfl, rfl, fun a y ha hy => ?_⟩
    by_cases ea : a = i
    · subst ea
      rw [hx] at hy
      cases hy
      exact ⟨by omega, by omega, by rw [hd, Decidable.not_not.1 q11]⟩
    · exact hen a y (by omega) hy
  have ven : ∀ (k : Nat) (x : Int), m.En[k]? = some x → Mem m.Of m.Of.length k x := fun k x hx => hen k x (by have := (List.getElem?_eq_some_iff.1 hx).1; omega) hx
  clear ih hen q8
  obtain ⟨iv, iv1, iv2⟩ := m1.inn
  obtain ⟨lv, lv1, lv2⟩ := m1.low
  obtain ⟨rv, rv1, rv2⟩ := m1.ret
  refine w_offP (w_rdP g (v := sv u.vf) rfl (w_len m1.fi (w_neq ?_)))
  by_cases q8 : ¬ (m.Fi.length : Int) = (m.Of.length : Nat)
  · refine g_ft q8 (g_ft q8 (g_ft q8 (g_ft q8 (g_ft q8 (pk_tt q8 (gc_ft (gc_ft (gc_ft (gc_ft (gc_ft (pk_t (gc_ft (gc_ft (gc_ft (gc_ft (gc_ft (pk_t (c_t ?_))))))))))))))))))
    exact no fun v => q8 (by rw [v.lf])
  refine g_ff q8 (w_offP (g_ff q8 (w_rdP g (v := sv u.vi) rfl (g_ff q8 (w_len iv1 (g_ff q8 (g_ff q8 (w_neq (pk_ff q8 ?_)))))))))
  by_cases q9 : ¬ (m.In.length : Int) = (m.Of.length : Nat)
  · refine g_ft q9 (g_ft q9 (g_ft q9 (g_ft q9 (g_ft q9 (pk_tt q9 (gc_ft (gc_ft (gc_ft (gc_ft (gc_ft (pk_t (c_t ?_))))))))))))
    exact no fun v => q9 (by rw [v.li])
  refine g_ff q9 (w_offP (g_ff q9 (w_rdP g (v := sv u.vl) rfl (g_ff q9 (w_len lv1 (g_ff q9 (g_ff q9 (w_neq (pk_ff q9 ?_)))))))))
  by_cases q10 : ¬ (m.Low.length : Int) = (m.Of.length : Nat)
  · refine g_ft q10 (g_ft q10 (g_ft q10 (g_ft q10 (g_ft q10 (pk_tt q10 (c_t ?_))))))
    exact no fun v => q10 (by rw [v.ll])
  refine g_ff q10 (w_offP (g_ff q10 (w_rdP g (v := sv u.vr) rfl (g_ff q10 (w_len rv1 (g_ff q10 (g_ff q10 (w_neq (pk_ff q10 (c_dec (fun q11 => ?_) (fun q11 => ?_)))))))))))
  · exact no fun v => q11 (by rw [v.lr])
  refine loopE_intro (fun mm e h3 => ∃ p : Nat, p ≤ m.Of.length ∧ mm = m.Of.length - p ∧ e 1 = .pointer (some ⟨h.length, 0, none⟩) ∧ e 3 = .int .i64 (m.Of.length : Nat) ∧ e 7 = .int .i64 (p : Nat) ∧ Ex h'' h3 ∧ ∀ a : Nat, a < p → InOK m a ∧ ClOK m a) m.Of.length
    ⟨0, Nat.zero_le _, rfl, e1, e3, rfl, Ex.refl _, fun a ha => by omega⟩ ?_
  clear hmm hi e1 e3 e4 e6
  clear e I mm i
  rintro I mm e h3 ⟨p, hp, hmm, e1, e3, e7, x3, hall⟩ ih
  rw [e1, e3, e7]
  refine w_lss (c_dec (fun q12 => ?_) (fun q12 => kt ⟨by omega, by omega, by omega, by omega, by omega, by omega, vof, ven, by omega, by omega, by omega, by omega, fun a ha => hall a (by omega)⟩ _ (x1.trans x3)))
  obtain ⟨c, hc⟩ := getElem?_of_lt (l := m.Of) (i := p) (by omega)
  obtain ⟨l, hl⟩ := getElem?_of_lt (l := m.In) (i := p) (by omega)
  obtain ⟨lo, hlo⟩ := getElem?_of_lt (l := m.Low) (i := p) (by omega)
  obtain ⟨re, hre⟩ := getElem?_of_lt (l := m.Ret) (i := p) (by omega)
  refine w_rdPA (x3.some g) (Nat.le_refl 8) ?_
  refine state37 (m1.ex x3) (by omega) hc hl hlo hre fun r h4 x4 hr => ?_
  cases r with
  | false =>
    refine w_notb (c_t ?_)
    exact kf (fun v => by have := hr.2 (v.st p (by omega)); cases this) _ ((x1.trans x3).trans x4)
  | true =>
    refine w_notb (c_f (w_add (by omega) (by omega) ?_))
    refine ih (m.Of.length - (p + 1)) _ _ (by omega) ⟨p + 1, by omega, rfl, e1, e3, rfl, x3.trans x4, fun a ha => ?_⟩
    by_cases ea : a = p
    · subst ea
      exact hr.1 rfl
    · exact hall a (by omega)
end Go.Proofs.Ytnpbehfhncbjfaa.W
end

section
/- Fold's laws: a machine that was made, its places its own. Conditions: none. -/
namespace Go.Proofs.Ytnpbehfhncbjfaa.W
open Go Go.AM
set_option linter.unusedVariables false
set_option maxRecDepth 100000
structure MoO (h : AH) (b : Nat) (o : Nat → Tg) (u : MoV) (m : Mo) : Prop where
  of : ∃ i, u.vo = (some ⟨i, 0, none⟩, m.Of.length, m.Of.length) ∧ h[i]? = some (.row (flat eI m.Of) true) ∧ o i = .off
  en : ∃ i, u.ve = (some ⟨i, 0, none⟩, m.En.length, m.En.length) ∧ h[i]? = some (.row (flat eI m.En) true) ∧ o i = .ent
  fi : OwnG 1 (fun j => o j = .fin) h (sv u.vf) m.Fi.length (flat eBo m.Fi)
  inn : ∃ vs, OwnG 1 (fun j => o j = .inS) h (sv u.vi) m.In.length vs ∧ RowsT h o .inn vs m.In
  low : ∃ vs, OwnG 1 (fun j => o j = .lowS) h (sv u.vl) m.Low.length vs ∧ RowsT h o .low vs m.Low
  ret : ∃ vs, OwnG 1 (fun j => o j = .retS) h (sv u.vr) m.Ret.length vs ∧ RetsT h o vs m.Ret
  on : ∀ j, o j ≠ .no → b ≤ j ∧ j < h.length
  szO : m.Of.length ≤ 10
  szE : m.En.length ≤ 10
  szI : ∀ l ∈ m.In, l.length ≤ 10
  szL : ∀ l ∈ m.Low, l.length ≤ 10
  szR : ∀ r ∈ m.Ret, r.length ≤ 10 ∧ ∀ l ∈ r, l.length ≤ 10
theorem RowsT.rows {h : AH} {o tg : Nat → Tg} {F : Nat → Prop} {v : Value} {vs : List Value} {ls : List (List Int)} (hv : OwnG 1 F h v ls.length vs) (r : RowsT h o tg vs ls) : RowsR h v ls :=
  ⟨vs, hv.sl, fun i l hl => by obtain ⟨w, h1, h2⟩ := r.2 i l hl; have := h2.sl; exact ⟨w, h1, this⟩⟩
theorem RetsT.rets {h : AH} {o : Nat → Tg} {F : Nat → Prop} {v : Value} {vs : List Value} {ls : List (List (List Int))} (hv : OwnG 1 F h v ls.length vs) (r : RetsT h o vs ls) : RetsR h v ls :=
  ⟨vs, hv.sl, fun i l hl => by obtain ⟨w, ws, h1, h2, h3⟩ := r.2 i l hl; exact ⟨w, h1, h3.rows (by rw [← h3.1]; exact h2)⟩⟩
theorem ownI {h : AH} {i : Nat} {l : List Int} (hg : h[i]? = some (.row (flat eI l) true)) (hs : l.length < 100) : Ints h (sv (some ⟨i, 0, none⟩, l.length, l.length)) l := slI hg rfl hs
theorem MoO.ofH {h h' : AH} {b : Nat} {o : Nat → Tg} {u : MoV} {m : Mo} (x : MoO h b o u m) (hh : ∀ j, o j = .off → h'[j]? = h[j]?) : Ints h' (sv u.vo) m.Of := by
  obtain ⟨i, e, g, c⟩ := x.of
  rw [e]
  exact ownI ((hh i c).trans g) (by have := x.szO; omega)
theorem MoO.enH {h h' : AH} {b : Nat} {o : Nat → Tg} {u : MoV} {m : Mo} (x : MoO h b o u m) (hh : ∀ j, o j = .ent → h'[j]? = h[j]?) : Ints h' (sv u.ve) m.En := by
  obtain ⟨i, e, g, c⟩ := x.en
  rw [e]
  exact ownI ((hh i c).trans g) (by have := x.szE; omega)
theorem MoO.fiH {h h' : AH} {b : Nat} {o : Nat → Tg} {u : MoV} {m : Mo} (x : MoO h b o u m) (hh : ∀ j, o j = .fin → h'[j]? = h[j]?) : SlT 1 eBo h' (sv u.vf) m.Fi :=
  (x.fi.mono (fun _ _ h => h) fun j _ hj => hh j hj).sl
theorem RowsT.to {h h' : AH} {o tg : Nat → Tg} {vals : List Value} {ls : List (List Int)} (r : RowsT h o tg vals ls) (hh : ∀ j, (∃ p, o j = tg p) → h'[j]? = h[j]?) : RowsT h' o tg vals ls :=
  ⟨r.1, fun p l hl => by obtain ⟨v, h1, h2⟩ := r.2 p l hl; exact ⟨v, h1, h2.mono (fun _ _ h => h) fun j _ hj => hh j ⟨p, hj⟩⟩⟩
theorem MoO.inH {h h' : AH} {b : Nat} {o : Nat → Tg} {u : MoV} {m : Mo} (x : MoO h b o u m) (hh : ∀ j, (o j = .inS ∨ ∃ p, o j = .inn p) → h'[j]? = h[j]?) : RowsR h' (sv u.vi) m.In := by
  obtain ⟨vs, h1, h2⟩ := x.inn
  exact (h2.to fun j hj => hh j (.inr hj)).rows (h1.mono (fun _ _ h => h) fun j _ hj => hh j (.inl hj))
theorem MoO.lowH {h h' : AH} {b : Nat} {o : Nat → Tg} {u : MoV} {m : Mo} (x : MoO h b o u m) (hh : ∀ j, (o j = .lowS ∨ ∃ p, o j = .low p) → h'[j]? = h[j]?) : RowsR h' (sv u.vl) m.Low := by
  obtain ⟨vs, h1, h2⟩ := x.low
  exact (h2.to fun j hj => hh j (.inr hj)).rows (h1.mono (fun _ _ h => h) fun j _ hj => hh j (.inl hj))
theorem RetsT.to {h h' : AH} {o : Nat → Tg} {vals : List Value} {rs : List (List (List Int))} (r : RetsT h o vals rs) (hh : ∀ j, ((∃ p, o j = .ret p) ∨ ∃ p q, o j = .rr p q) → h'[j]? = h[j]?) : RetsT h' o vals rs :=
  ⟨r.1, fun p l hl => by
    obtain ⟨v, vs, h1, h2, h3⟩ := r.2 p l hl
    exact ⟨v, vs, h1, h2.mono (fun _ _ h => h) fun j _ hj => hh j (.inl ⟨p, hj⟩), h3.to fun j ⟨q, hj⟩ => hh j (.inr ⟨p, q, hj⟩)⟩⟩
theorem MoO.retH {h h' : AH} {b : Nat} {o : Nat → Tg} {u : MoV} {m : Mo} (x : MoO h b o u m) (hh : ∀ j, (o j = .retS ∨ (∃ p, o j = .ret p) ∨ ∃ p q, o j = .rr p q) → h'[j]? = h[j]?) : RetsR h' (sv u.vr) m.Ret := by
  obtain ⟨vs, h1, h2⟩ := x.ret
  exact (h2.to fun j hj => hh j (.inr hj)).rets (h1.mono (fun _ _ h => h) fun j _ hj => hh j (.inl hj))
theorem MoO.toH {h h' : AH} {b : Nat} {o : Nat → Tg} {u : MoV} {m : Mo} (x : MoO h b o u m) (hh : ∀ j, o j ≠ .no → h'[j]? = h[j]?) : MoH h' u m :=
  ⟨x.ofH fun j hj => hh j (by rw [hj]; exact Tg.noConfusion), x.enH fun j hj => hh j (by rw [hj]; exact Tg.noConfusion), x.fiH fun j hj => hh j (by rw [hj]; exact Tg.noConfusion),
   x.inH fun j hj => hh j (by rcases hj with hj | ⟨p, hj⟩ <;> rw [hj] <;> exact Tg.noConfusion), x.lowH fun j hj => hh j (by rcases hj with hj | ⟨p, hj⟩ <;> rw [hj] <;> exact Tg.noConfusion),
   x.retH fun j hj => hh j (by rcases hj with hj | ⟨p, hj⟩ | ⟨p, q, hj⟩ <;> rw [hj] <;> exact Tg.noConfusion), by have := x.szO; omega, by have := x.szE; omega, fun l hl => by have := x.szI l hl; omega, fun l hl => by have := x.szL l hl; omega, fun r hr => ⟨by have := (x.szR r hr).1; omega, fun l hl => by have := (x.szR r hr).2 l hl; omega⟩⟩
theorem MoO.keep {h h' : AH} {b : Nat} {o : Nat → Tg} {u : MoV} {m : Mo} (x : MoO h b o u m) (hl : h.length ≤ h'.length) (hh : ∀ j, o j ≠ .no → h'[j]? = h[j]?) : MoO h' b o u m := by
  obtain ⟨i, e, g, c⟩ := x.of
  obtain ⟨i2, e2, g2, c2⟩ := x.en
  obtain ⟨vs, v1, v2⟩ := x.inn
  obtain ⟨ws, w1, w2⟩ := x.low
  obtain ⟨rs, r1, r2⟩ := x.ret
  exact ⟨⟨i, e, (hh i (by rw [c]; exact Tg.noConfusion)).trans g, c⟩, ⟨i2, e2, (hh i2 (by rw [c2]; exact Tg.noConfusion)).trans g2, c2⟩, x.fi.mono (fun _ _ h => h) fun j _ hj => hh j (by rw [hj]; exact Tg.noConfusion),
    ⟨vs, v1.mono (fun _ _ h => h) fun j _ hj => hh j (by rw [hj]; exact Tg.noConfusion), v2.mono (fun _ => Tg.noConfusion) fun j hj => ⟨rfl, hh j hj⟩⟩,
    ⟨ws, w1.mono (fun _ _ h => h) fun j _ hj => hh j (by rw [hj]; exact Tg.noConfusion), w2.mono (fun _ => Tg.noConfusion) fun j hj => ⟨rfl, hh j hj⟩⟩,
    ⟨rs, r1.mono (fun _ _ h => h) fun j _ hj => hh j (by rw [hj]; exact Tg.noConfusion), r2.mono fun j hj => ⟨rfl, hh j hj⟩⟩, fun j hj => by have := x.on j hj; omega, x.szO, x.szE, x.szI, x.szL, x.szR⟩
theorem lenL {q : Pl} {d : MD} {p : Nat} (v : V3 q d p) (h1 : q.pl ≤ 2) (h2 : 0 ≤ q.cl ∧ q.cl ≤ 2) (h3 : q.n ≤ 8) : (∀ l ∈ d.ins, l.length ≤ 10) ∧ (∀ l ∈ d.lows, l.length ≤ 10) ∧ (∀ r ∈ d.rets, r.length ≤ 10 ∧ ∀ l ∈ r, l.length ≤ 10) := by
  refine ⟨fun l hl => ?_, fun l hl => ?_, fun r hr => ?_⟩
  · obtain ⟨i, hi⟩ := List.getElem?_of_mem hl
    obtain ⟨c, _, h, _⟩ := v.ins i l hi
    omega
  · obtain ⟨i, hi⟩ := List.getElem?_of_mem hl
    obtain ⟨c, _, h, _⟩ := v.lows i l hi
    split at h <;> omega
  · obtain ⟨i, hi⟩ := List.getElem?_of_mem hr
    obtain ⟨c, _, h, h'⟩ := v.rets i r hi
    refine ⟨by split at h <;> omega, fun l hl => by have := (h' l hl).1; omega⟩
theorem flat_eBo (l : List Bool) : flat eBo l = l.map .bool := by
  induction l with
  | nil => rfl
  | cons a l ih => show eBo a ++ flat eBo l = _; rw [ih]; rfl
theorem offId {i n c j : Nat} (h : i ≠ j) : ¬ onId (.slice (some ⟨i, 0, none⟩) n c) j := fun e => h e
theorem make14o {h : AH} {a0 : Int} {vns : Value} {ns : List Int} {K : Value → AH → Prop} (hns : Ints h vns ns)
    (k : ∀ h' u m o, Ex h h' → MoO h' h.length o u m → Valid m → K (.agg (moRow u m).toArray) h') : callW Try.prog 14 [.int .i64 a0, vns] h K := by
  refine make14 hns fun h' q d hm ok L x' hh => ?_
  have o0 := ok.h0; have o1 := ok.h1; have o2 := ok.h2; have o3 := ok.h3; have o4 := ok.h4; have o5 := ok.h5
  have okk := ok.k; have okn := ok.n; have okp := ok.pl; have okc := ok.cl
  have fx := L.ms.fx
  obtain ⟨bl, bl1, bl2⟩ := L.fin
  have lO := fx.lOf; have lE := fx.lEn
  obtain ⟨zI, zL, zR⟩ := lenL L.v3 okp.2 okc okn.2
  have n1 := L.v3.n1; have n2 := L.v3.n2; have n3 := L.v3.n3
  have s0 := L.ms.sl.own 0 (by omega)
  have s1 := L.ms.sl.own 1 (by omega)
  have s2 := L.ms.sl.own 2 (by omega)
  have s3 := L.ms.sl.own 3 (by omega)
  obtain ⟨a1, n1', c1, e1⟩ := Sl.isSl s0.sl
  obtain ⟨a2, n2', c2, e2⟩ := Sl.isSl s1.sl
  obtain ⟨a3, n3', c3, e3⟩ := Sl.isSl s2.sl
  obtain ⟨a4, n4', c4, e4⟩ := Sl.isSl s3.sl
  have em : mrow q d.v = moRow ⟨(some ⟨q.iOf, 0, none⟩, q.n, q.n), (some ⟨q.iEn, 0, none⟩, q.k, q.k), (a1, n1', c1), (a2, n2', c2), (a3, n3', c3), (a4, n4', c4)⟩ ⟨q.pl, q.cl, d.ol, d.el, bl, d.ins, d.lows, d.rets⟩ := by
    unfold mrow moRow sv
    rw [e1, e2, e3, e4]
  rw [em]
  have ap := L.ms.sl.ap
  have low : ∀ i, i < 11 → ∀ j, onId (d.v i) j → q.b2 < j ∧ j < hm.length := fun i hi j hj => L.ms.sl.on hi hj
  have frz := L.ms.fz
  have hkeep : ∀ j, q.p4 < j → h'[j]? = hm[j]? := fun j hj => hh j (by omega)
  have hl4 : hm.length ≤ h'.length := by
    by_cases hc : hm.length ≤ h'.length
    · exact hc
    · have hlt := L.ms.lt
      have hlast := hkeep (hm.length - 1) (by omega)
      rw [List.getElem?_eq_none (by omega)] at hlast
      have : hm.length - 1 < hm.length := by omega
      rw [List.getElem?_eq_getElem this] at hlast
      cases hlast
  let O : Nat → Tg := paint (paint (paint (paint (paint (paint d.o (d.v 0) .fin) (d.v 1) .inS) (d.v 2) .lowS) (d.v 3) .retS) (.slice (some ⟨q.iOf, 0, none⟩) q.n q.n) .off) (.slice (some ⟨q.iEn, 0, none⟩) q.k q.k) .ent
  have hOe : O q.iEn = .ent := paint_on rfl
  have hOo : O q.iOf = .off := (paint_off (offId (by omega))).trans (paint_on rfl)
  have hO4 : ∀ j, q.b2 < j → O j = paint (paint (paint (paint d.o (d.v 0) .fin) (d.v 1) .inS) (d.v 2) .lowS) (d.v 3) .retS j := fun j hj => (paint_off (offId (by omega))).trans (paint_off (offId (by omega)))
  have hO3 : ∀ j, onId (d.v 3) j → O j = .retS := fun j hj => (hO4 j (low 3 (by omega) j hj).1).trans (paint_on hj)
  have hO2 : ∀ j, onId (d.v 2) j → O j = .lowS := fun j hj => (hO4 j (low 2 (by omega) j hj).1).trans ((paint_off (ap 2 3 (by omega) (by omega) (by omega) j hj)).trans (paint_on hj))
  have hO1 : ∀ j, onId (d.v 1) j → O j = .inS := fun j hj => (hO4 j (low 1 (by omega) j hj).1).trans ((paint_off (ap 1 3 (by omega) (by omega) (by omega) j hj)).trans ((paint_off (ap 1 2 (by omega) (by omega) (by omega) j hj)).trans (paint_on hj)))
  have hO0 : ∀ j, onId (d.v 0) j → O j = .fin := fun j hj => (hO4 j (low 0 (by omega) j hj).1).trans ((paint_off (ap 0 3 (by omega) (by omega) (by omega) j hj)).trans ((paint_off (ap 0 2 (by omega) (by omega) (by omega) j hj)).trans ((paint_off (ap 0 1 (by omega) (by omega) (by omega) j hj)).trans (paint_on hj))))
  have hOz : ∀ j, d.o j ≠ .no → O j = d.o j := fun j hj => by
    have f := frz j hj
    exact (hO4 j f.1).trans ((paint_off (f.2.2 3 (by omega))).trans ((paint_off (f.2.2 2 (by omega))).trans ((paint_off (f.2.2 1 (by omega))).trans (paint_off (f.2.2 0 (by omega))))))
  have hOn : ∀ j, O j ≠ .no → h.length ≤ j ∧ j < h'.length := fun j hj => by
    have hlt := L.ms.lt
    by_cases b1 : j = q.iEn
    · omega
    by_cases b2 : j = q.iOf
    · omega
    have eO : O j = paint (paint (paint (paint d.o (d.v 0) .fin) (d.v 1) .inS) (d.v 2) .lowS) (d.v 3) .retS j := (paint_off (offId (Ne.symm b1))).trans (paint_off (offId (Ne.symm b2)))
    rw [eO] at hj
    by_cases b3 : onId (d.v 3) j
    · have := low 3 (by omega) j b3; omega
    rw [paint_off b3] at hj
    by_cases b4 : onId (d.v 2) j
    · have := low 2 (by omega) j b4; omega
    rw [paint_off b4] at hj
    by_cases b5 : onId (d.v 1) j
    · have := low 1 (by omega) j b5; omega
    rw [paint_off b5] at hj
    by_cases b6 : onId (d.v 0) j
    · have := low 0 (by omega) j b6; omega
    rw [paint_off b6] at hj
    have := frz j hj
    omega
  have fzm : ∀ j, d.o j ≠ .no → O j = d.o j ∧ h'[j]? = hm[j]? := fun j hj => ⟨hOz j hj, hkeep j (by have := (frz j hj).1; omega)⟩
  have r1 := L.ms.rIn.mono (fun _ => Tg.noConfusion) fzm
  have r2 := L.ms.rLow.mono (fun _ => Tg.noConfusion) fzm
  have r3 := L.ms.rRet.mono fzm
  refine k h' _ _ O x' ⟨⟨q.iOf, ?_, (hkeep _ (by omega)).trans fx.rOf, hOo⟩, ⟨q.iEn, ?_, (hkeep _ (by omega)).trans fx.rEn, hOe⟩, ?_, ⟨d.cs 1, ?_, r1⟩, ⟨d.cs 2, ?_, r2⟩, ⟨d.cs 3, ?_, r3⟩, hOn, ?_, ?_, zI, zL, zR⟩ ?_
  · show (some _, q.n, q.n) = (some _, d.ol.length, d.ol.length)
    rw [lO]
  · show (some _, q.k, q.k) = (some _, d.el.length, d.el.length)
    rw [lE]
  · show OwnG 1 _ h' (.slice a1 n1' c1) bl.length (flat eBo bl)
    rw [← e1, flat_eBo, ← bl1]
    have e : bl.length = (d.cs 0).length := by rw [bl1, List.length_map]
    rw [e]
    exact s0.mono (fun j hj _ => hO0 j hj) fun j hj _ => hkeep j (by have := low 0 (by omega) j hj; omega)
  · show OwnG 1 _ h' (.slice a2 n2' c2) d.ins.length (d.cs 1)
    rw [← e2, ← L.ms.rIn.1]
    exact s1.mono (fun j hj _ => hO1 j hj) fun j hj _ => hkeep j (by have := low 1 (by omega) j hj; omega)
  · show OwnG 1 _ h' (.slice a3 n3' c3) d.lows.length (d.cs 2)
    rw [← e3, ← L.ms.rLow.1]
    exact s2.mono (fun j hj _ => hO2 j hj) fun j hj _ => hkeep j (by have := low 2 (by omega) j hj; omega)
  · show OwnG 1 _ h' (.slice a4 n4' c4) d.rets.length (d.cs 3)
    rw [← e4, ← L.ms.rRet.1]
    exact s3.mono (fun j hj _ => hO3 j hj) fun j hj _ => hkeep j (by have := low 3 (by omega) j hj; omega)
  · show d.ol.length ≤ 10; omega
  · show d.el.length ≤ 10; omega
  · have oln : d.ol.length = q.n := lO
    refine ⟨by show 0 ≤ q.pl ∧ q.pl < 21; omega, by show 0 ≤ q.cl ∧ q.cl < 21; omega, by show 1 ≤ (d.ol.length : Int); omega, by show (d.ol.length : Int) ≤ 60; omega, by show 1 ≤ (d.el.length : Int); omega, by show (d.el.length : Int) ≤ 21; omega, fun i x hx => ?_, fun i x hx => ?_, by show bl.length = d.ol.length; omega, by show d.ins.length = d.ol.length; omega, by show d.lows.length = d.ol.length; omega, by show d.rets.length = d.ol.length; omega, fun p hp => ⟨fun c l hc hl => ?_, fun c lo re hc hlo hre => ?_⟩⟩
    · have := fx.bOf x (List.mem_of_getElem? hx)
      show 0 ≤ x ∧ x < (d.el.length : Int)
      omega
    · have hi := (List.getElem?_eq_some_iff.1 hx).1
      obtain ⟨y, y1, y2⟩ := L.ent i (by have : i < d.el.length := hi; omega)
      have : x = y := by
        have hx' : d.el[i]? = some x := hx
        rw [y1] at hx'
        cases hx'
        rfl
      subst this
      show Mem d.ol d.ol.length i x
      rw [oln]
      exact y2
    · obtain ⟨c', a1, a2, a3⟩ := L.v3.ins p l hl
      have : c = c' := by
        have hc' : d.ol[p]? = some c := hc
        rw [a1] at hc'
        cases hc'
        rfl
      subst this
      refine ⟨a2, fun i x hx => ?_⟩
      show Mem d.ol d.ol.length c x
      rw [oln]
      exact a3 x (List.mem_of_getElem? hx)
    · obtain ⟨c', a1, a2, a3⟩ := L.v3.lows p lo hlo
      have : c = c' := by
        have hc' : d.ol[p]? = some c := hc
        rw [a1] at hc'
        cases hc'
        rfl
      subst this
      obtain ⟨c', b1, b2, b3⟩ := L.v3.rets p re hre
      have : c = c' := by
        have hc' : d.ol[p]? = some c := hc
        rw [b1] at hc'
        cases hc'
        rfl
      subst this
      refine ⟨fun e0 => ⟨?_, ?_, fun i x hx => ?_⟩, fun e0 => ⟨?_, ?_, fun j l hl => ⟨?_, fun i x hx => ?_⟩⟩⟩
      · rw [if_pos e0] at b2; omega
      · rw [if_pos e0] at a2; exact a2
      · show Mem d.ol d.ol.length 0 x
        rw [oln]
        exact a3 x (List.mem_of_getElem? hx)
      · rw [if_neg e0] at a2; omega
      · rw [if_neg e0] at b2; exact b2
      · show l.length = d.ol.length
        rw [oln]
        exact (b3 l (List.mem_of_getElem? hl)).1
      · obtain ⟨c2, g1, g2⟩ := (b3 l (List.mem_of_getElem? hl)).2 i x hx
        refine ⟨c2, g1, ?_⟩
        show Mem d.ol d.ol.length c2 x
        rw [oln]
        exact g2
end Go.Proofs.Ytnpbehfhncbjfaa.W
end

section
/- FoldErrs' walk. Conditions: none. -/
namespace Go.Proofs.Ytnpbehfhncbjfaa.W
open Go Go.AM
set_option linter.unusedVariables false
set_option maxRecDepth 100000
theorem ran13_1 : callB Try.prog noOrc 10000 30 13 [] (hsD 1) (fun v _ => isTrueV v) = true := by kernel_rfl
theorem ran13_2 : callB Try.prog noOrc 10000 30 13 [] (hsD 2) (fun v _ => isTrueV v) = true := by kernel_rfl
theorem ran13_3 : callB Try.prog noOrc 10000 30 13 [] (hsD 3) (fun v _ => isTrueV v) = true := by kernel_rfl
theorem known13 {h : AH} {K : Value → AH → Prop} (hm : h.length = 1 ∨ h.length = 2 ∨ h.length = 3) (k : ∀ h', Ex h h' → K (.bool true) h') : callW Try.prog 13 [] h K := by
  have : callW Try.prog 13 [] h fun v h' => v = .bool true ∧ Ex h h' := by
    rcases hm with hm | hm | hm
    · exact run_any noOrc_ok 1 (by decide) ran13_1 h hm
    · exact run_any noOrc_ok 2 (by decide) ran13_2 h hm
    · exact run_any noOrc_ok 3 (by decide) ran13_3 h hm
  refine callW_mono _ _ _ _ _ ?_ this
  rintro v h' ⟨rfl, x⟩
  exact k h' x
theorem res18 (e : Env) (h : AH) : resList Try.prog e h Try.f18.results.toList = (rdRow true 8 (e 2) h).map fun v => [v, e 3] := by
  have h1 : Try.f18.results.toList = [.cell 2 28, .tmp 3] := by kernel_rfl
  have h2 : ∀ x, pLoad Try.prog 28 x h = rdRow true 8 x h := fun x => by kernel_rfl
  rw [h1]
  show (match pLoad Try.prog 28 (e 2) h with
    | some v => match resList Try.prog e h [.tmp 3] with
      | some vs => some (v :: vs)
      | none => none
    | none => none) = _
  rw [h2]
  cases rdRow true 8 (e 2) h <;> rfl
end Go.Proofs.Ytnpbehfhncbjfaa.W
end

section
/- FoldErrs' walk: Small of what may not be is refused. Conditions: none. -/
namespace Go.Proofs.Ytnpbehfhncbjfaa.W
open Go Go.AM
set_option linter.unusedVariables false
set_option maxRecDepth 100000
theorem stM {h : AH} {id : Nat} {c : List Value} {u : MoV} {m : Mo} {K : AH → Prop} (hr : h[id]? = some (.row c true)) (hl : c.length = 8) (k : K (h.set id (.row (moRow u m) true))) : optW (pStore 8 (.pointer (some ⟨id, 0, none⟩)) (.agg (moRow u m).toArray) h) K := by
  refine w_stPA hr rfl (by omega) rfl ?_
  have e : spliceL c 0 (cellsL (.agg (moRow u m).toArray)) = moRow u m := by
    unfold spliceL
    show c.take 0 ++ moRow u m ++ c.drop (0 + (moRow u m).length) = _
    rw [List.drop_eq_nil_of_le (by show c.length ≤ 8; omega)]
    simp
  rw [e]
  exact k
theorem Sl.inj {s : Nat} {h : AH} {v : Value} {n : Nat} {a b : List Value} (x : Sl s h v n a) (y : Sl s h v n b) : a = b := by
  have hx := x.1
  have hy := y.1
  have nz : n = 0 → a = b := fun h0 => by
    subst h0
    rw [List.eq_nil_of_length_eq_zero (l := a) (by omega), List.eq_nil_of_length_eq_zero (l := b) (by omega)]
  rcases x.2 with ⟨_, h0⟩ | ⟨id, off, cap, e1, _, h1⟩
  · exact nz h0
  · rcases h1 with h1 | ⟨c, w, g, _, t⟩
    · exact nz h1
    · rcases y.2 with ⟨_, h0⟩ | ⟨id', off', cap', e2, _, h2⟩
      · exact nz h0
      · rcases h2 with h2 | ⟨c', w', g', _, t'⟩
        · exact nz h2
        · rw [e1] at e2
          cases e2
          rw [g] at g'
          cases g'
          exact t.symm.trans t'
theorem bldT {s : Nat} {z : List Value} {v : Value} {K : List Value → Prop} (hz : z.length = s) (hs : s ≤ 100) (hl : (cellsL v).length = s) (h1 : (cellsL v).all (·.oneCell') = true) (k : K (cellsL v)) : optW (bldSl s z 1 [(0, v)]) K := by
  rw [bldSl_one hz hs hl h1]
  exact k
def I64 (n : Int) : Prop := -9223372036854775808 ≤ n ∧ n ≤ 9223372036854775807
end Go.Proofs.Ytnpbehfhncbjfaa.W
end

section
/- Fold's laws: one thing of a machine is turned: rules. Conditions: none. -/
namespace Go.Proofs.Ytnpbehfhncbjfaa.W
open Go Go.AM
set_option linter.unusedVariables false
set_option maxRecDepth 100000
theorem w_stG {F : Nat → Prop} {h : AH} {v x : Value} {n i : Nat} {cs : List Value} {kd : IntKind} {K : Value → AH → Prop} (ho : OwnG 1 F h v n cs) (hi : i < n) (hx : cellsL x = [x]) (h1 : x.oneCell' = true)
    (k : ∀ q h', OwnG 1 F h' v n (cs.set i x) → h'.length = h.length → (∀ j, ¬ onId v j → h'[j]? = h[j]?) → K q h') : optW (pIdxS 1 v (.int kd (i : Nat))) fun q => optW (pStore 1 q x h) fun h' => K q h' := by
  obtain ⟨h0, ⟨rfl, rfl⟩ | ⟨id, c, hf, rfl, g, g2, g3⟩⟩ := ho
  · omega
  · refine w_some (v := .pointer (some ⟨id, 0 + i * 1, none⟩)) ?_ ?_
    · show (if (0 : Int) ≤ (i : Int) ∧ (i : Int) < (n : Int) then some (Value.pointer (some ⟨id, 0 + ((i : Nat) : Int).toNat * 1, none⟩)) else none) = _
      rw [if_pos ⟨by omega, by omega⟩, Int.toNat_natCast]
    · rw [Nat.zero_add, Nat.mul_one]
      rw [Nat.mul_one] at g2 g3 h0
      refine w_stP g (by omega) hx h1 (k _ _ ⟨by rw [List.length_set, Nat.mul_one]; exact h0, .inr ⟨id, _, hf, rfl, get_set _ (lt_of_get g) _, by rw [List.length_set]; omega, ?_⟩⟩ (by simp) fun j hj => get_ne (fun e => hj e) _)
      rw [Nat.mul_one, List.take_set, g3]
theorem RowsT.row {h h' : AH} {o tg : Nat → Tg} {vs : List Value} {ls : List (List Int)} {p : Nat} {v' w' : Value} {l' : List Int} (r : RowsT h o tg vs ls) (hp : p < ls.length) (hv : Sl 1 h' v' ls.length (vs.set p w')) (oth : ∀ j q, q ≠ p → o j = tg q → h'[j]? = h[j]?) (hw : Ints h' w' l') : RowsR h' v' (ls.set p l') := by
  refine ⟨vs.set p w', by rw [List.length_set]; exact hv, fun i l hl => ?_⟩
  have hl1 := r.1
  by_cases e : i = p
  · subst e
    rw [List.getElem?_set_self hp] at hl
    cases hl
    exact ⟨w', by rw [List.getElem?_set_self (by omega)], hw⟩
  · rw [List.getElem?_set_ne (Ne.symm e)] at hl
    obtain ⟨v, h1, h2⟩ := r.2 i l hl
    exact ⟨v, by rw [List.getElem?_set_ne (Ne.symm e)]; exact h1, (h2.mono (fun _ _ h => h) fun j _ hj => oth j i e hj).sl⟩
theorem RetsT.row {h h' : AH} {o : Nat → Tg} {vs : List Value} {rs : List (List (List Int))} {p : Nat} {v' w' : Value} {r' : List (List Int)} (r : RetsT h o vs rs) (hp : p < rs.length) (hv : Sl 1 h' v' rs.length (vs.set p w')) (oth : ∀ j q, q ≠ p → (o j = .ret q ∨ ∃ i, o j = .rr q i) → h'[j]? = h[j]?) (hw : RowsR h' w' r') : RetsR h' v' (rs.set p r') := by
  refine ⟨vs.set p w', by rw [List.length_set]; exact hv, fun i l hl => ?_⟩
  have hl1 := r.1
  by_cases e : i = p
  · subst e
    rw [List.getElem?_set_self hp] at hl
    cases hl
    exact ⟨w', by rw [List.getElem?_set_self (by omega)], hw⟩
  · rw [List.getElem?_set_ne (Ne.symm e)] at hl
    obtain ⟨v, ws, h1, h2, h3⟩ := r.2 i l hl
    refine ⟨v, by rw [List.getElem?_set_ne (Ne.symm e)]; exact h1, ?_⟩
    have h3' := h3.to (h' := h') fun j ⟨q, hj⟩ => oth j i e (.inr ⟨q, hj⟩)
    exact h3'.rows (by rw [← h3.1]; exact h2.mono (F' := fun j => o j = .ret i) (fun _ _ h => h) fun j _ hj => oth j i e (.inl hj))
theorem ptr_id {b f : Nat} {h h' : AH} (hh : h'[b]? = h[b]?) : ∀ x ∈ idOf (.pointer (some ⟨b, f, none⟩)), h[x]? = h'[x]? := by
  intro x hx
  have : x = b := List.mem_singleton.1 hx
  subst this
  exact hh.symm
end Go.Proofs.Ytnpbehfhncbjfaa.W
end

section
/- FoldChecks' walk: one thing of a machine is turned, then both tell the same. Conditions: none. -/
namespace Go.Proofs.Ytnpbehfhncbjfaa.W
open Go Go.AM
set_option linter.unusedVariables false
set_option maxRecDepth 100000
structure Stay (o : Nat → Tg) (T : Tg → Prop) (h h' : AH) : Prop where
  st : ∀ j, o j ≠ .no → ¬ T (o j) → h'[j]? = h[j]?
theorem Stay.at {o : Nat → Tg} {T : Tg → Prop} {h h' : AH} (s : Stay o T h h') {j : Nat} {t : Tg} (hj : o j = t) (ht : t ≠ .no) (hT : ¬ T t) : h'[j]? = h[j]? := s.st j (by rw [hj]; exact ht) (by rw [hj]; exact hT)
section
variable {h h' : AH} {b : Nat} {o : Nat → Tg} {u : MoV} {m : Mo} {T : Tg → Prop}
end
end Go.Proofs.Ytnpbehfhncbjfaa.W
end

section
/- Fold's laws: machines as they lie and plain machines; the code's Takes. Conditions: none. -/
namespace Go.Proofs.Ytnpbehfhncbjfaa.W
open Go Go.AM FoldPM
set_option linter.unusedVariables false
set_option maxRecDepth 100000
def Mo.pm (m : Mo) : PM where
  n := m.Of.length
  k := m.En.length
  pl := m.pl.toNat
  cl := m.cl.toNat
  of p := m.Of.getD p 0
  en c := (m.En.getD c 0).toNat
  fi p := m.Fi.getD p false
  inn p i := ((m.In.getD p []).getD i 0).toNat
  low p j := ((m.Low.getD p []).getD j 0).toNat
  ret p j q := (((m.Ret.getD p []).getD j []).getD q 0).toNat
theorem getD_of {α : Type} {l : List α} {i : Nat} {x d : α} (h : l[i]? = some x) : l.getD i d = x := by rw [List.getD_eq_getElem?_getD, h]; rfl
theorem Valid.ofAt {m : Mo} (_ : Valid m) {p : Nat} (hp : p < m.pm.n) : m.Of[p]? = some (m.pm.of p) := by
  obtain ⟨x, hx⟩ := getElem?_of_lt (l := m.Of) (i := p) hp
  have : m.pm.of p = x := getD_of hx
  rw [this, hx]
section
variable {m : Mo} (v : Valid m)
include v
theorem Valid.fiAt {p : Nat} (hp : p < m.pm.n) : m.Fi[p]? = some (m.pm.fi p) := by
  obtain ⟨x, hx⟩ := getElem?_of_lt (l := m.Fi) (i := p) (by have := v.lf; show p < m.Fi.length; rw [this]; exact hp)
  have : m.pm.fi p = x := getD_of hx
  rw [this, hx]
theorem Valid.enAt {c : Nat} (hc : c < m.pm.k) : m.En[c]? = some ((m.pm.en c : Nat) : Int) ∧ m.pm.en c < m.pm.n ∧ m.pm.of (m.pm.en c) = c := by
  obtain ⟨x, hx⟩ := getElem?_of_lt (l := m.En) (i := c) hc
  have e : m.pm.en c = x.toNat := by show (m.En.getD c 0).toNat = _; rw [getD_of hx]
  have h := v.en c x hx
  rw [e, Int.toNat_of_nonneg h.1]
  exact ⟨hx, by show x.toNat < m.Of.length; have := h.1; have := h.2.1; omega, getD_of h.2.2⟩
theorem Valid.inAt {p : Nat} (hp : p < m.pm.n) : ∃ l, m.In[p]? = some l ∧ l.length = m.pm.pl ∧ ∀ i, i < m.pm.pl → l[i]? = some ((m.pm.inn p i : Nat) : Int) ∧ m.pm.inn p i < m.pm.n ∧ m.pm.of (m.pm.inn p i) = m.pm.of p := by
  obtain ⟨l, hl⟩ := getElem?_of_lt (l := m.In) (i := p) (by have := v.li; show p < m.In.length; rw [this]; exact hp)
  have h := (v.st p hp).1 _ l (v.ofAt hp) hl
  have hp0 := v.pl.1
  have len : l.length = m.pm.pl := by have := h.1; show l.length = m.pl.toNat; omega
  refine ⟨l, hl, len, fun i hi => ?_⟩
  obtain ⟨x, hx⟩ := getElem?_of_lt (l := l) (i := i) (by omega)
  have e : m.pm.inn p i = x.toNat := by show ((m.In.getD p []).getD i 0).toNat = _; rw [getD_of hl, getD_of hx]
  have g := h.2 i x hx
  rw [e, Int.toNat_of_nonneg g.1]
  exact ⟨hx, by show x.toNat < m.Of.length; have := g.1; have := g.2.1; omega, getD_of g.2.2⟩
theorem Valid.rows {p : Nat} (hp : p < m.pm.n) : ∃ lo re, m.Low[p]? = some lo ∧ m.Ret[p]? = some re ∧ ClOK m p := by
  obtain ⟨lo, h1⟩ := getElem?_of_lt (l := m.Low) (i := p) (by have := v.ll; show p < m.Low.length; rw [this]; exact hp)
  obtain ⟨re, h2⟩ := getElem?_of_lt (l := m.Ret) (i := p) (by have := v.lr; show p < m.Ret.length; rw [this]; exact hp)
  exact ⟨lo, re, h1, h2, (v.st p hp).2⟩
theorem Valid.lowAt {p : Nat} (hp : p < m.pm.n) : ∃ l, m.Low[p]? = some l ∧ (m.pm.of p ≠ 0 → l = []) ∧ (m.pm.of p = 0 → l.length = m.pm.cl ∧ ∀ i, i < m.pm.cl → l[i]? = some ((m.pm.low p i : Nat) : Int) ∧ m.pm.low p i < m.pm.n ∧ m.pm.of (m.pm.low p i) = 0) := by
  obtain ⟨l, re, hl, hr, hc⟩ := v.rows hp
  have h := hc _ l re (v.ofAt hp) hl hr
  have hp0 := v.cl.1
  refine ⟨l, hl, fun h0 => List.eq_nil_of_length_eq_zero (h.2 h0).1, fun h0 => ?_⟩
  have h := (h.1 h0).2
  have len : l.length = m.pm.cl := by have := h.1; show l.length = m.cl.toNat; omega
  refine ⟨len, fun i hi => ?_⟩
  obtain ⟨x, hx⟩ := getElem?_of_lt (l := l) (i := i) (by omega)
  have e : m.pm.low p i = x.toNat := by show ((m.Low.getD p []).getD i 0).toNat = _; rw [getD_of hl, getD_of hx]
  have g := h.2 i x hx
  rw [e, Int.toNat_of_nonneg g.1]
  exact ⟨hx, by show x.toNat < m.Of.length; have := g.1; have := g.2.1; omega, getD_of g.2.2⟩
theorem Valid.retAt {p : Nat} (hp : p < m.pm.n) : ∃ r, m.Ret[p]? = some r ∧ (m.pm.of p = 0 → r = []) ∧ (m.pm.of p ≠ 0 → r.length = m.pm.cl ∧ ∀ j, j < m.pm.cl → ∃ l, r[j]? = some l ∧ l.length = m.pm.n ∧
    ∀ q, q < m.pm.n → l[q]? = some ((m.pm.ret p j q : Nat) : Int) ∧ m.pm.ret p j q < m.pm.n ∧ m.pm.of (m.pm.ret p j q) = m.pm.of q) := by
  obtain ⟨lo, re, hl, hr, hc⟩ := v.rows hp
  have h := hc _ lo re (v.ofAt hp) hl hr
  have hp0 := v.cl.1
  refine ⟨re, hr, fun h0 => List.eq_nil_of_length_eq_zero (h.1 h0).1, fun h0 => ?_⟩
  have h := (h.2 h0).2
  have len : re.length = m.pm.cl := by have := h.1; show re.length = m.cl.toNat; omega
  refine ⟨len, fun j hj => ?_⟩
  obtain ⟨l, hx⟩ := getElem?_of_lt (l := re) (i := j) (by omega)
  have g := h.2 j l hx
  refine ⟨l, hx, g.1, fun q hq => ?_⟩
  obtain ⟨x, hxx⟩ := getElem?_of_lt (l := l) (i := q) (by rw [g.1]; exact hq)
  have e : m.pm.ret p j q = x.toNat := by show (((m.Ret.getD p []).getD j []).getD q 0).toNat = _; rw [getD_of hr, getD_of hx, getD_of hxx]
  obtain ⟨c, hc, gx⟩ := g.2 q x hxx
  rw [e, Int.toNat_of_nonneg gx.1]
  refine ⟨hxx, by show x.toNat < m.Of.length; have := gx.1; have := gx.2.1; omega, ?_⟩
  have e2 : m.pm.of q = c := getD_of hc
  rw [e2]
  exact getD_of gx.2.2
theorem Valid.ok : m.pm.OK := by
  refine ⟨by show 1 ≤ m.Of.length; have := v.n1; omega, by show 1 ≤ m.En.length; have := v.k1; omega, fun p hp => v.of p _ (v.ofAt hp), fun c hc => (v.enAt hc).2, fun p i hp hi => ?_, fun p j hp h0 hj => ?_, fun p j q hp hq h0 hj => ?_⟩
  · obtain ⟨l, _, _, h⟩ := v.inAt hp
    exact (h i hi).2
  · obtain ⟨l, _, _, h⟩ := v.lowAt hp
    exact ((h h0).2 j hj).2
  · obtain ⟨r, _, _, h⟩ := v.retAt hp
    obtain ⟨l, _, _, h⟩ := (h h0).2 j hj
    exact (h q hq).2
end
section
variable {h : AH} {u : MoV} {m : Mo} (v : Valid m) (mh : MoH h u m)
include v mh
theorem rIn {p i : Nat} (hp : p < m.pm.n) (hi : i < m.pm.pl) {K : Value → Prop} (k : K (.int .i64 (m.pm.inn p i : Nat))) :
    optW (pIdxS 1 (sv u.vi) (.int .i64 (p : Nat))) fun a => optW (rdRow false 1 a h) fun b => optW (pIdxS 1 b (.int .i64 (i : Nat))) fun c => optW (rdRow false 1 c h) K := by
  obtain ⟨l, hl, _, h2⟩ := v.inAt hp
  obtain ⟨vals, s, r⟩ := mh.inn
  obtain ⟨w, hw, il⟩ := r p l hl
  exact idxV s hw fun z hz => w_rd1 hz rfl (w_idxN eI_len il (h2 i hi).1 fun z hz => w_rd1 hz rfl k)
theorem rLow {p i : Nat} (hp : p < m.pm.n) (h0 : m.pm.of p = 0) (hi : i < m.pm.cl) {K : Value → Prop} (k : K (.int .i64 (m.pm.low p i : Nat))) :
    optW (pIdxS 1 (sv u.vl) (.int .i64 (p : Nat))) fun a => optW (rdRow false 1 a h) fun b => optW (pIdxS 1 b (.int .i64 (i : Nat))) fun c => optW (rdRow false 1 c h) K := by
  obtain ⟨l, hl, _, h2⟩ := v.lowAt hp
  obtain ⟨vals, s, r⟩ := mh.low
  obtain ⟨w, hw, il⟩ := r p l hl
  exact idxV s hw fun z hz => w_rd1 hz rfl (w_idxN eI_len il ((h2 h0).2 i hi).1 fun z hz => w_rd1 hz rfl k)
end
def eP (x : Int × Int) : List Value := [.int .i64 x.1, .int .i64 x.2]
theorem eP_len (x : Int × Int) : (eP x).length = 2 := rfl
abbrev Pairs (h : AH) (v : Value) (l : List (Int × Int)) := SlT 2 eP h v l
def Psh (b : Nat) (h : AH) (v : Value) (s : List Nat) : Prop := OwnG 1 (fun j => b ≤ j) h v s.length (flat eI (s.map fun q => ((q : Nat) : Int)))
theorem Psh.ex {b : Nat} {h h' : AH} {v : Value} {s : List Nat} (p : Psh b h v s) (x : Ex h h') : Psh b h' v s := OwnG.mono p (fun _ _ h => h) fun j hj _ => x.get j (OwnG.on p hj).2
theorem takes27 {h : AH} {u : MoV} {m : Mo} {vw : Value} {w : List (Int × Int)} {K : Value → AH → Prop} (mh : MoH h u m) (hw : Pairs h vw w) (sz : w.length ≤ 100000) (kf : ¬ Valid m → ∀ h', Ex h h' → K (.bool false) h') (kt : Valid m → ∀ h', Ex h h' → K (.bool (takes m.pm w)) h') :
    callW Try.prog 27 [.agg (moRow u m).toArray, vw] h K := by
  refine c27 ?_
  unfold s27
  refine n_boxv rfl fun h1 x1 l1 g1 => ?_
  have g1' : h1[h.length]? = some (.row (moRow u m) true) := g1
  refine w_rdPA g1' (Nat.le_refl 8) ?_
  refine check15 (mh.ex x1) (fun nv h2 x2 => w_neq (c_tt (by decide) (kf nv _ (x1.trans x2)))) fun v h2 x2 => w_neq (c_ff (by decide) ?_)
  have x02 := x1.trans x2
  have g2 := x2.some g1'
  have m2 := mh.ex x02
  have hk := v.ok.k1
  have w2 : Pairs h2 vw w := Sl.ex hw x02
  refine w_offP (w_rdP g2 (v := sv u.ve) rfl (w_idxN eI_len m2.en (v.enAt hk).1 fun z hz => w_rd1 hz rfl (w_len hw ?_)))
  have lt2 := lt_of_get g2
  refine loopE_intro (fun mm e h' => ∃ (i p : Nat) (s : List Nat), i ≤ w.length ∧ mm = w.length - i ∧ e 2 = .pointer (some ⟨h.length, 0, none⟩) ∧ e 5 = .int .i64 (p : Nat) ∧ e 17 = vw ∧ e 18 = .int .i64 (w.length : Nat) ∧ e 19 = .int .i64 (i : Nat) ∧
      Ex h2 h' ∧ Psh h2.length h' (e 6) s ∧ s.length ≤ i ∧ CI m.pm s p ∧ tk m.pm s p (w.drop i) = takes m.pm w) w.length
    ⟨0, _, [], Nat.zero_le _, rfl, rfl, rfl, rfl, rfl, rfl, Ex.refl _, OwnG.nil _ _ _, Nat.le_refl _, .start v.ok (v.enAt hk).2.1 (by have := (v.enAt hk).2.2; simpa using this), rfl⟩ ?_
  rintro I mm e h3 ⟨i, p, s, hi, hmm, e2, e5, e17, e18, e19, x3, ps, ls, ci, ht⟩ ih
  rw [e2, e5, e17, e18, e19]
  refine w_lss (c_dec (fun q => ?_) (fun q => ?_))
  · obtain ⟨x, hx⟩ := getElem?_of_lt (l := w) (i := i) (by omega)
    have hd : w.drop i = x :: w.drop (i + 1) := by
      rw [List.drop_eq_getElem_cons (by omega : i < w.length), ← (List.getElem?_eq_some_iff.1 hx).2]
    rw [hd] at ht
    refine w_idxN eP_len (Sl.ex w2 x3) hx fun z hz => w_rdA hz rfl ?_
    refine n_rowv fun h4 x4 l4 g4 => w_stPA g4 rfl (Nat.le_refl 2) rfl ?_
    have lt4 := lt_of_get g4
    have g5 : (h4.set h3.length (.row (spliceL [.int .i64 0, .int .i64 0] 0 (cellsL (.agg (eP x).toArray))) true))[h3.length]? = some (.row (eP x) true) := get_set _ lt4 _
    have x5 : Ex h3 (h4.set h3.length (.row (spliceL [.int .i64 0, .int .i64 0] 0 (cellsL (.agg (eP x).toArray))) true)) := x4.set (Nat.le_refl _) _
    have x5' : Ex h3 (h4.set h3.length (.row (spliceL [.int .i64 0, .int .i64 0] 0 (cellsL (.agg (eP x).toArray))) true)) := x5
    have lt3 : h.length < h3.length := Nat.lt_of_lt_of_le lt2 x3.len
    have gb := x5.some (x3.some g2)
    have m5 := (m2.ex x3).ex x5
    have ps5 := ps.ex x5
    have x25 := x3.trans x5
    generalize hH : h4.set h3.length (.row (spliceL [.int .i64 0, .int .i64 0] 0 (cellsL (.agg (eP x).toArray))) true) = h5 at *
    have hH' : h4.set h3.length (.row (spliceL [(.int .i64 0), (.int .i64 0)] 0 (cellsL (.agg (eP x).toArray))) true) = h5 := hH
    clear g4 lt4 l4 hz
    have bx : ∀ (a : Int), a < 1152921504606846976 → True := fun _ _ => trivial
    have next : ∀ (e' : Env) (h' : AH) (p' : Nat) (s' : List Nat), e' 2 = .pointer (some ⟨h.length, 0, none⟩) → e' 5 = .int .i64 (p' : Nat) → e' 17 = vw → e' 18 = .int .i64 (w.length : Nat) → e' 19 = .int .i64 ((i : Int) + 1) → Ex h2 h' → Psh h2.length h' (e' 6) s' → s'.length ≤ s.length + 1 → CI m.pm s' p' → tk m.pm s' p' (w.drop (i + 1)) = takes m.pm w → I e' h' :=
      fun e' h' p' s' f1 f2 f3 f4 f5 y ps' hs' ci' ht' => ih (w.length - (i + 1)) _ _ (by omega) ⟨i + 1, p', s', by omega, rfl, f1, f2, f3, f4, f5, y, ps', by omega, ci', ht'⟩
    have hkl : ((m.pm.k : Nat) : Int) = (m.En.length : Nat) := rfl
    have hpl : ((m.pm.pl : Nat) : Int) = m.pl := Int.toNat_of_nonneg v.pl.1
    have hcl : ((m.pm.cl : Nat) : Int) = m.cl := Int.toNat_of_nonneg v.cl.1
    have k1 := v.k1
    have k2 := v.k2
    have pl2 := v.pl.2
    have cl2 := v.cl.2
    have psl : Sl 1 h5 (e 6) s.length _ := OwnG.sl ps5
    have en5 : Sl 1 h5 (sv u.ve) m.En.length _ := m5.en
    by_cases q1 : x.1 = 1 ∧ 0 ≤ x.2 ∧ x.2 < ((m.En.length : Nat) : Int) - 1
    · have q11 := q1.1
      have q12 := q1.2
      (repeat (with_reducible first | refine w_offP ?_ | refine w_nilc ?_ | refine w_rdP (by assumption) (by with_unfolding_all rfl) ?_ | refine w_rd1 (by assumption) (by with_unfolding_all rfl) ?_ | refine w_lss ?_ | refine w_leq ?_ | refine w_gtr ?_ | refine w_geq ?_ | refine w_eql ?_ | refine w_neq ?_ | refine w_lenSl ?_ | refine w_len (by assumption) ?_ | refine w_not ?_ | refine w_notb ?_ | refine c_t ?_ | refine c_f ?_ | refine gc_tt ?_ | refine gc_ft ?_ | refine gc_tf ?_ | refine gc_ff ?_ | refine gdc_tt ?_ | refine gdc_ft ?_ | refine gdc_tf ?_ | refine gdc_ff ?_ | refine pk_t ?_ | refine pk_f ?_ | refine hist_nil ?_ | refine hist_same ?_ | refine read_nil ?_ | refine c_tt (by first | assumption | omega) ?_ | refine c_ff (by first | assumption | omega) ?_ | refine g_tt (by first | assumption | omega) ?_ | refine g_tf (by first | assumption | omega) ?_ | refine g_ft (by first | assumption | omega) ?_ | refine g_ff (by first | assumption | omega) ?_ | refine gd_tt (by first | assumption | omega) ?_ | refine gd_tf (by first | assumption | omega) ?_ | refine gd_ft (by first | assumption | omega) ?_ | refine gd_ff (by first | assumption | omega) ?_ | refine pk_tt (by first | assumption | omega) ?_ | refine pk_ff (by first | assumption | omega) ?_ | refine w_idxN eI_len (by assumption) (by assumption) (fun _ _ => ?_) | refine w_idxT eI_len (by assumption) (by omega) (by assumption) (fun _ _ => ?_)))
      refine w_sub (by omega) (by omega) ?_
      (repeat (with_reducible first | refine w_offP ?_ | refine w_nilc ?_ | refine w_rdP (by assumption) (by with_unfolding_all rfl) ?_ | refine w_rd1 (by assumption) (by with_unfolding_all rfl) ?_ | refine w_lss ?_ | refine w_leq ?_ | refine w_gtr ?_ | refine w_geq ?_ | refine w_eql ?_ | refine w_neq ?_ | refine w_lenSl ?_ | refine w_len (by assumption) ?_ | refine w_not ?_ | refine w_notb ?_ | refine c_t ?_ | refine c_f ?_ | refine gc_tt ?_ | refine gc_ft ?_ | refine gc_tf ?_ | refine gc_ff ?_ | refine gdc_tt ?_ | refine gdc_ft ?_ | refine gdc_tf ?_ | refine gdc_ff ?_ | refine pk_t ?_ | refine pk_f ?_ | refine hist_nil ?_ | refine hist_same ?_ | refine read_nil ?_ | refine c_tt (by first | assumption | omega) ?_ | refine c_ff (by first | assumption | omega) ?_ | refine g_tt (by first | assumption | omega) ?_ | refine g_tf (by first | assumption | omega) ?_ | refine g_ft (by first | assumption | omega) ?_ | refine g_ff (by first | assumption | omega) ?_ | refine gd_tt (by first | assumption | omega) ?_ | refine gd_tf (by first | assumption | omega) ?_ | refine gd_ft (by first | assumption | omega) ?_ | refine gd_ff (by first | assumption | omega) ?_ | refine pk_tt (by first | assumption | omega) ?_ | refine pk_ff (by first | assumption | omega) ?_ | refine w_idxN eI_len (by assumption) (by assumption) (fun _ _ => ?_) | refine w_idxT eI_len (by assumption) (by omega) (by assumption) (fun _ _ => ?_)))
      refine within31 ?_
      (repeat (with_reducible first | refine w_offP ?_ | refine w_nilc ?_ | refine w_rdP (by assumption) (by with_unfolding_all rfl) ?_ | refine w_rd1 (by assumption) (by with_unfolding_all rfl) ?_ | refine w_lss ?_ | refine w_leq ?_ | refine w_gtr ?_ | refine w_geq ?_ | refine w_eql ?_ | refine w_neq ?_ | refine w_lenSl ?_ | refine w_len (by assumption) ?_ | refine w_not ?_ | refine w_notb ?_ | refine c_t ?_ | refine c_f ?_ | refine gc_tt ?_ | refine gc_ft ?_ | refine gc_tf ?_ | refine gc_ff ?_ | refine gdc_tt ?_ | refine gdc_ft ?_ | refine gdc_tf ?_ | refine gdc_ff ?_ | refine pk_t ?_ | refine pk_f ?_ | refine hist_nil ?_ | refine hist_same ?_ | refine read_nil ?_ | refine c_tt (by first | assumption | omega) ?_ | refine c_ff (by first | assumption | omega) ?_ | refine g_tt (by first | assumption | omega) ?_ | refine g_tf (by first | assumption | omega) ?_ | refine g_ft (by first | assumption | omega) ?_ | refine g_ff (by first | assumption | omega) ?_ | refine gd_tt (by first | assumption | omega) ?_ | refine gd_tf (by first | assumption | omega) ?_ | refine gd_ft (by first | assumption | omega) ?_ | refine gd_ff (by first | assumption | omega) ?_ | refine pk_tt (by first | assumption | omega) ?_ | refine pk_ff (by first | assumption | omega) ?_ | refine w_idxN eI_len (by assumption) (by assumption) (fun _ _ => ?_) | refine w_idxT eI_len (by assumption) (by omega) (by assumption) (fun _ _ => ?_)))
      refine bldT rfl (by decide) rfl rfl (n_newv fun h6 x6 l6 g6 => appSl_of ?_)
      have rm : (200000 : Nat) < room40 := by decide
      refine app_g (by decide) (ps5.ex x6) (srcL_new (n := 1) (s := 1) g6 (by decide) rfl) rfl (by omega) fun v' h7 a1 a2 a3 a4 => ?_
      have x27 : Ex h2 h7 := (x25.trans x6).below a2 fun j hj => a3 j (by have := x25.len; have := x6.len; omega) fun hh => by have := (OwnG.on (ps5.ex x6) hh).1; omega
      have gb7 := (x27.some g2)
      have ps7 : Psh h2.length h7 v' (s ++ [p]) := by
        unfold Psh
        rw [List.length_append, List.map_append, flat_append]
        exact OwnG.mono a1 (fun j _ hj => hj.elim id fun e => by have := x25.len; have := x6.len; show h2.length ≤ j; omega) fun _ _ _ => rfl
      have g57 : h7[h3.length]? = some (.row (eP x) true) := by
        have := lt_of_get g5
        refine (a3 h3.length (by have := x6.len; omega) fun hh => ?_).trans (x6.some g5)
        have := (OwnG.on ps hh).2
        omega
      refine w_offP (w_rdP gb7 (v := sv u.ve) rfl (w_offP (w_rdP g57 rfl (w_add (by omega) (by omega) ?_))))
      have hc : x.2.toNat + 1 < m.pm.k := by omega
      have e1 : x.2 + 1 = ((x.2.toNat + 1 : Nat) : Int) := by omega
      rw [e1]
      refine w_idxN eI_len (m2.ex x27).en (v.enAt hc).1 fun z hz => w_rd1 hz rfl (w_add (by omega) (by omega) ?_)
      refine next _ _ _ _ e2 rfl e17 e18 rfl x27 ps7 (by simp) (ci.push v.ok hc) ?_
      rw [← ht]
      show _ = tk m.pm s p (x :: w.drop (i + 1))
      rw [tk, if_pos (by exact ⟨q11, q12.1, by omega⟩)]
    by_cases q3 : x.1 = 3 ∧ 0 ≤ x.2 ∧ x.2 < m.pl
    · have q11 := q3.1
      have q12 := q3.2
      have q13 : ¬ x.1 = 1 := by omega
      (repeat (with_reducible first | refine w_offP ?_ | refine w_nilc ?_ | refine w_rdP (by assumption) (by with_unfolding_all rfl) ?_ | refine w_rd1 (by assumption) (by with_unfolding_all rfl) ?_ | refine w_lss ?_ | refine w_leq ?_ | refine w_gtr ?_ | refine w_geq ?_ | refine w_eql ?_ | refine w_neq ?_ | refine w_lenSl ?_ | refine w_len (by assumption) ?_ | refine w_not ?_ | refine w_notb ?_ | refine c_t ?_ | refine c_f ?_ | refine gc_tt ?_ | refine gc_ft ?_ | refine gc_tf ?_ | refine gc_ff ?_ | refine gdc_tt ?_ | refine gdc_ft ?_ | refine gdc_tf ?_ | refine gdc_ff ?_ | refine pk_t ?_ | refine pk_f ?_ | refine hist_nil ?_ | refine hist_same ?_ | refine read_nil ?_ | refine c_tt (by first | assumption | omega) ?_ | refine c_ff (by first | assumption | omega) ?_ | refine g_tt (by first | assumption | omega) ?_ | refine g_tf (by first | assumption | omega) ?_ | refine g_ft (by first | assumption | omega) ?_ | refine g_ff (by first | assumption | omega) ?_ | refine gd_tt (by first | assumption | omega) ?_ | refine gd_tf (by first | assumption | omega) ?_ | refine gd_ft (by first | assumption | omega) ?_ | refine gd_ff (by first | assumption | omega) ?_ | refine pk_tt (by first | assumption | omega) ?_ | refine pk_ff (by first | assumption | omega) ?_ | refine w_idxN eI_len (by assumption) (by assumption) (fun _ _ => ?_) | refine w_idxT eI_len (by assumption) (by omega) (by assumption) (fun _ _ => ?_)))
      refine within31 ?_
      (repeat (with_reducible first | refine w_offP ?_ | refine w_nilc ?_ | refine w_rdP (by assumption) (by with_unfolding_all rfl) ?_ | refine w_rd1 (by assumption) (by with_unfolding_all rfl) ?_ | refine w_lss ?_ | refine w_leq ?_ | refine w_gtr ?_ | refine w_geq ?_ | refine w_eql ?_ | refine w_neq ?_ | refine w_lenSl ?_ | refine w_len (by assumption) ?_ | refine w_not ?_ | refine w_notb ?_ | refine c_t ?_ | refine c_f ?_ | refine gc_tt ?_ | refine gc_ft ?_ | refine gc_tf ?_ | refine gc_ff ?_ | refine gdc_tt ?_ | refine gdc_ft ?_ | refine gdc_tf ?_ | refine gdc_ff ?_ | refine pk_t ?_ | refine pk_f ?_ | refine hist_nil ?_ | refine hist_same ?_ | refine read_nil ?_ | refine c_tt (by first | assumption | omega) ?_ | refine c_ff (by first | assumption | omega) ?_ | refine g_tt (by first | assumption | omega) ?_ | refine g_tf (by first | assumption | omega) ?_ | refine g_ft (by first | assumption | omega) ?_ | refine g_ff (by first | assumption | omega) ?_ | refine gd_tt (by first | assumption | omega) ?_ | refine gd_tf (by first | assumption | omega) ?_ | refine gd_ft (by first | assumption | omega) ?_ | refine gd_ff (by first | assumption | omega) ?_ | refine pk_tt (by first | assumption | omega) ?_ | refine pk_ff (by first | assumption | omega) ?_ | refine w_idxN eI_len (by assumption) (by assumption) (fun _ _ => ?_) | refine w_idxT eI_len (by assumption) (by omega) (by assumption) (fun _ _ => ?_)))
      have hc : x.2.toNat < m.pm.pl := by omega
      have e1 : x.2 = ((x.2.toNat : Nat) : Int) := by omega
      obtain ⟨l, hl, _, h2l⟩ := v.inAt ci.lt
      obtain ⟨vals, sI, r⟩ := m5.inn
      obtain ⟨wI, hwI, il⟩ := r p l hl
      refine idxV sI hwI fun z hz => w_rd1 hz rfl (w_offP (w_rdP g5 rfl ?_))
      rw [show ((x.2 : Int)) = ((x.2.toNat : Nat) : Int) from e1]
      refine w_idxN eI_len il (h2l _ hc).1 fun z hz => w_rd1 hz rfl (w_add (by omega) (by omega) ?_)
      refine next _ _ _ _ e2 rfl e17 e18 rfl x25 ps5 (by omega) (ci.inn v.ok hc) ?_
      rw [← ht]
      show _ = tk m.pm s p (x :: w.drop (i + 1))
      rw [tk, if_neg (by omega), if_pos (by exact ⟨q11, q12.1, by omega⟩)]
    by_cases q4 : x.1 = 2 ∧ 0 ≤ x.2 ∧ x.2 < m.cl
    · have q11 := q4.1
      have q12 := q4.2
      have q13 : ¬ x.1 = 1 := by omega
      have q14 : ¬ x.1 = 3 := by omega
      have hc : x.2.toNat < m.pm.cl := by omega
      have e1 : x.2 = ((x.2.toNat : Nat) : Int) := by omega
      (repeat (with_reducible first | refine w_offP ?_ | refine w_nilc ?_ | refine w_rdP (by assumption) (by with_unfolding_all rfl) ?_ | refine w_rd1 (by assumption) (by with_unfolding_all rfl) ?_ | refine w_lss ?_ | refine w_leq ?_ | refine w_gtr ?_ | refine w_geq ?_ | refine w_eql ?_ | refine w_neq ?_ | refine w_lenSl ?_ | refine w_len (by assumption) ?_ | refine w_not ?_ | refine w_notb ?_ | refine c_t ?_ | refine c_f ?_ | refine gc_tt ?_ | refine gc_ft ?_ | refine gc_tf ?_ | refine gc_ff ?_ | refine gdc_tt ?_ | refine gdc_ft ?_ | refine gdc_tf ?_ | refine gdc_ff ?_ | refine pk_t ?_ | refine pk_f ?_ | refine hist_nil ?_ | refine hist_same ?_ | refine read_nil ?_ | refine c_tt (by first | assumption | omega) ?_ | refine c_ff (by first | assumption | omega) ?_ | refine g_tt (by first | assumption | omega) ?_ | refine g_tf (by first | assumption | omega) ?_ | refine g_ft (by first | assumption | omega) ?_ | refine g_ff (by first | assumption | omega) ?_ | refine gd_tt (by first | assumption | omega) ?_ | refine gd_tf (by first | assumption | omega) ?_ | refine gd_ft (by first | assumption | omega) ?_ | refine gd_ff (by first | assumption | omega) ?_ | refine pk_tt (by first | assumption | omega) ?_ | refine pk_ff (by first | assumption | omega) ?_ | refine w_idxN eI_len (by assumption) (by assumption) (fun _ _ => ?_) | refine w_idxT eI_len (by assumption) (by omega) (by assumption) (fun _ _ => ?_)))
      refine within31 ?_
      (repeat (with_reducible first | refine w_offP ?_ | refine w_nilc ?_ | refine w_rdP (by assumption) (by with_unfolding_all rfl) ?_ | refine w_rd1 (by assumption) (by with_unfolding_all rfl) ?_ | refine w_lss ?_ | refine w_leq ?_ | refine w_gtr ?_ | refine w_geq ?_ | refine w_eql ?_ | refine w_neq ?_ | refine w_lenSl ?_ | refine w_len (by assumption) ?_ | refine w_not ?_ | refine w_notb ?_ | refine c_t ?_ | refine c_f ?_ | refine gc_tt ?_ | refine gc_ft ?_ | refine gc_tf ?_ | refine gc_ff ?_ | refine gdc_tt ?_ | refine gdc_ft ?_ | refine gdc_tf ?_ | refine gdc_ff ?_ | refine pk_t ?_ | refine pk_f ?_ | refine hist_nil ?_ | refine hist_same ?_ | refine read_nil ?_ | refine c_tt (by first | assumption | omega) ?_ | refine c_ff (by first | assumption | omega) ?_ | refine g_tt (by first | assumption | omega) ?_ | refine g_tf (by first | assumption | omega) ?_ | refine g_ft (by first | assumption | omega) ?_ | refine g_ff (by first | assumption | omega) ?_ | refine gd_tt (by first | assumption | omega) ?_ | refine gd_tf (by first | assumption | omega) ?_ | refine gd_ft (by first | assumption | omega) ?_ | refine gd_ff (by first | assumption | omega) ?_ | refine pk_tt (by first | assumption | omega) ?_ | refine pk_ff (by first | assumption | omega) ?_ | refine w_idxN eI_len (by assumption) (by assumption) (fun _ _ => ?_) | refine w_idxT eI_len (by assumption) (by omega) (by assumption) (fun _ _ => ?_)))
      by_cases q5 : (s.length : Int) = 0
      · (repeat (with_reducible first | refine w_offP ?_ | refine w_nilc ?_ | refine w_rdP (by assumption) (by with_unfolding_all rfl) ?_ | refine w_rd1 (by assumption) (by with_unfolding_all rfl) ?_ | refine w_lss ?_ | refine w_leq ?_ | refine w_gtr ?_ | refine w_geq ?_ | refine w_eql ?_ | refine w_neq ?_ | refine w_lenSl ?_ | refine w_len (by assumption) ?_ | refine w_not ?_ | refine w_notb ?_ | refine c_t ?_ | refine c_f ?_ | refine gc_tt ?_ | refine gc_ft ?_ | refine gc_tf ?_ | refine gc_ff ?_ | refine gdc_tt ?_ | refine gdc_ft ?_ | refine gdc_tf ?_ | refine gdc_ff ?_ | refine pk_t ?_ | refine pk_f ?_ | refine hist_nil ?_ | refine hist_same ?_ | refine read_nil ?_ | refine c_tt (by first | assumption | omega) ?_ | refine c_ff (by first | assumption | omega) ?_ | refine g_tt (by first | assumption | omega) ?_ | refine g_tf (by first | assumption | omega) ?_ | refine g_ft (by first | assumption | omega) ?_ | refine g_ff (by first | assumption | omega) ?_ | refine gd_tt (by first | assumption | omega) ?_ | refine gd_tf (by first | assumption | omega) ?_ | refine gd_ft (by first | assumption | omega) ?_ | refine gd_ff (by first | assumption | omega) ?_ | refine pk_tt (by first | assumption | omega) ?_ | refine pk_ff (by first | assumption | omega) ?_ | refine w_idxN eI_len (by assumption) (by assumption) (fun _ _ => ?_) | refine w_idxT eI_len (by assumption) (by omega) (by assumption) (fun _ _ => ?_)))
        have s0 : s = [] := List.eq_nil_of_length_eq_zero (by omega)
        subst s0
        have z0 := ci.z.2 rfl
        obtain ⟨l, hl, _, h2l⟩ := v.lowAt ci.lt
        obtain ⟨vals, sI, r⟩ := m5.low
        obtain ⟨wI, hwI, il⟩ := r p l hl
        refine idxV sI hwI fun z hz => w_rd1 hz rfl (w_offP (w_rdP g5 rfl ?_))
        rw [show ((x.2 : Int)) = ((x.2.toNat : Nat) : Int) from e1]
        refine w_idxN eI_len il ((h2l z0).2 _ hc).1 fun z hz => w_rd1 hz rfl (w_add (by omega) (by omega) ?_)
        refine next _ _ _ _ e2 rfl e17 e18 rfl x25 ps5 (by simp) (ci.low v.ok hc) ?_
        rw [← ht]
        show _ = tk m.pm [] p (x :: w.drop (i + 1))
        rw [tk, if_neg (by omega), if_neg (by omega), if_pos (by exact ⟨q11, q12.1, by omega⟩)]
        rfl
      · (repeat (with_reducible first | refine w_offP ?_ | refine w_nilc ?_ | refine w_rdP (by assumption) (by with_unfolding_all rfl) ?_ | refine w_rd1 (by assumption) (by with_unfolding_all rfl) ?_ | refine w_lss ?_ | refine w_leq ?_ | refine w_gtr ?_ | refine w_geq ?_ | refine w_eql ?_ | refine w_neq ?_ | refine w_lenSl ?_ | refine w_len (by assumption) ?_ | refine w_not ?_ | refine w_notb ?_ | refine c_t ?_ | refine c_f ?_ | refine gc_tt ?_ | refine gc_ft ?_ | refine gc_tf ?_ | refine gc_ff ?_ | refine gdc_tt ?_ | refine gdc_ft ?_ | refine gdc_tf ?_ | refine gdc_ff ?_ | refine pk_t ?_ | refine pk_f ?_ | refine hist_nil ?_ | refine hist_same ?_ | refine read_nil ?_ | refine c_tt (by first | assumption | omega) ?_ | refine c_ff (by first | assumption | omega) ?_ | refine g_tt (by first | assumption | omega) ?_ | refine g_tf (by first | assumption | omega) ?_ | refine g_ft (by first | assumption | omega) ?_ | refine g_ff (by first | assumption | omega) ?_ | refine gd_tt (by first | assumption | omega) ?_ | refine gd_tf (by first | assumption | omega) ?_ | refine gd_ft (by first | assumption | omega) ?_ | refine gd_ff (by first | assumption | omega) ?_ | refine pk_tt (by first | assumption | omega) ?_ | refine pk_ff (by first | assumption | omega) ?_ | refine w_idxN eI_len (by assumption) (by assumption) (fun _ _ => ?_) | refine w_idxT eI_len (by assumption) (by omega) (by assumption) (fun _ _ => ?_)))
        refine within31 ?_
        (repeat (with_reducible first | refine w_offP ?_ | refine w_nilc ?_ | refine w_rdP (by assumption) (by with_unfolding_all rfl) ?_ | refine w_rd1 (by assumption) (by with_unfolding_all rfl) ?_ | refine w_lss ?_ | refine w_leq ?_ | refine w_gtr ?_ | refine w_geq ?_ | refine w_eql ?_ | refine w_neq ?_ | refine w_lenSl ?_ | refine w_len (by assumption) ?_ | refine w_not ?_ | refine w_notb ?_ | refine c_t ?_ | refine c_f ?_ | refine gc_tt ?_ | refine gc_ft ?_ | refine gc_tf ?_ | refine gc_ff ?_ | refine gdc_tt ?_ | refine gdc_ft ?_ | refine gdc_tf ?_ | refine gdc_ff ?_ | refine pk_t ?_ | refine pk_f ?_ | refine hist_nil ?_ | refine hist_same ?_ | refine read_nil ?_ | refine c_tt (by first | assumption | omega) ?_ | refine c_ff (by first | assumption | omega) ?_ | refine g_tt (by first | assumption | omega) ?_ | refine g_tf (by first | assumption | omega) ?_ | refine g_ft (by first | assumption | omega) ?_ | refine g_ff (by first | assumption | omega) ?_ | refine gd_tt (by first | assumption | omega) ?_ | refine gd_tf (by first | assumption | omega) ?_ | refine gd_ft (by first | assumption | omega) ?_ | refine gd_ff (by first | assumption | omega) ?_ | refine pk_tt (by first | assumption | omega) ?_ | refine pk_ff (by first | assumption | omega) ?_ | refine w_idxN eI_len (by assumption) (by assumption) (fun _ _ => ?_) | refine w_idxT eI_len (by assumption) (by omega) (by assumption) (fun _ _ => ?_)))
        obtain ⟨q, hq⟩ : ∃ q, s.getLast? = some q := ⟨s[s.length - 1]'(by omega), by rw [List.getLast?_eq_getElem?, List.getElem?_eq_getElem]⟩
        have gq := last_get hq
        have hs := ci.st _ _ gq
        have nz : m.pm.of p ≠ 0 := fun e0 => q5 (by rw [ci.z.1 e0]; rfl)
        refine w_sub (by omega) (by omega) ?_
        have e3 : ((s.length : Nat) : Int) - 1 = ((s.length - 1 : Nat) : Int) := by omega
        rw [e3]
        have gq' : (s.map fun q => ((q : Nat) : Int))[s.length - 1]? = some ((q : Nat) : Int) := by rw [List.getElem?_map, gq]; rfl
        have psI : Ints h5 (e 6) (s.map fun q => ((q : Nat) : Int)) := by
          have := OwnG.sl ps5
          unfold Ints SlT
          rw [List.length_map]
          exact this
        refine w_idxN eI_len psI gq' fun z hz => w_rd1 hz rfl ?_
        refine w_len psl (w_sub (by omega) (by omega) ?_)
        rw [e3]
        refine cut_g ps5 (Nat.sub_le _ _) fun v' c1 c2 => ?_
        obtain ⟨r, hr, _, h2r⟩ := v.retAt ci.lt
        obtain ⟨l, hl, _, h3r⟩ := (h2r nz).2 _ hc
        obtain ⟨vals, sI, rr⟩ := m5.ret
        obtain ⟨wI, hwI, vs2, s2, r2⟩ := rr p r hr
        obtain ⟨w3, hw3, il⟩ := r2 _ l hl
        refine w_offP (w_rdP gb (v := sv u.vr) rfl (idxV sI hwI fun z hz => w_rd1 hz rfl (w_offP (w_rdP g5 rfl ?_))))
        rw [show ((x.2 : Int)) = ((x.2.toNat : Nat) : Int) from e1]
        refine idxV s2 hw3 fun z hz => w_rd1 hz rfl (w_idxN eI_len il (h3r q hs.1).1 fun z hz => w_rd1 hz rfl (w_add (by omega) (by omega) ?_))
        refine next _ _ _ s.dropLast e2 rfl e17 e18 rfl x25 ?_ (by rw [List.length_dropLast]; omega) (ci.pop v.ok hq hc) ?_
        · show Psh h2.length h5 v' s.dropLast
          unfold Psh
          rw [Nat.mul_one] at c1
          have e5 : flat eI (s.dropLast.map fun q => ((q : Nat) : Int)) = (flat eI (s.map fun q => ((q : Nat) : Int))).take (s.length - 1) := by
            rw [flat_eI, flat_eI, ← List.map_take, ← List.map_take, List.dropLast_eq_take]
          rw [e5, List.length_dropLast]
          exact c1
        · rw [← ht]
          show _ = tk m.pm s p (x :: w.drop (i + 1))
          rw [tk, if_neg (by omega), if_neg (by omega), if_pos (by exact ⟨q11, q12.1, by omega⟩), hq]
    have no : tk m.pm s p (x :: w.drop (i + 1)) = false := by
      rw [tk, if_neg (by omega), if_neg (by omega), if_neg (by omega)]
    have fin : ∀ h', Ex h5 h' → K (.bool false) h' := fun h' y => by
      have := kt v h' (x02.trans (x25.trans y))
      rw [← ht, no] at this
      exact this
    have nq1 : ¬ (x.1 = 1 ∧ 0 ≤ x.2 ∧ x.2 < ((m.En.length : Nat) : Int) - 1) := q1
    by_cases p1 : x.1 = 1
    · have p2 : ¬ (0 ≤ x.2 ∧ x.2 < ((m.En.length : Nat) : Int) - 1) := fun hh => q1 ⟨p1, hh⟩
      have p3 : ¬ x.1 = 3 := by omega
      have p4 : ¬ x.1 = 2 := by omega
      (repeat (with_reducible first | refine w_offP ?_ | refine w_nilc ?_ | refine w_rdP (by assumption) (by with_unfolding_all rfl) ?_ | refine w_rd1 (by assumption) (by with_unfolding_all rfl) ?_ | refine w_lss ?_ | refine w_leq ?_ | refine w_gtr ?_ | refine w_geq ?_ | refine w_eql ?_ | refine w_neq ?_ | refine w_lenSl ?_ | refine w_len (by assumption) ?_ | refine w_not ?_ | refine w_notb ?_ | refine c_t ?_ | refine c_f ?_ | refine gc_tt ?_ | refine gc_ft ?_ | refine gc_tf ?_ | refine gc_ff ?_ | refine gdc_tt ?_ | refine gdc_ft ?_ | refine gdc_tf ?_ | refine gdc_ff ?_ | refine pk_t ?_ | refine pk_f ?_ | refine hist_nil ?_ | refine hist_same ?_ | refine read_nil ?_ | refine c_tt (by first | assumption | omega) ?_ | refine c_ff (by first | assumption | omega) ?_ | refine g_tt (by first | assumption | omega) ?_ | refine g_tf (by first | assumption | omega) ?_ | refine g_ft (by first | assumption | omega) ?_ | refine g_ff (by first | assumption | omega) ?_ | refine gd_tt (by first | assumption | omega) ?_ | refine gd_tf (by first | assumption | omega) ?_ | refine gd_ft (by first | assumption | omega) ?_ | refine gd_ff (by first | assumption | omega) ?_ | refine pk_tt (by first | assumption | omega) ?_ | refine pk_ff (by first | assumption | omega) ?_ | refine w_idxN eI_len (by assumption) (by assumption) (fun _ _ => ?_) | refine w_idxT eI_len (by assumption) (by omega) (by assumption) (fun _ _ => ?_)))
      refine w_sub (by omega) (by omega) ?_
      (repeat (with_reducible first | refine w_offP ?_ | refine w_nilc ?_ | refine w_rdP (by assumption) (by with_unfolding_all rfl) ?_ | refine w_rd1 (by assumption) (by with_unfolding_all rfl) ?_ | refine w_lss ?_ | refine w_leq ?_ | refine w_gtr ?_ | refine w_geq ?_ | refine w_eql ?_ | refine w_neq ?_ | refine w_lenSl ?_ | refine w_len (by assumption) ?_ | refine w_not ?_ | refine w_notb ?_ | refine c_t ?_ | refine c_f ?_ | refine gc_tt ?_ | refine gc_ft ?_ | refine gc_tf ?_ | refine gc_ff ?_ | refine gdc_tt ?_ | refine gdc_ft ?_ | refine gdc_tf ?_ | refine gdc_ff ?_ | refine pk_t ?_ | refine pk_f ?_ | refine hist_nil ?_ | refine hist_same ?_ | refine read_nil ?_ | refine c_tt (by first | assumption | omega) ?_ | refine c_ff (by first | assumption | omega) ?_ | refine g_tt (by first | assumption | omega) ?_ | refine g_tf (by first | assumption | omega) ?_ | refine g_ft (by first | assumption | omega) ?_ | refine g_ff (by first | assumption | omega) ?_ | refine gd_tt (by first | assumption | omega) ?_ | refine gd_tf (by first | assumption | omega) ?_ | refine gd_ft (by first | assumption | omega) ?_ | refine gd_ff (by first | assumption | omega) ?_ | refine pk_tt (by first | assumption | omega) ?_ | refine pk_ff (by first | assumption | omega) ?_ | refine w_idxN eI_len (by assumption) (by assumption) (fun _ _ => ?_) | refine w_idxT eI_len (by assumption) (by omega) (by assumption) (fun _ _ => ?_)))
      refine within31 ?_
      (repeat (with_reducible first | refine w_offP ?_ | refine w_nilc ?_ | refine w_rdP (by assumption) (by with_unfolding_all rfl) ?_ | refine w_rd1 (by assumption) (by with_unfolding_all rfl) ?_ | refine w_lss ?_ | refine w_leq ?_ | refine w_gtr ?_ | refine w_geq ?_ | refine w_eql ?_ | refine w_neq ?_ | refine w_lenSl ?_ | refine w_len (by assumption) ?_ | refine w_not ?_ | refine w_notb ?_ | refine c_t ?_ | refine c_f ?_ | refine gc_tt ?_ | refine gc_ft ?_ | refine gc_tf ?_ | refine gc_ff ?_ | refine gdc_tt ?_ | refine gdc_ft ?_ | refine gdc_tf ?_ | refine gdc_ff ?_ | refine pk_t ?_ | refine pk_f ?_ | refine hist_nil ?_ | refine hist_same ?_ | refine read_nil ?_ | refine c_tt (by first | assumption | omega) ?_ | refine c_ff (by first | assumption | omega) ?_ | refine g_tt (by first | assumption | omega) ?_ | refine g_tf (by first | assumption | omega) ?_ | refine g_ft (by first | assumption | omega) ?_ | refine g_ff (by first | assumption | omega) ?_ | refine gd_tt (by first | assumption | omega) ?_ | refine gd_tf (by first | assumption | omega) ?_ | refine gd_ft (by first | assumption | omega) ?_ | refine gd_ff (by first | assumption | omega) ?_ | refine pk_tt (by first | assumption | omega) ?_ | refine pk_ff (by first | assumption | omega) ?_ | refine w_idxN eI_len (by assumption) (by assumption) (fun _ _ => ?_) | refine w_idxT eI_len (by assumption) (by omega) (by assumption) (fun _ _ => ?_)))
      exact fin _ (Ex.refl _)
    · by_cases p3 : x.1 = 3
      · have p2 : ¬ (0 ≤ x.2 ∧ x.2 < m.pl) := fun hh => q3 ⟨p3, hh⟩
        have p4 : ¬ x.1 = 2 := by omega
        (repeat (with_reducible first | refine w_offP ?_ | refine w_nilc ?_ | refine w_rdP (by assumption) (by with_unfolding_all rfl) ?_ | refine w_rd1 (by assumption) (by with_unfolding_all rfl) ?_ | refine w_lss ?_ | refine w_leq ?_ | refine w_gtr ?_ | refine w_geq ?_ | refine w_eql ?_ | refine w_neq ?_ | refine w_lenSl ?_ | refine w_len (by assumption) ?_ | refine w_not ?_ | refine w_notb ?_ | refine c_t ?_ | refine c_f ?_ | refine gc_tt ?_ | refine gc_ft ?_ | refine gc_tf ?_ | refine gc_ff ?_ | refine gdc_tt ?_ | refine gdc_ft ?_ | refine gdc_tf ?_ | refine gdc_ff ?_ | refine pk_t ?_ | refine pk_f ?_ | refine hist_nil ?_ | refine hist_same ?_ | refine read_nil ?_ | refine c_tt (by first | assumption | omega) ?_ | refine c_ff (by first | assumption | omega) ?_ | refine g_tt (by first | assumption | omega) ?_ | refine g_tf (by first | assumption | omega) ?_ | refine g_ft (by first | assumption | omega) ?_ | refine g_ff (by first | assumption | omega) ?_ | refine gd_tt (by first | assumption | omega) ?_ | refine gd_tf (by first | assumption | omega) ?_ | refine gd_ft (by first | assumption | omega) ?_ | refine gd_ff (by first | assumption | omega) ?_ | refine pk_tt (by first | assumption | omega) ?_ | refine pk_ff (by first | assumption | omega) ?_ | refine w_idxN eI_len (by assumption) (by assumption) (fun _ _ => ?_) | refine w_idxT eI_len (by assumption) (by omega) (by assumption) (fun _ _ => ?_)))
        refine within31 ?_
        (repeat (with_reducible first | refine w_offP ?_ | refine w_nilc ?_ | refine w_rdP (by assumption) (by with_unfolding_all rfl) ?_ | refine w_rd1 (by assumption) (by with_unfolding_all rfl) ?_ | refine w_lss ?_ | refine w_leq ?_ | refine w_gtr ?_ | refine w_geq ?_ | refine w_eql ?_ | refine w_neq ?_ | refine w_lenSl ?_ | refine w_len (by assumption) ?_ | refine w_not ?_ | refine w_notb ?_ | refine c_t ?_ | refine c_f ?_ | refine gc_tt ?_ | refine gc_ft ?_ | refine gc_tf ?_ | refine gc_ff ?_ | refine gdc_tt ?_ | refine gdc_ft ?_ | refine gdc_tf ?_ | refine gdc_ff ?_ | refine pk_t ?_ | refine pk_f ?_ | refine hist_nil ?_ | refine hist_same ?_ | refine read_nil ?_ | refine c_tt (by first | assumption | omega) ?_ | refine c_ff (by first | assumption | omega) ?_ | refine g_tt (by first | assumption | omega) ?_ | refine g_tf (by first | assumption | omega) ?_ | refine g_ft (by first | assumption | omega) ?_ | refine g_ff (by first | assumption | omega) ?_ | refine gd_tt (by first | assumption | omega) ?_ | refine gd_tf (by first | assumption | omega) ?_ | refine gd_ft (by first | assumption | omega) ?_ | refine gd_ff (by first | assumption | omega) ?_ | refine pk_tt (by first | assumption | omega) ?_ | refine pk_ff (by first | assumption | omega) ?_ | refine w_idxN eI_len (by assumption) (by assumption) (fun _ _ => ?_) | refine w_idxT eI_len (by assumption) (by omega) (by assumption) (fun _ _ => ?_)))
        exact fin _ (Ex.refl _)
      · by_cases p4 : x.1 = 2
        · have p2 : ¬ (0 ≤ x.2 ∧ x.2 < m.cl) := fun hh => q4 ⟨p4, hh⟩
          (repeat (with_reducible first | refine w_offP ?_ | refine w_nilc ?_ | refine w_rdP (by assumption) (by with_unfolding_all rfl) ?_ | refine w_rd1 (by assumption) (by with_unfolding_all rfl) ?_ | refine w_lss ?_ | refine w_leq ?_ | refine w_gtr ?_ | refine w_geq ?_ | refine w_eql ?_ | refine w_neq ?_ | refine w_lenSl ?_ | refine w_len (by assumption) ?_ | refine w_not ?_ | refine w_notb ?_ | refine c_t ?_ | refine c_f ?_ | refine gc_tt ?_ | refine gc_ft ?_ | refine gc_tf ?_ | refine gc_ff ?_ | refine gdc_tt ?_ | refine gdc_ft ?_ | refine gdc_tf ?_ | refine gdc_ff ?_ | refine pk_t ?_ | refine pk_f ?_ | refine hist_nil ?_ | refine hist_same ?_ | refine read_nil ?_ | refine c_tt (by first | assumption | omega) ?_ | refine c_ff (by first | assumption | omega) ?_ | refine g_tt (by first | assumption | omega) ?_ | refine g_tf (by first | assumption | omega) ?_ | refine g_ft (by first | assumption | omega) ?_ | refine g_ff (by first | assumption | omega) ?_ | refine gd_tt (by first | assumption | omega) ?_ | refine gd_tf (by first | assumption | omega) ?_ | refine gd_ft (by first | assumption | omega) ?_ | refine gd_ff (by first | assumption | omega) ?_ | refine pk_tt (by first | assumption | omega) ?_ | refine pk_ff (by first | assumption | omega) ?_ | refine w_idxN eI_len (by assumption) (by assumption) (fun _ _ => ?_) | refine w_idxT eI_len (by assumption) (by omega) (by assumption) (fun _ _ => ?_)))
          refine within31 ?_
          (repeat (with_reducible first | refine w_offP ?_ | refine w_nilc ?_ | refine w_rdP (by assumption) (by with_unfolding_all rfl) ?_ | refine w_rd1 (by assumption) (by with_unfolding_all rfl) ?_ | refine w_lss ?_ | refine w_leq ?_ | refine w_gtr ?_ | refine w_geq ?_ | refine w_eql ?_ | refine w_neq ?_ | refine w_lenSl ?_ | refine w_len (by assumption) ?_ | refine w_not ?_ | refine w_notb ?_ | refine c_t ?_ | refine c_f ?_ | refine gc_tt ?_ | refine gc_ft ?_ | refine gc_tf ?_ | refine gc_ff ?_ | refine gdc_tt ?_ | refine gdc_ft ?_ | refine gdc_tf ?_ | refine gdc_ff ?_ | refine pk_t ?_ | refine pk_f ?_ | refine hist_nil ?_ | refine hist_same ?_ | refine read_nil ?_ | refine c_tt (by first | assumption | omega) ?_ | refine c_ff (by first | assumption | omega) ?_ | refine g_tt (by first | assumption | omega) ?_ | refine g_tf (by first | assumption | omega) ?_ | refine g_ft (by first | assumption | omega) ?_ | refine g_ff (by first | assumption | omega) ?_ | refine gd_tt (by first | assumption | omega) ?_ | refine gd_tf (by first | assumption | omega) ?_ | refine gd_ft (by first | assumption | omega) ?_ | refine gd_ff (by first | assumption | omega) ?_ | refine pk_tt (by first | assumption | omega) ?_ | refine pk_ff (by first | assumption | omega) ?_ | refine w_idxN eI_len (by assumption) (by assumption) (fun _ _ => ?_) | refine w_idxT eI_len (by assumption) (by omega) (by assumption) (fun _ _ => ?_)))
          refine within31 ?_
          (repeat (with_reducible first | refine w_offP ?_ | refine w_nilc ?_ | refine w_rdP (by assumption) (by with_unfolding_all rfl) ?_ | refine w_rd1 (by assumption) (by with_unfolding_all rfl) ?_ | refine w_lss ?_ | refine w_leq ?_ | refine w_gtr ?_ | refine w_geq ?_ | refine w_eql ?_ | refine w_neq ?_ | refine w_lenSl ?_ | refine w_len (by assumption) ?_ | refine w_not ?_ | refine w_notb ?_ | refine c_t ?_ | refine c_f ?_ | refine gc_tt ?_ | refine gc_ft ?_ | refine gc_tf ?_ | refine gc_ff ?_ | refine gdc_tt ?_ | refine gdc_ft ?_ | refine gdc_tf ?_ | refine gdc_ff ?_ | refine pk_t ?_ | refine pk_f ?_ | refine hist_nil ?_ | refine hist_same ?_ | refine read_nil ?_ | refine c_tt (by first | assumption | omega) ?_ | refine c_ff (by first | assumption | omega) ?_ | refine g_tt (by first | assumption | omega) ?_ | refine g_tf (by first | assumption | omega) ?_ | refine g_ft (by first | assumption | omega) ?_ | refine g_ff (by first | assumption | omega) ?_ | refine gd_tt (by first | assumption | omega) ?_ | refine gd_tf (by first | assumption | omega) ?_ | refine gd_ft (by first | assumption | omega) ?_ | refine gd_ff (by first | assumption | omega) ?_ | refine pk_tt (by first | assumption | omega) ?_ | refine pk_ff (by first | assumption | omega) ?_ | refine w_idxN eI_len (by assumption) (by assumption) (fun _ _ => ?_) | refine w_idxT eI_len (by assumption) (by omega) (by assumption) (fun _ _ => ?_)))
          exact fin _ (Ex.refl _)
        · (repeat (with_reducible first | refine w_offP ?_ | refine w_nilc ?_ | refine w_rdP (by assumption) (by with_unfolding_all rfl) ?_ | refine w_rd1 (by assumption) (by with_unfolding_all rfl) ?_ | refine w_lss ?_ | refine w_leq ?_ | refine w_gtr ?_ | refine w_geq ?_ | refine w_eql ?_ | refine w_neq ?_ | refine w_lenSl ?_ | refine w_len (by assumption) ?_ | refine w_not ?_ | refine w_notb ?_ | refine c_t ?_ | refine c_f ?_ | refine gc_tt ?_ | refine gc_ft ?_ | refine gc_tf ?_ | refine gc_ff ?_ | refine gdc_tt ?_ | refine gdc_ft ?_ | refine gdc_tf ?_ | refine gdc_ff ?_ | refine pk_t ?_ | refine pk_f ?_ | refine hist_nil ?_ | refine hist_same ?_ | refine read_nil ?_ | refine c_tt (by first | assumption | omega) ?_ | refine c_ff (by first | assumption | omega) ?_ | refine g_tt (by first | assumption | omega) ?_ | refine g_tf (by first | assumption | omega) ?_ | refine g_ft (by first | assumption | omega) ?_ | refine g_ff (by first | assumption | omega) ?_ | refine gd_tt (by first | assumption | omega) ?_ | refine gd_tf (by first | assumption | omega) ?_ | refine gd_ft (by first | assumption | omega) ?_ | refine gd_ff (by first | assumption | omega) ?_ | refine pk_tt (by first | assumption | omega) ?_ | refine pk_ff (by first | assumption | omega) ?_ | refine w_idxN eI_len (by assumption) (by assumption) (fun _ _ => ?_) | refine w_idxT eI_len (by assumption) (by omega) (by assumption) (fun _ _ => ?_)))
          exact fin _ (Ex.refl _)
  · have : w.drop i = [] := List.drop_eq_nil_of_le (by omega)
    rw [this] at ht
    have g3 := x3.some g2
    have m3 := m2.ex x3
    refine w_offP (w_rdP g3 (v := sv u.vf) rfl (w_idxN eBo_len m3.fi (v.fiAt ci.lt) fun z hz => w_rd1 hz rfl ?_))
    rw [show m.pm.fi p = takes m.pm w from ht]
    exact kt v _ (x02.trans x3)
end Go.Proofs.Ytnpbehfhncbjfaa.W
end

section
/- Fold's laws: words of numbers; rows joined; which states are reached: its parts. Conditions: none. -/
namespace Go.Proofs.Ytnpbehfhncbjfaa.W
open Go Go.AM FoldPM
set_option linter.unusedVariables false
set_option maxRecDepth 100000
theorem bigR : (2000000 : Nat) < room40 := by decide
theorem word22 {h : AH} {u : MoV} {m : Mo} {vws : Value} {ws : List Int} {most : Int} {K : Value → AH → Prop} (mh : MoH h u m) (v : Valid m) (hws : Ints h vws ws) (hmost : most ≤ 1000)
    (k : ∀ v' h' (w : List (Int × Int)), Ex h h' → OwnSl 2 h.length h' v' w.length (flat eP w) → w.length ≤ 1000 → K v' h') : callW Try.prog 22 [.agg (moRow u m).toArray, vws, .int .i64 most] h K := by
  refine c22 ?_
  unfold s22
  refine n_boxv rfl fun h1 x1 l1 g1 => ?_
  have g1' : h1[h.length]? = some (.row (moRow u m) true) := g1
  refine loopE_intro (fun mm e h' => ∃ (i : Nat) (w : List (Int × Int)), i ≤ ws.length ∧ mm = ws.length - i ∧ (i ≤ 1000) ∧ e 1 = vws ∧ e 2 = .int .i64 most ∧ e 3 = .pointer (some ⟨h.length, 0, none⟩) ∧ e 8 = .int .i64 (i : Nat) ∧ Ex h1 h' ∧ OwnSl 2 h1.length h' (e 7) w.length (flat eP w) ∧ w.length ≤ i) ws.length
    ⟨0, [], Nat.zero_le _, rfl, by omega, rfl, rfl, rfl, rfl, Ex.refl _, OwnSl.nil _ _ _, Nat.le_refl _⟩ ?_
  rintro I mm e h2 ⟨i, w, hi, hmm, hi2, e1, e2, e3, e8, x2, ow, lw⟩ ih
  rw [e1, e2, e3, e8]
  have x02 := x1.trans x2
  refine w_len hws (w_lss ?_)
  have fin : K (e 7) h2 := k _ _ w x02 (ow.mono (by omega)) (by omega)
  by_cases q : (i : Int) < (ws.length : Nat)
  · refine g_tt q (g_tt q (g_tt q (w_lss (pk_tt q (c_dec (fun q2 => ?_) (fun q2 => fin))))))
    obtain ⟨a, ha⟩ := getElem?_of_lt (l := ws) (i := i) (by omega)
    refine w_idxN eI_len (Sl.ex hws x02) ha fun z hz => w_rd1 hz rfl (within16 _ _ _ _ (by decide) (by decide) ?_)
    have hb : 0 ≤ a % 1073741824 ∧ a % 1073741824 < 1073741824 := by omega
    generalize a % 1073741824 = n at *
    refine w_rem (by decide) hb.1 (w_add (by omega) (by omega) ?_)
    have g2 := x2.some g1'
    have m2 := mh.ex x02
    have k1 := v.k1
    have k2 := v.k2
    have p1 := v.pl
    have c1 := v.cl
    refine w_offP (w_rdP g2 (v := sv u.ve) rfl (w_len m2.en (w_sub (by omega) (by omega) ?_)))
    refine w_offP (w_rdP g2 (v := .int .i64 m.cl) rfl (w_offP (w_rdP g2 (v := .int .i64 m.pl) rfl ?_)))
    refine w_some (v := [.int .i64 0, .int .i64 ((m.En.length : Nat) - 1), .int .i64 m.cl, .int .i64 m.pl]) (by simp [bldSl, fillL, repL, cellsL, Value.oneCell']) ?_
    refine n_newv fun h3 x3 l3 g3 => ?_
    have i4 : Ints h3 (.slice (some ⟨h2.length, 0, none⟩) 4 4) [0, ((m.En.length : Nat) : Int) - 1, m.cl, m.pl] := slI (n := 4) g3 rfl (by decide)
    have hr : 0 ≤ n % 3 ∧ n % 3 < 3 := by omega
    obtain ⟨c, hc⟩ := getElem?_of_lt (l := ([0, ((m.En.length : Nat) : Int) - 1, m.cl, m.pl] : List Int)) (i := (1 + n % 3).toNat) (by show (1 + n % 3).toNat < 4; omega)
    have next : ∀ (e' : Env) (h' : AH) (w' : List (Int × Int)), e' 1 = vws → e' 2 = .int .i64 most → e' 3 = .pointer (some ⟨h.length, 0, none⟩) → e' 8 = .int .i64 ((i : Int) + 1) → Ex h1 h' → OwnSl 2 h1.length h' (e' 7) w'.length (flat eP w') → w'.length ≤ w.length + 1 → I e' h' :=
      fun e' h' w' f1 f2 f3 f4 y o' l' => ih (ws.length - (i + 1)) _ _ (by omega) ⟨i + 1, w', by omega, rfl, by omega, f1, f2, f3, f4, y, o', by omega⟩
    refine w_idxT eI_len i4 (by omega) hc fun z hz => w_rd1 hz rfl (w_gtr (c_dec (fun q3 => ?_) (fun q3 => ?_)))
    · refine w_quo (by decide) hb.1 (by omega) (w_rem q3 (by omega) ?_)
      refine w_some (v := .agg #[.int .i64 (1 + n % 3), .int .i64 (n / 3 % c)]) rfl ?_
      refine bldT rfl (by decide) rfl rfl (n_newv fun h4 x4 l4 g4 => appSl_of ?_)
      refine app_own (by decide) (ow.ex (x3.trans x4)) (srcL_new (n := 1) (s := 2) g4 (by decide) rfl) rfl (by have := bigR; omega) (by have := x2.len; have := x3.len; have := x4.len; omega) fun v' h5 o1 o2 o3 o4 => ?_
      refine w_add (by omega) (by omega) ?_
      have x25 : Ex h1 h5 := ((x2.trans x3).trans x4).below o2 fun j hj => o3 j (by have := x2.len; have := x3.len; have := x4.len; omega) (ow.not_old hj)
      refine next _ _ (w ++ [(1 + n % 3, n / 3 % c)]) e1 e2 e3 rfl x25 ?_ (by simp)
      show OwnSl 2 h1.length h5 v' _ _
      rw [List.length_append, flat_append]
      exact o1
    · refine w_add (by omega) (by omega) ?_
      exact next _ _ w e1 e2 e3 rfl (x2.trans x3) (ow.ex x3) (by omega)
  · refine g_tf q (g_tf q (g_tf q (pk_ff q (c_f fin))))
end Go.Proofs.Ytnpbehfhncbjfaa.W
end

section
/- Fold's laws: rows joined; what a state leads to. Conditions: none. -/
namespace Go.Proofs.Ytnpbehfhncbjfaa.W
open Go Go.AM FoldPM
set_option linter.unusedVariables false
set_option maxRecDepth 100000
theorem grow62 {h : AH} {n : Int} {K : Value → AH → Prop} (h0 : 0 ≤ n) (hn : n ≤ 1000000) (k : ∀ v' h', Ex h h' → OwnG 1 (fun j => h.length ≤ j) h' v' 0 [] → K v' h') : callW Try.prog 62 [.slice none 0 0, .int .i64 n] h K := by
  refine c62 ?_
  unfold s62
  refine w_lss (c_ff (by omega) (w_some (v := .int .i64 0) (by kernel_rfl) (w_lenSl (w_sub (by decide) (by decide) ?_))))
  have e0 : (0 : Int) - ((0 : Nat) : Int) = 0 := rfl
  rw [e0]
  refine w_sub (by omega) (by omega) ?_
  rw [Int.sub_zero]
  refine w_gtr (c_dec (fun q => ?_) (fun q => ?_))
  · refine w_some (v := .int .i64 0) (by kernel_rfl) (w_some (v := .slice none 0 0) rfl ?_)
    unfold appZI
    dsimp only
    unfold appZ
    dsimp only
    have := bigR
    rw [if_neg (by omega), if_pos ⟨q, by omega⟩]
    have o : OwnG 1 (fun j => h.length ≤ j) (h ++ [.row (repL [.int .i64 0] n.toNat) true]) (.slice (some ⟨h.length, 0, none⟩) n.toNat (openCap + 1)) n.toNat (repL [.int .i64 0] n.toNat) := by
      have e : (repL [Value.int .i64 0] n.toNat).length = n.toNat * 1 := by rw [repL_zero, flat_eI_len]; simp
      exact ⟨e, .inr ⟨h.length, _, Nat.le_refl _, rfl, get_new _ _, by omega, by rw [← e, List.take_length]⟩⟩
    refine w_lenSl (cut_g o (Nat.zero_le _) fun v' a b => ?_)
    exact k _ _ (.app _ _) (by simpa using a)
  · exact k _ _ (Ex.refl _) (OwnG.nil _ _ _)
theorem conc57 {h : AH} {v : Value} {ls : List (List Int)} {K : Value → AH → Prop} (hr : RowsR h v ls) (sz : ls.flatten.length ≤ 100000) (szn : ls.length ≤ 1000)
    (k : ∀ v' h', Ex h h' → OwnG 1 (fun j => h.length ≤ j) h' v' ls.flatten.length (flat eI ls.flatten) → K v' h') : callW Try.prog 57 [v] h K := by
  obtain ⟨vals, hv, hrow⟩ := hr
  refine c57 ?_
  unfold s57
  refine w_len hv ?_
  have tk : ∀ (i : Nat) (l : List Int), ls[i]? = some l → (ls.take (i + 1)).flatten = (ls.take i).flatten ++ l := fun i l hl => by rw [take_succ_get hl, List.flatten_append]; simp
  have le : ∀ i, (ls.take i).flatten.length ≤ 100000 := fun i => by
    have := congrArg List.length (congrArg List.flatten (List.take_append_drop i ls))
    rw [List.flatten_append, List.length_append] at this
    omega
  refine loopE_intro (fun mm e h' => ∃ i : Nat, i ≤ ls.length ∧ mm = ls.length - i ∧ e 0 = v ∧ e 3 = .int .i64 ((ls.take i).flatten.length : Nat) ∧ e 9 = v ∧ e 10 = .int .i64 (ls.length : Nat) ∧ e 11 = .int .i64 (i : Nat) ∧ h = h') ls.length
    ⟨0, Nat.zero_le _, rfl, rfl, rfl, rfl, rfl, rfl, rfl⟩ ?_
  rintro I mm e h' ⟨i, hi, hmm, e0, e3, e9, e10, e11, rfl⟩ ih
  rw [e9, e10, e11, e3, e0]
  refine w_lss (c_dec (fun q => ?_) (fun q => ?_))
  · obtain ⟨l, hl⟩ := getElem?_of_lt (l := ls) (i := i) (by omega)
    obtain ⟨w, hw, iw⟩ := hrow i l hl
    have e1 := tk i l hl
    have e2 := le (i + 1)
    have e4 := congrArg List.length e1
    rw [List.length_append] at e4
    refine idxV hv hw fun z hz => w_rd1 hz rfl (w_len iw (w_add (by omega) (by omega) (w_lss (c_ff (by omega) (w_add (by omega) (by omega) ?_)))))
    refine ih (ls.length - (i + 1)) _ _ (by omega) ⟨i + 1, by omega, rfl, e0, ?_, e9, e10, rfl, rfl⟩
    show Value.int .i64 _ = _
    rw [e4]
    congr 1
  · have l0 := le i
    refine grow62 (by omega) (by omega) fun v1 h1 x1 o1 => w_len hv ?_
    clear ih
    refine loopE_intro (fun mm e h' => ∃ i : Nat, i ≤ ls.length ∧ mm = ls.length - i ∧ e 25 = v ∧ e 26 = .int .i64 (ls.length : Nat) ∧ e 27 = .int .i64 (i : Nat) ∧ Ex h h' ∧ OwnG 1 (fun j => h.length ≤ j) h' (e 6) (ls.take i).flatten.length (flat eI (ls.take i).flatten)) ls.length
      ⟨0, Nat.zero_le _, rfl, rfl, rfl, rfl, x1, o1⟩ ?_
    clear e0 e3 e9 e10 e11 hmm hi q l0 o1 x1
    clear e i mm I v1 h1
    rintro I mm e h1 ⟨i, hi, hmm, e25, e26, e27, x1, o1⟩ ih
    rw [e25, e26, e27]
    refine w_lss (c_dec (fun q => ?_) (fun q => ?_))
    · obtain ⟨l, hl⟩ := getElem?_of_lt (l := ls) (i := i) (by omega)
      obtain ⟨w, hw, iw⟩ := hrow i l hl
      have e1 := tk i l hl
      have e2 := le (i + 1)
      have e4 := congrArg List.length e1
      rw [List.length_append] at e4
      refine idxV (hv.ex x1) hw fun z hz => w_rd1 hz rfl ?_
      have iw1 := Sl.ex iw x1
      refine appSl_sl iw1 (app_g (by decide) o1 (srcL_sl (by decide) iw1) (by rw [flat_eI_len]; omega) (by have := bigR; omega) fun v' h2 a1 a2 a3 a4 => ?_)
      refine w_add (by omega) (by omega) ?_
      refine ih (ls.length - (i + 1)) _ _ (by omega) ⟨i + 1, by omega, rfl, e25, e26, rfl, x1.below a2 fun j hj => a3 j (by have := x1.len; omega) fun hh => by have := (o1.on hh).1; omega, ?_⟩
      show OwnG 1 (fun j => h.length ≤ j) h2 v' _ _
      rw [e4, e1, flat_append]
      exact OwnG.mono a1 (fun j _ hj => hj.elim id fun e => by have := x1.len; show h.length ≤ j; omega) fun _ _ _ => rfl
    · have hall : ls.take i = ls := List.take_of_length_le (by omega)
      rw [hall] at o1
      exact k _ _ x1 o1
end Go.Proofs.Ytnpbehfhncbjfaa.W
end

section
/- Fold's laws: which states are reached. Conditions: none. -/
namespace Go.Proofs.Ytnpbehfhncbjfaa.W
open Go Go.AM FoldPM
set_option linter.unusedVariables false
set_option maxRecDepth 100000
theorem flat_eBo_set (l : List Bool) (i : Nat) (x : Bool) : (flat eBo l).set i (.bool x) = flat eBo (l.set i x) := by
  rw [flat_eBo, flat_eBo, List.map_set]
theorem flat_eBo_len (l : List Bool) : (flat eBo l).length = l.length := by rw [flat_eBo, List.length_map]
theorem flat_eBo_get {l : List Bool} {i : Nat} {x : Bool} (h : l[i]? = some x) : (flat eBo l)[i]? = some (.bool x) := by rw [flat_eBo, List.getElem?_map, h]; rfl
structure RS (M : PM) (bl0 bl : List Bool) : Prop where
  len : bl.length = M.n
  up : ∀ x : Nat, bl0[x]? = some true → bl[x]? = some true
  so : ∀ x : Nat, bl[x]? = some true → Rch M x
theorem _root_.Go.AM.Exx.set {i : Nat} {a b : AH} (x : Exx i a b) (o : AObj) : Exx i a (b.set i o) := ⟨by rw [List.length_set]; exact x.len, fun j hj hne => (get_ne (Ne.symm hne) _).trans (x.get j hj hne)⟩
theorem _root_.Go.AM.Exx.ofEx {a b : AH} (x : Ex a b) (i : Nat) : Exx i a b := ⟨x.len, fun j hj _ => x.get j hj⟩
theorem set_up {bl : List Bool} {q x : Nat} (h : bl[x]? = some true) : (bl.set q true)[x]? = some true := by
  by_cases e : q = x
  · subst e; rw [List.getElem?_set_self (List.getElem?_eq_some_iff.1 h).1]
  · rw [List.getElem?_set_ne e]; exact h
theorem RS.set {M : PM} {bl0 bl : List Bool} {q : Nat} (r : RS M bl0 bl) (hq : Rch M q) : RS M bl0 (bl.set q true) := by
  refine ⟨by rw [List.length_set]; exact r.len, fun x hx => set_up (r.up x hx), fun x hx => ?_⟩
  by_cases e : q = x
  · subst e; exact hq
  · rw [List.getElem?_set_ne e] at hx; exact r.so x hx
theorem reached45 {h h0 : AH} {u : MoV} {m : Mo} {bl0 : List Bool} {I p n : Nat} {K : Value → AH → Prop} (v : Valid m) (mh : MoH h0 u m) (x0 : Ex h0 h) (hI0 : h0.length ≤ I) (hI : h[I]? = some (.row (flat eBo bl0) true)) (hn : n = m.pm.n) (hp : Rch m.pm p) (rs0 : RS m.pm bl0 bl0)
    (k : ∀ h' bl, Exx I h h' → h'[I]? = some (.row (flat eBo bl) true) → RS m.pm bl0 bl → (∀ i, i < m.pm.pl → bl[m.pm.inn p i]? = some true) → (m.pm.of p = 0 → ∀ j, j < m.pm.cl → bl[m.pm.low p j]? = some true) →
      (m.pm.of p ≠ 0 → ∀ j, j < m.pm.cl → ∀ q : Nat, bl0[q]? = some true → bl[m.pm.ret p j q]? = some true) → K (.tuple #[]) h') :
    callW Try.prog 45 [.agg (moRow u m).toArray, .slice (some ⟨I, 0, none⟩) n n, .int .i64 (p : Nat)] h K := by
  subst hn
  have ok := v.ok
  have hpn := hp.lt ok
  refine c45 ?_
  unfold s45
  refine n_boxv rfl fun h1 x1 l1 g1 => ?_
  have g1' : h1[h.length]? = some (.row (moRow u m) true) := g1
  have xr := Ex.res h1
  have gr := xr.some g1'
  have m1 := mh.ex (x0.trans x1)
  obtain ⟨li, hli, lli, hin⟩ := v.inAt hpn
  obtain ⟨lo, hlo, lo1, lo2⟩ := v.lowAt hpn
  obtain ⟨re, hre, re1, re2⟩ := v.retAt hpn
  obtain ⟨vi, si, ri⟩ := m1.inn
  obtain ⟨wi, hwi, ii⟩ := ri p li hli
  obtain ⟨vl, sl, rl⟩ := m1.low
  obtain ⟨wl, hwl, il⟩ := rl p lo hlo
  refine w_offP (w_rdP gr (v := sv u.vi) rfl (idxV (si.ex xr) hwi fun z hz => w_rd1 hz rfl ?_))
  refine w_offP (w_rdP gr (v := sv u.vl) rfl (idxV (sl.ex xr) hwl fun z hz => w_rd1 hz rfl ?_))
  obtain ⟨ai, ni, ci, rfl⟩ := Sl.isSl ii
  obtain ⟨al, nl, cl, rfl⟩ := Sl.isSl il
  refine w_some (v := [.slice ai ni ci, .slice al nl cl]) (by simp [bldSl, fillL, repL, cellsL, Value.oneCell']) ?_
  refine n_res (n_newv fun h2 x2 l2 g2 => ?_)
  have x12 := x1.trans x2
  have lI := lt_of_get hI
  have pl2 := v.pl.2
  have cl2 := v.cl.2
  have hpl : ((m.pm.pl : Nat) : Int) = m.pl := Int.toNat_of_nonneg v.pl.1
  have hcl : ((m.pm.cl : Nat) : Int) = m.cl := Int.toNat_of_nonneg v.cl.1
  have n2 := v.n2
  have hnn : m.pm.n = m.Of.length := rfl
  have llo : lo.length ≤ 20 := by
    by_cases h0 : m.pm.of p = 0
    · have := (lo2 h0).1; omega
    · rw [lo1 h0]; exact Nat.zero_le _
  have rr : RowsR h2 (.slice (some ⟨h1.length, 0, none⟩) 2 2) [li, lo] := by
    refine ⟨[.slice ai ni ci, .slice al nl cl], ⟨rfl, .inr ⟨_, 0, _, rfl, .inl ⟨by decide, Nat.le_refl _⟩, .inr ⟨_, _, g2, Nat.le_refl _, rfl⟩⟩⟩, fun i l hl => ?_⟩
    match i with
    | 0 => cases hl; exact ⟨_, rfl, Sl.ex ii x2⟩
    | 1 => cases hl; exact ⟨_, rfl, Sl.ex il x2⟩
    | i + 2 => simp at hl
  have lll : (li ++ lo).length ≤ 40 := by rw [List.length_append]; omega
  have fl : [li, lo].flatten = li ++ lo := by simp
  refine conc57 rr (by rw [fl, List.length_append]; omega) (by show 2 ≤ 1000; omega) fun v23 h3 x3 o23 => ?_
  rw [fl] at o23
  refine w_len o23.sl ?_
  have x13 := x12.trans x3
  have g3 := (x2.trans x3).some g1'
  have hI3 := x13.some hI
  have m3 := m1.ex (x2.trans x3)
  have el : ∀ (a : Nat) (x : Int), (li ++ lo)[a]? = some x → ∃ q : Nat, x = (q : Nat) ∧ q < m.pm.n ∧ Rch m.pm q := fun a x hx => by
    by_cases ha : a < li.length
    · rw [List.getElem?_append_left ha] at hx
      have := hin a (by omega)
      rw [hx] at this
      have e := this.1
      injection e with e
      exact ⟨_, e, this.2.1, .inn hp (by omega)⟩
    · rw [List.getElem?_append_right (by omega)] at hx
      have hl := (List.getElem?_eq_some_iff.1 hx).1
      have h00 : m.pm.of p = 0 := by
        by_cases h0 : m.pm.of p = 0
        · exact h0
        · rw [lo1 h0] at hl; simp at hl
      have hla := (lo2 h00).1
      have := (lo2 h00).2 (a - li.length) (by omega)
      rw [hx] at this
      have e := this.1
      injection e with e
      exact ⟨_, e, this.2.1, .low hp h00 (by omega)⟩
  have lI3 := x13.lt lI
  refine loopE_intro (fun mm e h' => ∃ (i : Nat) (bl : List Bool), i ≤ (li ++ lo).length ∧ mm = (li ++ lo).length - i ∧ e 1 = .slice (some ⟨I, 0, none⟩) m.pm.n m.pm.n ∧ e 2 = .int .i64 (p : Nat) ∧ e 3 = .pointer (some ⟨h.length, 0, none⟩) ∧ e 23 = v23 ∧ e 24 = .int .i64 ((li ++ lo).length : Nat) ∧ e 25 = .int .i64 (i : Nat) ∧
      Exx I h3 h' ∧ h'[I]? = some (.row (flat eBo bl) true) ∧ RS m.pm bl0 bl ∧ ∀ (a q : Nat), a < i → (li ++ lo)[a]? = some ((q : Nat) : Int) → bl[q]? = some true) (li ++ lo).length
    ⟨0, bl0, Nat.zero_le _, rfl, rfl, rfl, rfl, rfl, rfl, rfl, Exx.refl _ _, hI3, rs0, fun a q ha => by omega⟩ ?_
  rintro J mm e h4 ⟨i, bl, hi, hmm, e1, e2, e3, e23, e24, e25, x4, hI4, rs, hall⟩ ih
  rw [e1, e23, e24, e25, e3, e2]
  have hne : h.length ≠ I := by omega
  have base : Ex h0 h3 := x0.trans x13
  have i23' : Ints h4 v23 (li ++ lo) := by
    refine (o23.mono (F' := fun _ => True) (fun _ _ _ => trivial) fun j hj hf => x4.get j (o23.on hj).2 ?_).sl
    have := x12.lt lI
    omega
  refine w_lss (c_dec (fun q => ?_) (fun q => ?_))
  · obtain ⟨x, hx⟩ := getElem?_of_lt (l := li ++ lo) (i := i) (by omega)
    obtain ⟨y, rfl, hy, ry⟩ := el i x hx
    refine w_idxN eI_len i23' hx fun z hz => w_rd1 hz rfl (w_ix hy (w_stP hI4 (by rw [flat_eBo_len, rs.len]; exact hy) rfl rfl ?_))
    rw [flat_eBo_set]
    refine w_add (by omega) (by omega) ?_
    refine ih ((li ++ lo).length - (i + 1)) _ _ (by omega) ⟨i + 1, bl.set y true, by omega, rfl, e1, e2, e3, e23, e24, rfl, x4.set _, get_set _ (lt_of_get hI4) _, rs.set ry, fun a q' ha hq' => ?_⟩
    by_cases ea : a = i
    · subst ea
      rw [hx] at hq'
      injection hq' with hq'
      have : q' = y := by omega
      subst this
      rw [List.getElem?_set_self (by rw [rs.len]; exact hy)]
    · exact set_up (hall a q' (by omega) hq')
  · have dn : ∀ (a q : Nat), (li ++ lo)[a]? = some ((q : Nat) : Int) → bl[q]? = some true := fun a q' ha => hall a q' (by have := (List.getElem?_eq_some_iff.1 ha).1; omega) ha
    have d1 : ∀ i, i < m.pm.pl → bl[m.pm.inn p i]? = some true := fun i hi => dn i _ (by rw [List.getElem?_append_left (by omega)]; exact (hin i hi).1)
    have d2 : m.pm.of p = 0 → ∀ j, j < m.pm.cl → bl[m.pm.low p j]? = some true := fun h00 j hj => dn (li.length + j) _ (by rw [List.getElem?_append_right (by omega), Nat.add_sub_cancel_left]; exact ((lo2 h00).2 j hj).1)
    have y4 : Ex h0 h4 := Exx.base base x4 hI0
    have g4 : h4[h.length]? = some (.row (moRow u m) true) := x4.some g3 hne
    have m4 := mh.ex y4
    obtain ⟨vr, sr, rr⟩ := mh.ret
    obtain ⟨wr, hwr, vs, svs, rvs⟩ := rr p re hre
    refine w_offP (w_rdP g4 (v := sv u.vr) rfl (idxV (sr.ex y4) hwr fun z hz => w_rd1 hz rfl (w_len svs ?_)))
    clear ih hall dn
    have lre : re.length ≤ 20 := by
      by_cases h0 : m.pm.of p = 0
      · rw [re1 h0]; exact Nat.zero_le _
      · have := (re2 h0).1; omega
    have rj : ∀ (j : Nat) (l : List Int), re[j]? = some l → m.pm.of p ≠ 0 ∧ j < m.pm.cl ∧ l.length = m.pm.n ∧ ∀ q, q < m.pm.n → l[q]? = some ((m.pm.ret p j q : Nat) : Int) ∧ m.pm.ret p j q < m.pm.n := fun j l hl => by
      have hj := (List.getElem?_eq_some_iff.1 hl).1
      have h0 : m.pm.of p ≠ 0 := fun h0 => by rw [re1 h0] at hj; simp at hj
      have hj' : j < m.pm.cl := by have := (re2 h0).1; omega
      obtain ⟨l', hl', ll, hq⟩ := (re2 h0).2 j hj'
      rw [hl] at hl'
      cases hl'
      exact ⟨h0, hj', ll, fun q hq' => ⟨(hq q hq').1, (hq q hq').2.1⟩⟩
    refine loopE_intro (fun mm e h' => ∃ (j : Nat) (b2 : List Bool), j ≤ re.length ∧ mm = re.length - j ∧ e 1 = .slice (some ⟨I, 0, none⟩) m.pm.n m.pm.n ∧ e 37 = wr ∧ e 38 = .int .i64 (re.length : Nat) ∧ e 39 = .int .i64 (j : Nat) ∧
        Exx I h4 h' ∧ h'[I]? = some (.row (flat eBo b2) true) ∧ RS m.pm bl b2 ∧ ∀ a, a < j → ∀ q : Nat, bl0[q]? = some true → b2[m.pm.ret p a q]? = some true) re.length
      ⟨0, bl, Nat.zero_le _, rfl, e1, rfl, rfl, rfl, Exx.refl _ _, hI4, ⟨rs.len, fun _ h => h, rs.so⟩, fun a ha => by omega⟩ ?_
    clear e1 e2 e3 e23 e24 e25 hmm hi q hz z
    clear e J mm i
    rintro J mm e h5 ⟨j, b2, hj, hmm, e1, e37, e38, e39, x5, hI5, rs2, hall⟩ ih
    rw [e37, e38, e39]
    have x05 : Ex h0 h5 := Exx.base base (x4.trans x5) hI0
    refine w_lss (c_dec (fun q => ?_) (fun q => ?_))
    · obtain ⟨l, hl⟩ := getElem?_of_lt (l := re) (i := j) (by omega)
      obtain ⟨hp0, hjc, ll, hlq⟩ := rj j l hl
      obtain ⟨w, hw, iw⟩ := rvs j l hl
      refine idxV (svs.ex x05) hw fun z hz => w_rd1 hz rfl (w_len iw ?_)
      rw [ll]
      refine loopE_intro (fun mm e' h' => ∃ (i : Nat) (b3 : List Bool), i ≤ m.pm.n ∧ mm = m.pm.n - i ∧ e' 1 = .slice (some ⟨I, 0, none⟩) m.pm.n m.pm.n ∧ e' 37 = wr ∧ e' 38 = .int .i64 (re.length : Nat) ∧ e' 39 = .int .i64 (j : Nat) ∧ e' 43 = w ∧ e' 44 = .int .i64 (m.pm.n : Nat) ∧ e' 45 = .int .i64 (i : Nat) ∧
          Exx I h5 h' ∧ h'[I]? = some (.row (flat eBo b3) true) ∧ RS m.pm b2 b3 ∧ ∀ q : Nat, q < i → bl0[q]? = some true → b3[m.pm.ret p j q]? = some true) m.pm.n
        ⟨0, b2, Nat.zero_le _, rfl, e1, e37, e38, e39, rfl, rfl, rfl, Exx.refl _ _, hI5, ⟨rs2.len, fun _ h => h, rs2.so⟩, fun q' hq' => by omega⟩ ?_
      rintro J2 mm2 e' h6 ⟨i, b3, hi, hmm2, f1, f37, f38, f39, f43, f44, f45, x6, hI6, rs3, hq3⟩ ih2
      rw [f43, f44, f45, f1, f39]
      have iw6 : Ints h6 w l := Sl.ex iw (Exx.base base (x4.trans (x5.trans x6)) hI0)
      refine w_lss (c_dec (fun q2 => ?_) (fun q2 => ?_))
      · obtain ⟨hl1, hl2⟩ := hlq i (by omega)
        obtain ⟨b, hb⟩ := getElem?_of_lt (l := b3) (i := i) (by rw [rs3.len]; omega)
        refine w_idxN eI_len iw6 hl1 fun z hz => w_rd1 hz rfl (w_ix (by omega) (w_rdP hI6 (flat_eBo_get hb) ?_))
        have next : ∀ (e2 : Env) (h' : AH) (b4 : List Bool), e2 1 = .slice (some ⟨I, 0, none⟩) m.pm.n m.pm.n → e2 37 = wr → e2 38 = .int .i64 (re.length : Nat) → e2 39 = .int .i64 (j : Nat) → e2 43 = w → e2 44 = .int .i64 (m.pm.n : Nat) → e2 45 = .int .i64 ((i : Int) + 1) →
            Exx I h5 h' → h'[I]? = some (.row (flat eBo b4) true) → RS m.pm b2 b4 → (∀ x : Nat, b3[x]? = some true → b4[x]? = some true) → (bl0[i]? = some true → b4[m.pm.ret p j i]? = some true) → J2 e2 h' :=
          fun e2 h' b4 t1 t2 t3 t4 t5 t6 t7 y hIb rs4 up4 new => ih2 (m.pm.n - (i + 1)) _ _ (by omega) ⟨i + 1, b4, by omega, rfl, t1, t2, t3, t4, t5, t6, t7, y, hIb, rs4, fun q' hq' hb' => by
            by_cases eq : q' = i
            · subst eq; exact new hb'
            · exact up4 _ (hq3 q' (by omega) hb')⟩
        cases b with
        | true =>
          refine c_t (w_ix hl2 (w_stP hI6 (by rw [flat_eBo_len, rs3.len]; exact hl2) rfl rfl ?_))
          rw [flat_eBo_set]
          refine w_add (by omega) (by omega) ?_
          exact next _ _ _ f1 f37 f38 f39 f43 f44 rfl (x6.set _) (get_set _ (lt_of_get hI6) _) (rs3.set (.ret hp (rs3.so i hb) hp0 hjc)) (fun x hx => set_up hx) fun _ => by rw [List.getElem?_set_self (by rw [rs3.len]; exact hl2)]
        | false =>
          refine c_f (w_add (by omega) (by omega) ?_)
          refine next _ _ b3 f1 f37 f38 f39 f43 f44 rfl x6 hI6 rs3 (fun _ h => h) fun hb' => ?_
          have := rs3.up i (rs2.up i (rs.up i hb'))
          rw [hb] at this
          cases this
      · refine w_add (by omega) (by omega) ?_
        refine ih (re.length - (j + 1)) _ _ (by omega) ⟨j + 1, b3, by omega, rfl, f1, f37, f38, rfl, x5.trans x6, hI6, ⟨rs3.len, fun x hx => rs3.up x (rs2.up x hx), rs3.so⟩, fun a ha q' hq' => ?_⟩
        by_cases ea : a = j
        · subst ea
          exact hq3 q' (by have := (List.getElem?_eq_some_iff.1 (rs3.up _ (rs2.up _ (rs.up _ hq')))).1; have := rs3.len; omega) hq'
        · exact rs3.up _ (hall a (by omega) q' hq')
    · exact k h5 b2 ((Exx.ofEx x13 I).trans (x4.trans x5)) hI5 ⟨rs2.len, fun x hx => rs2.up x (rs.up x hx), rs2.so⟩ (fun i hi => rs2.up _ (d1 i hi)) (fun h00 j hj => rs2.up _ (d2 h00 j hj)) fun h00 a ha q' hq' => hall a (by have := (re2 h00).1; omega) q' hq'
end Go.Proofs.Ytnpbehfhncbjfaa.W
end
