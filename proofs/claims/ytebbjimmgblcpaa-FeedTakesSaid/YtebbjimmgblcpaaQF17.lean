/- The laws' text of a word: the walk. Conditions: none. -/
import Derived.Test.YtebbjimmgblcpaaQF16
namespace Go.Proofs.Ytebbjimmgblcpaa.W
open Go Go.AM FeedM
set_option linter.unusedVariables false
set_option maxRecDepth 100000

def blanks (s : List UInt8) : Prop := ∀ c ∈ s, c = 32 ∨ c = 9 ∨ c = 10
/-- a word's text: blanks between, some between two plain ones. -/
inductive TextOf (l : List Sy) : List Int → List UInt8 → Prop
  | nil : TextOf l [] []
  | snoc {w : List Int} {s sep : List UInt8} {k : Int} {x : Sy} : TextOf l w s → l[k.toNat]? = some x → 0 ≤ k → blanks sep → (∀ j y, w.getLast? = some j → l[j.toNat]? = some y → x.2 = 3 → y.2 = 3 → sep ≠ []) → TextOf l (w ++ [k]) (s ++ (sep ++ signOf x))

theorem g_un {b : Bool} {f : (Value → AH → Prop) → Prop} {h : AH} {K : Value → AH → Prop} (k : K undef h) : gopW (gB undef b) f h K := k

theorem w_addw {P : Program} {t : TypeId} {a b : Int} {K : Value → Prop} (k : K (.int .i64 (IntKind.i64.wrap (a + b)))) : optW (pBin P .add t (.int .i64 a) (.int .i64 b)) K := k

def seps5 : List (List UInt8) := [[32], [10], [9], [32, 32], [32, 10, 32]]

theorem text16 {h : AH} {v0 v1 : Value} {l : List Sy} {w : List Int} {gap : Int} {K : Value → AH → Prop} (hl : Syms h v0 l) (hnm : ∀ x ∈ l, x.1.length = 1) (hw : Ints h v1 w) (hin : ∀ k ∈ w, 0 ≤ k ∧ k < (l.length : Nat)) (hn : w.length ≤ 1000)
    (k : ∀ h' s, Ex h h' → TextOf l w s → s.length ≤ 7 * w.length → K (.string (bs s)) h') : callW Try.prog 16 [v0, v1, .int .i64 gap] h K := by
  refine c16 ?_
  unfold s16
  refine loopE_intro (fun m e h' => ∃ (i : Nat) (s : List UInt8), i ≤ w.length ∧ m = w.length - i ∧ e 0 = v0 ∧ e 1 = v1 ∧ e 2 = .int .i64 gap ∧ e 7 = .string (bs s) ∧ e 8 = .int .i64 i ∧ Ex h h' ∧ TextOf l (w.take i) s ∧ s.length ≤ 7 * i) w.length
    ⟨0, [], Nat.zero_le _, rfl, rfl, rfl, rfl, rfl, rfl, Ex.refl h, TextOf.nil, Nat.le_refl _⟩ ?_
  rintro I m e h' ⟨i, s, hi, hm, e0, e1, e2, e7, e8, hx, ht, hs⟩ hI
  rw [e0, e1, e2, e7, e8]
  refine w_len hw (w_lss ?_)
  refine c_dec (fun q => ?_) (fun q => ?_)
  · obtain ⟨z, hz⟩ := getElem?_of_lt (l := w) (i := i) (by omega)
    obtain ⟨z0, z1⟩ := hin z (List.mem_of_getElem? hz)
    obtain ⟨x, hxx⟩ := getElem?_of_lt (l := l) (i := z.toNat) (by omega)
    have hx1 := hnm x (List.mem_of_getElem? hxx)
    have hsg : (signOf x).length ≤ 4 := by
      unfold signOf
      split
      · simp [hx1]
      · split <;> simp [hx1]
    refine w_idxN eI_len (hw.ex hx) hz fun p hp => w_rd1 hp rfl ?_
    refine w_idxT (enc := eSy) eSy_len (hl.ex hx) z0 hxx fun p hp => w_rdA hp rfl ?_
    refine sign33 (by omega) fun h1 x1 => ?_
    have hx1' := hx.trans x1
    refine w_mul (by omega) (by omega) (w_addw ?_)
    refine within18 _ _ _ _ (by decide) (by decide) ?_
    generalize hg : IntKind.i64.wrap (gap + (i : Int) * 7) % 5 = g
    have g5 : 0 ≤ g ∧ g < 5 := by rw [← hg]; exact ⟨Int.emod_nonneg _ (by decide), Int.emod_lt_of_pos _ (by decide)⟩
    have next : ∀ (sep : List UInt8) (e' : Env) (h2 : AH), Ex h1 h2 → blanks sep → sep.length ≤ 3 → (∀ j y, (w.take i).getLast? = some j → l[j.toNat]? = some y → x.2 = 3 → y.2 = 3 → sep ≠ []) → e' 0 = v0 → e' 1 = v1 → e' 2 = .int .i64 gap → e' 7 = .string (bs (s ++ (sep ++ signOf x))) → e' 8 = .int .i64 ((i : Int) + 1) → I e' h2 := by
      intro sep e' h2 x2 hb hl3 hc f0 f1 f2 f7 f8
      refine hI (m - 1) _ _ (by omega) ⟨i + 1, s ++ (sep ++ signOf x), by omega, by omega, f0, f1, f2, f7, f8, hx1'.trans x2, ?_, ?_⟩
      · rw [take_succ_get hz]
        exact .snoc ht hxx z0 hb hc
      · simp only [List.length_append]; omega
    have nosep : (∀ j y, (w.take i).getLast? = some j → l[j.toNat]? = some y → x.2 = 3 → y.2 = 3 → ([] : List UInt8) ≠ []) → ∀ e' : Env, e' 0 = v0 → e' 1 = v1 → e' 2 = .int .i64 gap → e' 7 = .string (bs (s ++ signOf x)) → e' 8 = .int .i64 ((i : Int) + 1) → I e' h1 := by
      intro hc e' f0 f1 f2 f7 f8
      exact next [] e' h1 (Ex.refl _) (fun c hc => by cases hc) (by simp) hc f0 f1 f2 f7 f8
    have withsep : ∀ (Q : List Value → Nat → Value → Value → AH → Prop), (∀ c i v62 sep h2, Ex h1 h2 → blanks sep → sep ≠ [] → sep.length ≤ 3 → Q c i v62 (.string (bs sep)) h2) →
        optW (bldSl 1 [(.string (bs []))] 5 [(0, (.string (bs [32]))), (1, (.string (bs [10]))), (2, (.string (bs [9]))), (3, (.string (bs [32, 32]))), (4, (.string (bs [32, 10, 32])))]) fun c =>
        newW none (.row c true) h1 fun i h_29 => optW (pIdxS 1 (.slice (some ⟨i, 0, none⟩) 5 5) (.int .i64 g)) fun v62 => optW (rdRow false 1 v62 h_29) fun v63 => Q c i v62 v63 h_29 := by
      intro Q hQ
      refine w_some rfl ?_
      refine n_new ?_
      have hS : SlT 1 eS (h1 ++ [AObj.row (flat eS seps5) true]) (.slice (some ⟨h1.length, 0, none⟩) 5 5) seps5 :=
        ⟨rfl, .inr ⟨h1.length, 0, _, rfl, .inl ⟨by decide, by decide⟩, .inr ⟨_, true, get_new _ _, by decide, rfl⟩⟩⟩
      obtain ⟨y, hy⟩ := getElem?_of_lt (l := seps5) (i := g.toNat) (by show _ < 5; omega)
      have hm := List.mem_of_getElem? hy
      refine w_idxT (enc := eS) eS_len hS g5.1 hy fun p hp => w_rd1 hp rfl ?_
      refine hQ _ _ _ y _ (.app _ _) ?_ ?_ ?_
      · have : ∀ y ∈ seps5, ∀ c ∈ y, c = 32 ∨ c = 9 ∨ c = 10 := by decide
        exact this y hm
      · have : ∀ y ∈ seps5, y ≠ [] := by decide
        exact this y hm
      · have : ∀ y ∈ seps5, y.length ≤ 3 := by decide
        exact this y hm
    refine w_gtr ?_
    by_cases q1 : (0 : Int) < (i : Nat)
    · refine g_tt q1 (g_tt q1 (w_gtr (g_tt q1 ?_)))
      by_cases q2 : (1 : Int) < g
      · iterate 10 refine g_ft q2 ?_
        iterate 10 refine g_un ?_
        refine g_ft q2 (g_tt q1 (pk_tt q2 (pk_tt q1 (c_t ?_))))
        refine withsep _ fun c i' v62 sep h2 x2 hb hne hl3 => ?_
        refine w_cat (by omega) (w_cat (by simp only [List.length_append]; omega) ?_)
        rw [List.append_assoc]
        refine w_add (by omega) (by omega) ?_
        exact next sep _ _ x2 hb hl3 (fun _ _ _ _ _ _ => hne) e0 e1 e2 rfl rfl
      · refine g_ff q2 (g_ff q2 (g_ff q2 (g_ff q2 ?_)))
        refine w_idxN eI_len (hw.ex hx1') hz fun p hp => ?_
        refine g_ff q2 (w_rd1 hp rfl (g_ff q2 ?_))
        refine w_idxT (enc := eSy) eSy_len (hl.ex hx1') z0 hxx fun p hp => ?_
        refine g_ff q2 (w_off hp (by simp [eSy_len]) fun p hp => ?_)
        refine g_ff q2 (w_rd1 hp rfl (g_ff q2 (w_eql (g_ff q2 ?_))))
        by_cases q3 : x.2 = 3
        · obtain ⟨z', hz'⟩ := getElem?_of_lt (l := w) (i := i - 1) (by omega)
          obtain ⟨z0', z1'⟩ := hin z' (List.mem_of_getElem? hz')
          obtain ⟨y, hyy⟩ := getElem?_of_lt (l := l) (i := z'.toNat) (by omega)
          have hlast : (w.take i).getLast? = some z' := by
            rw [List.getLast?_eq_getElem?, List.length_take, Nat.min_eq_left hi, List.getElem?_take_of_lt (by omega)]
            exact hz'
          refine g_tt q3 (g_tt q3 (g_tt q3 (g_tt q3 (w_sub (by omega) (by omega) (g_tt q3 ?_)))))
          have ei : ((i : Nat) : Int) - 1 = ((i - 1 : Nat) : Int) := by omega
          rw [ei]
          refine w_idxN eI_len (hw.ex hx1') hz' fun p hp => ?_
          refine g_tt q3 (w_rd1 hp rfl (g_tt q3 ?_))
          refine w_idxT (enc := eSy) eSy_len (hl.ex hx1') z0' hyy fun p hp => ?_
          refine g_tt q3 (w_off hp (by simp [eSy_len]) fun p hp => ?_)
          refine g_tt q3 (w_rd1 hp rfl (g_tt q3 (w_eql ?_)))
          refine g_ff q2 (pk_tt q3 (g_tt q1 (pk_ff q2 (pk_tt q1 ?_))))
          refine c_dec (fun q4 => ?_) (fun q4 => ?_)
          · refine withsep _ fun c i' v62 sep h2 x2 hb hne hl3 => ?_
            refine w_cat (by omega) (w_cat (by simp only [List.length_append]; omega) ?_)
            rw [List.append_assoc]
            refine w_add (by omega) (by omega) ?_
            exact next sep _ _ x2 hb hl3 (fun _ _ _ _ _ _ => hne) e0 e1 e2 rfl rfl
          · refine w_cat (by omega) (w_add (by omega) (by omega) ?_)
            refine nosep (fun j y' hj hy' h3 h4 => ?_) _ e0 e1 e2 rfl rfl
            rw [hlast] at hj
            obtain rfl := Option.some.inj hj
            rw [hyy] at hy'
            obtain rfl := Option.some.inj hy'
            exact (q4 h4).elim
        · iterate 10 refine g_tf q3 ?_
          refine g_ff q2 (pk_ff q3 (g_tt q1 (pk_ff q2 (pk_tt q1 (c_f ?_)))))
          refine w_cat (by omega) (w_add (by omega) (by omega) ?_)
          exact nosep (fun j y' hj hy' h3 h4 => (q3 h3).elim) _ e0 e1 e2 rfl rfl
    · iterate 3 refine g_tf q1 ?_
      iterate 10 refine g_un ?_
      iterate 10 refine g_un ?_
      refine g_un (g_tf q1 (pk_ff q1 (c_f ?_)))
      refine w_cat (by omega) (w_add (by omega) (by omega) ?_)
      have hi0 : i = 0 := by omega
      exact nosep (fun j y' hj hy' h3 h4 => by rw [hi0] at hj; simp at hj) _ e0 e1 e2 rfl rfl
  · have : i = w.length := by omega
    subst this
    rw [List.take_length] at ht
    exact k h' s hx ht hs
end Go.Proofs.Ytebbjimmgblcpaa.W
