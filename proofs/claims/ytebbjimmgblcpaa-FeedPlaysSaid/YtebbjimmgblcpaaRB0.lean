/- Parts of a proof, joined by a program. Conditions: none. -/
import Derived.Test.YtebbjimmgblcpaaRS0
import Derived.Test.YtebbjimmgblcpaaRA2

section
/- Contracts of the feed laws' own small functions: within, Word, Sign. Conditions: none. -/
namespace Go.Proofs.Ytebbjimmgblcpaa.W
open Go Go.AM FeedM
set_option linter.unusedVariables false
set_option maxRecDepth 100000

theorem within18 (a n : Int) (h : AH) (K : Value → AH → Prop) (h1 : 0 < n) (h2 : n ≤ 1152921504606846976)
   (k : K (.int .i64 (a % n)) h) : callW Try.prog 18 [.int .i64 a, .int .i64 n] h K := by
  obtain ⟨_, q1, q2, q3, q4⟩ := tmod_emod a n h1
  refine c18 ?_
  unfold s18
  refine w_tmod (by omega) ?_
  generalize hm : a.tmod n = m at *
  (repeat' (first | (with_reducible refine w_lss ?_) | (with_reducible refine w_leq ?_) | (with_reducible refine w_gtr ?_) | (with_reducible refine w_geq ?_) | (with_reducible refine w_eql ?_) | (with_reducible refine w_neq ?_) | (with_reducible refine w_lenSl ?_) | (with_reducible refine w_lenStr ?_) | (with_reducible refine w_not ?_) | (with_reducible refine w_add (by omega) (by omega) ?_) | (with_reducible refine w_sub (by omega) (by omega) ?_) | (with_reducible refine w_rem (by omega) (by omega) ?_) | (with_reducible refine w_quo (by omega) (by omega) (by omega) ?_) | (with_reducible refine w_seql ?_) | (with_reducible refine w_sneq ?_) | (with_reducible refine c_t ?_) | (with_reducible refine c_f ?_) | (with_reducible refine c_tt (by first | assumption | omega) ?_) | (with_reducible refine c_ff (by first | assumption | omega) ?_) | (with_reducible refine c_dec (fun hc => ?_) (fun hc => ?_)) | (with_reducible refine c_b (fun hc => ?_) (fun hc => ?_)) | (with_reducible refine gc_tt ?_) | (with_reducible refine gc_ft ?_) | (with_reducible refine gc_tf ?_) | (with_reducible refine gc_ff ?_) | (with_reducible refine g_tt (by first | assumption | omega) ?_) | (with_reducible refine g_tf (by first | assumption | omega) ?_) | (with_reducible refine g_ft (by first | assumption | omega) ?_) | (with_reducible refine g_ff (by first | assumption | omega) ?_) | (with_reducible refine g_dec (fun hc => ?_) (fun hc => ?_)) | (with_reducible refine g_decf (fun hc => ?_) (fun hc => ?_)) | (with_reducible refine pk_t ?_) | (with_reducible refine pk_f ?_) | (with_reducible refine pk_tt (by first | assumption | omega) ?_) | (with_reducible refine pk_ff (by first | assumption | omega) ?_)))
  · rw [q1 (by assumption)]; exact k
  · rw [q2 (by assumption)]; exact k

theorem within34 (a n : Int) (h : AH) (K : Value → AH → Prop) (h1 : 0 < n) (h2 : n ≤ 1152921504606846976)
   (k : K (.int .i64 (a % n)) h) : callW Try.prog 34 [.int .i64 a, .int .i64 n] h K := by
  obtain ⟨_, q1, q2, q3, q4⟩ := tmod_emod a n h1
  refine c34 ?_
  unfold s34
  refine w_tmod (by omega) ?_
  generalize hm : a.tmod n = m at *
  (repeat' (first | (with_reducible refine w_lss ?_) | (with_reducible refine w_leq ?_) | (with_reducible refine w_gtr ?_) | (with_reducible refine w_geq ?_) | (with_reducible refine w_eql ?_) | (with_reducible refine w_neq ?_) | (with_reducible refine w_lenSl ?_) | (with_reducible refine w_lenStr ?_) | (with_reducible refine w_not ?_) | (with_reducible refine w_add (by omega) (by omega) ?_) | (with_reducible refine w_sub (by omega) (by omega) ?_) | (with_reducible refine w_rem (by omega) (by omega) ?_) | (with_reducible refine w_quo (by omega) (by omega) (by omega) ?_) | (with_reducible refine w_seql ?_) | (with_reducible refine w_sneq ?_) | (with_reducible refine c_t ?_) | (with_reducible refine c_f ?_) | (with_reducible refine c_tt (by first | assumption | omega) ?_) | (with_reducible refine c_ff (by first | assumption | omega) ?_) | (with_reducible refine c_dec (fun hc => ?_) (fun hc => ?_)) | (with_reducible refine c_b (fun hc => ?_) (fun hc => ?_)) | (with_reducible refine gc_tt ?_) | (with_reducible refine gc_ft ?_) | (with_reducible refine gc_tf ?_) | (with_reducible refine gc_ff ?_) | (with_reducible refine g_tt (by first | assumption | omega) ?_) | (with_reducible refine g_tf (by first | assumption | omega) ?_) | (with_reducible refine g_ft (by first | assumption | omega) ?_) | (with_reducible refine g_ff (by first | assumption | omega) ?_) | (with_reducible refine g_dec (fun hc => ?_) (fun hc => ?_)) | (with_reducible refine g_decf (fun hc => ?_) (fun hc => ?_)) | (with_reducible refine pk_t ?_) | (with_reducible refine pk_f ?_) | (with_reducible refine pk_tt (by first | assumption | omega) ?_) | (with_reducible refine pk_ff (by first | assumption | omega) ?_)))
  · rw [q1 (by assumption)]; exact k
  · rw [q2 (by assumption)]; exact k

theorem within54 (a n : Int) (h : AH) (K : Value → AH → Prop) (h1 : 0 < n) (h2 : n ≤ 1152921504606846976)
   (k : K (.int .i64 (a % n)) h) : callW Try.prog 54 [.int .i64 a, .int .i64 n] h K := by
  obtain ⟨_, q1, q2, q3, q4⟩ := tmod_emod a n h1
  refine c54 ?_
  unfold s54
  refine w_tmod (by omega) ?_
  generalize hm : a.tmod n = m at *
  (repeat' (first | (with_reducible refine w_lss ?_) | (with_reducible refine w_leq ?_) | (with_reducible refine w_gtr ?_) | (with_reducible refine w_geq ?_) | (with_reducible refine w_eql ?_) | (with_reducible refine w_neq ?_) | (with_reducible refine w_lenSl ?_) | (with_reducible refine w_lenStr ?_) | (with_reducible refine w_not ?_) | (with_reducible refine w_add (by omega) (by omega) ?_) | (with_reducible refine w_sub (by omega) (by omega) ?_) | (with_reducible refine w_rem (by omega) (by omega) ?_) | (with_reducible refine w_quo (by omega) (by omega) (by omega) ?_) | (with_reducible refine w_seql ?_) | (with_reducible refine w_sneq ?_) | (with_reducible refine c_t ?_) | (with_reducible refine c_f ?_) | (with_reducible refine c_tt (by first | assumption | omega) ?_) | (with_reducible refine c_ff (by first | assumption | omega) ?_) | (with_reducible refine c_dec (fun hc => ?_) (fun hc => ?_)) | (with_reducible refine c_b (fun hc => ?_) (fun hc => ?_)) | (with_reducible refine gc_tt ?_) | (with_reducible refine gc_ft ?_) | (with_reducible refine gc_tf ?_) | (with_reducible refine gc_ff ?_) | (with_reducible refine g_tt (by first | assumption | omega) ?_) | (with_reducible refine g_tf (by first | assumption | omega) ?_) | (with_reducible refine g_ft (by first | assumption | omega) ?_) | (with_reducible refine g_ff (by first | assumption | omega) ?_) | (with_reducible refine g_dec (fun hc => ?_) (fun hc => ?_)) | (with_reducible refine g_decf (fun hc => ?_) (fun hc => ?_)) | (with_reducible refine pk_t ?_) | (with_reducible refine pk_f ?_) | (with_reducible refine pk_tt (by first | assumption | omega) ?_) | (with_reducible refine pk_ff (by first | assumption | omega) ?_)))
  · rw [q1 (by assumption)]; exact k
  · rw [q2 (by assumption)]; exact k

def eSy (s : Sy) : List Value := [.string (bs s.1), .int .i64 s.2]
theorem eSy_len (s : Sy) : (eSy s).length = 2 := rfl
abbrev Syms := SlT 2 eSy

/-- the word of numbers -/
def wordOf (n : Nat) (ns : List Int) (most : Nat) : List Int := (ns.take most).map fun x => x % (n : Int)

theorem word17 {h : AH} {v0 v1 : Value} {l : List Sy} {ns : List Int} {most : Nat} {K : Value → AH → Prop} (hl : Syms h v0 l) (hns : Ints h v1 ns) (h0 : 0 < l.length) (h1 : l.length ≤ 1000000) (h2 : most ≤ 1000000)
    (k : ∀ v h', Ex h h' → OwnSl 1 h.length h' v (wordOf l.length ns most).length (flat eI (wordOf l.length ns most)) → K v h') : callW Try.prog 17 [v0, v1, .int .i64 most] h K := by
  refine c17 ?_
  unfold s17
  refine loopE_intro (fun m e h' => ∃ i : Nat, i ≤ ns.length ∧ i ≤ most ∧ m = ns.length - i ∧ e 0 = v0 ∧ e 1 = v1 ∧ e 2 = .int .i64 most ∧ e 8 = .int .i64 i ∧ Ex h h' ∧
    OwnSl 1 h.length h' (e 7) (wordOf l.length ns i).length (flat eI (wordOf l.length ns i))) ns.length ⟨0, Nat.zero_le _, Nat.zero_le _, rfl, rfl, rfl, rfl, rfl, Ex.refl h, OwnSl.nil _ _ _⟩ ?_
  rintro I m e h' ⟨i, hi, him, hm, e0, e1, e2, e8, hx, ho⟩ hI
  rw [e0, e1, e2, e8]
  refine w_len hns ?_
  (repeat' (first | (with_reducible refine w_lss ?_) | (with_reducible refine w_leq ?_) | (with_reducible refine w_gtr ?_) | (with_reducible refine w_geq ?_) | (with_reducible refine w_eql ?_) | (with_reducible refine w_neq ?_) | (with_reducible refine w_lenSl ?_) | (with_reducible refine w_lenStr ?_) | (with_reducible refine w_not ?_) | (with_reducible refine w_add (by omega) (by omega) ?_) | (with_reducible refine w_sub (by omega) (by omega) ?_) | (with_reducible refine w_rem (by omega) (by omega) ?_) | (with_reducible refine w_quo (by omega) (by omega) (by omega) ?_) | (with_reducible refine w_seql ?_) | (with_reducible refine w_sneq ?_) | (with_reducible refine c_t ?_) | (with_reducible refine c_f ?_) | (with_reducible refine c_tt (by first | assumption | omega) ?_) | (with_reducible refine c_ff (by first | assumption | omega) ?_) | (with_reducible refine c_dec (fun hc => ?_) (fun hc => ?_)) | (with_reducible refine c_b (fun hc => ?_) (fun hc => ?_)) | (with_reducible refine gc_tt ?_) | (with_reducible refine gc_ft ?_) | (with_reducible refine gc_tf ?_) | (with_reducible refine gc_ff ?_) | (with_reducible refine g_tt (by first | assumption | omega) ?_) | (with_reducible refine g_tf (by first | assumption | omega) ?_) | (with_reducible refine g_ft (by first | assumption | omega) ?_) | (with_reducible refine g_ff (by first | assumption | omega) ?_) | (with_reducible refine g_dec (fun hc => ?_) (fun hc => ?_)) | (with_reducible refine g_decf (fun hc => ?_) (fun hc => ?_)) | (with_reducible refine pk_t ?_) | (with_reducible refine pk_f ?_) | (with_reducible refine pk_tt (by first | assumption | omega) ?_) | (with_reducible refine pk_ff (by first | assumption | omega) ?_)))
  · have hlt : i < ns.length := by omega
    have hg : ns[i]? = some ns[i] := List.getElem?_eq_getElem hlt
    refine w_idxN eI_len (hns.ex hx) hg fun p hp => ?_
    refine w_rd1 hp rfl ?_
    refine w_len hl ?_
    refine within34 _ _ _ _ (by omega) (by omega) ?_
    refine w_some (bldSl_one rfl (by decide) rfl rfl) ?_
    refine n_new ?_
    have hw : wordOf l.length ns (i + 1) = wordOf l.length ns i ++ [ns[i] % (l.length : Int)] := by
      unfold wordOf
      rw [take_succ_get hg, List.map_append]
      rfl
    refine app_one (enc := eI) (x := ns[i] % (l.length : Int)) (by decide) eI_len ho ?_ hx.len fun v' h'' o1 o2 o3 o4 => ?_
    · unfold wordOf; simp only [List.length_map, List.length_take, room40]; omega
    (repeat' (first | (with_reducible refine w_lss ?_) | (with_reducible refine w_leq ?_) | (with_reducible refine w_gtr ?_) | (with_reducible refine w_geq ?_) | (with_reducible refine w_eql ?_) | (with_reducible refine w_neq ?_) | (with_reducible refine w_lenSl ?_) | (with_reducible refine w_lenStr ?_) | (with_reducible refine w_not ?_) | (with_reducible refine w_add (by omega) (by omega) ?_) | (with_reducible refine w_sub (by omega) (by omega) ?_) | (with_reducible refine w_rem (by omega) (by omega) ?_) | (with_reducible refine w_quo (by omega) (by omega) (by omega) ?_) | (with_reducible refine w_seql ?_) | (with_reducible refine w_sneq ?_) | (with_reducible refine c_t ?_) | (with_reducible refine c_f ?_) | (with_reducible refine c_tt (by first | assumption | omega) ?_) | (with_reducible refine c_ff (by first | assumption | omega) ?_) | (with_reducible refine c_dec (fun hc => ?_) (fun hc => ?_)) | (with_reducible refine c_b (fun hc => ?_) (fun hc => ?_)) | (with_reducible refine gc_tt ?_) | (with_reducible refine gc_ft ?_) | (with_reducible refine gc_tf ?_) | (with_reducible refine gc_ff ?_) | (with_reducible refine g_tt (by first | assumption | omega) ?_) | (with_reducible refine g_tf (by first | assumption | omega) ?_) | (with_reducible refine g_ft (by first | assumption | omega) ?_) | (with_reducible refine g_ff (by first | assumption | omega) ?_) | (with_reducible refine g_dec (fun hc => ?_) (fun hc => ?_)) | (with_reducible refine g_decf (fun hc => ?_) (fun hc => ?_)) | (with_reducible refine pk_t ?_) | (with_reducible refine pk_f ?_) | (with_reducible refine pk_tt (by first | assumption | omega) ?_) | (with_reducible refine pk_ff (by first | assumption | omega) ?_)))
    refine hI (m - 1) _ _ (by omega) ⟨i + 1, by omega, by omega, by omega, e0, e1, e2, rfl, ⟨Nat.le_trans hx.len (by omega), fun j hj => ?_⟩, ?_⟩
    · rw [o3 j (by have := hx.len; omega) (ho.not_old hj), List.getElem?_append_left (Nat.lt_of_lt_of_le hj hx.len)]
      exact hx.get j hj
    · rw [hw]; exact o1
  · have : i = most := by omega
    subst this
    exact k _ _ hx ho
  · have : wordOf l.length ns most = wordOf l.length ns i := by
      unfold wordOf
      rw [List.take_of_length_le (by omega), List.take_of_length_le (by omega)]
    exact k _ _ hx (by rw [this]; exact ho)
end Go.Proofs.Ytebbjimmgblcpaa.W
end

section
/- Contracts of the library's small functions that the feed uses: Clone, Index, Contains. Conditions: none. -/
namespace Go.Proofs.Ytebbjimmgblcpaa.W
open Go Go.AM FeedM
set_option linter.unusedVariables false
set_option maxRecDepth 100000

/-- A CLONE: as it was, in memory of its own. -/
def CloneOK (f s : Nat) : Prop := ∀ (h : AH) (v : Value) (n : Nat) (cs : List Value) (K : Value → AH → Prop), Sl s h v n cs → n < room40 →
  (∀ v' h', Ex h h' → Sl s h' v' n cs → (∀ j, onId v' j → h.length ≤ j ∧ j < h'.length) → K v' h') → callW Try.prog f [v] h K

theorem clone40 : CloneOK 40 1 := by
  intro h v n cs K hv hn k
  refine c40 ?_
  unfold s40
  obtain ⟨a, cap, rfl⟩ := hv.shape
  refine w_slnil Try.underlying22 ?_
  cases a with
  | none => refine c_t (k _ _ (Ex.refl h) ?_ fun j hj => hj.elim)
            rcases hv.2 with ⟨_, h0⟩ | ⟨_, _, _, h1, _⟩
            · exact ⟨hv.1, .inl ⟨rfl, h0⟩⟩
            · cases h1
  | some x => exact c_f (clone_tail rfl (by decide) hv hn k)
theorem clone41 : CloneOK 41 4 := by
  intro h v n cs K hv hn k
  refine c41 ?_
  unfold s41
  obtain ⟨a, cap, rfl⟩ := hv.shape
  refine w_slnil Try.underlying26 ?_
  cases a with
  | none => refine c_t (k _ _ (Ex.refl h) ?_ fun j hj => hj.elim)
            rcases hv.2 with ⟨_, h0⟩ | ⟨_, _, _, h1, _⟩
            · exact ⟨hv.1, .inl ⟨rfl, h0⟩⟩
            · cases h1
  | some x => exact c_f (clone_tail rfl (by decide) hv hn k)
theorem clone42 : CloneOK 42 4 := by
  intro h v n cs K hv hn k
  refine c42 ?_
  unfold s42
  obtain ⟨a, cap, rfl⟩ := hv.shape
  refine w_slnil Try.underlying27 ?_
  cases a with
  | none => refine c_t (k _ _ (Ex.refl h) ?_ fun j hj => hj.elim)
            rcases hv.2 with ⟨_, h0⟩ | ⟨_, _, _, h1, _⟩
            · exact ⟨hv.1, .inl ⟨rfl, h0⟩⟩
            · cases h1
  | some x => exact c_f (clone_tail rfl (by decide) hv hn k)
theorem clone43 : CloneOK 43 3 := by
  intro h v n cs K hv hn k
  refine c43 ?_
  unfold s43
  obtain ⟨a, cap, rfl⟩ := hv.shape
  refine w_slnil Try.underlying28 ?_
  cases a with
  | none => refine c_t (k _ _ (Ex.refl h) ?_ fun j hj => hj.elim)
            rcases hv.2 with ⟨_, h0⟩ | ⟨_, _, _, h1, _⟩
            · exact ⟨hv.1, .inl ⟨rfl, h0⟩⟩
            · cases h1
  | some x => exact c_f (clone_tail rfl (by decide) hv hn k)
theorem clone45 : CloneOK 45 2 := by
  intro h v n cs K hv hn k
  refine c45 ?_
  unfold s45
  obtain ⟨a, cap, rfl⟩ := hv.shape
  refine w_slnil Try.underlying24 ?_
  cases a with
  | none => refine c_t (k _ _ (Ex.refl h) ?_ fun j hj => hj.elim)
            rcases hv.2 with ⟨_, h0⟩ | ⟨_, _, _, h1, _⟩
            · exact ⟨hv.1, .inl ⟨rfl, h0⟩⟩
            · cases h1
  | some x => exact c_f (clone_tail rfl (by decide) hv hn k)

theorem findIdx_at {α : Type} [DecidableEq α] {x : α} {l : List α} {i : Nat} (hn : x ∉ l.take i) (hx : l[i]? = some x) : idxOf x l = i := by
  have hi := (List.getElem?_eq_some_iff.1 hx)
  have : l.findIdx? (fun y => decide (x = y)) = some i := by
    rw [List.findIdx?_eq_some_iff_getElem]
    refine ⟨hi.1, by rw [hi.2]; simp, fun j hj => ?_⟩
    have hjl : j < l.length := Nat.lt_trans hj hi.1
    simp only [decide_eq_true_eq]
    intro e
    refine hn ?_
    rw [List.mem_take_iff_getElem]
    exact ⟨j, by omega, e.symm⟩
  unfold idxOf
  rw [this]
theorem findIdx_none {α : Type} [DecidableEq α] {x : α} {l : List α} (hn : x ∉ l) : idxOf x l = -1 := by
  have : l.findIdx? (fun y => decide (x = y)) = none := by
    rw [List.findIdx?_eq_none_iff]
    intro y hy
    simp only [decide_eq_false_iff_not]
    rintro rfl
    exact hn hy
  unfold idxOf
  rw [this]
theorem idxOf_neg {α : Type} [DecidableEq α] {x : α} {l : List α} : idxOf x l < 0 ↔ x ∉ l := by
  constructor
  · intro h hx
    obtain ⟨i, hi, e⟩ := List.getElem_of_mem hx
    unfold idxOf at h
    split at h
    · omega
    · rename_i hn
      rw [List.findIdx?_eq_none_iff] at hn
      have := hn _ hx
      simp at this
  · intro h
    rw [findIdx_none h]
    decide

theorem index73 {h : AH} {v : Value} {l : List Int} {x : Int} {K : Value → AH → Prop} (hl : Ints h v l) (hn : l.length < room40) (k : K (.int .i64 (idxOf x l)) h) : callW Try.prog 73 [v, .int .i64 x] h K := by
  refine c73 ?_
  unfold s73
  refine w_len hl ?_
  refine loopE_intro (fun m e h' => ∃ i : Nat, i ≤ l.length ∧ m = l.length - i ∧ e 0 = v ∧ e 1 = .int .i64 x ∧ e 7 = .int .i64 l.length ∧ e 8 = .int .i64 i ∧ h' = h ∧ x ∉ l.take i) l.length ⟨0, Nat.zero_le _, rfl, rfl, rfl, rfl, rfl, rfl, by simp⟩ ?_
  rintro I m e h' ⟨i, hi, hm, e0, e1, e7, e8, rfl, hni⟩ hI
  rw [e0, e1, e7, e8]
  unfold room40 at hn
  refine w_lss ?_
  refine c_dec (fun hc => ?_) (fun hc => ?_)
  · obtain ⟨y, hy⟩ := getElem?_of_lt (l := l) (i := i) (by omega)
    refine w_idxN eI_len hl hy fun p hp => ?_
    refine w_rd1 hp rfl ?_
    (repeat' (first | (with_reducible refine w_lss ?_) | (with_reducible refine w_leq ?_) | (with_reducible refine w_gtr ?_) | (with_reducible refine w_geq ?_) | (with_reducible refine w_eql ?_) | (with_reducible refine w_neq ?_) | (with_reducible refine w_lenSl ?_) | (with_reducible refine w_lenStr ?_) | (with_reducible refine w_not ?_) | (with_reducible refine w_add (by omega) (by omega) ?_) | (with_reducible refine w_sub (by omega) (by omega) ?_) | (with_reducible refine w_rem (by omega) (by omega) ?_) | (with_reducible refine w_quo (by omega) (by omega) (by omega) ?_) | (with_reducible refine w_seql ?_) | (with_reducible refine w_sneq ?_) | (with_reducible refine c_t ?_) | (with_reducible refine c_f ?_) | (with_reducible refine c_tt (by first | assumption | omega) ?_) | (with_reducible refine c_ff (by first | assumption | omega) ?_) | (with_reducible refine c_dec (fun hc => ?_) (fun hc => ?_)) | (with_reducible refine c_b (fun hc => ?_) (fun hc => ?_)) | (with_reducible refine gc_tt ?_) | (with_reducible refine gc_ft ?_) | (with_reducible refine gc_tf ?_) | (with_reducible refine gc_ff ?_) | (with_reducible refine g_tt (by first | assumption | omega) ?_) | (with_reducible refine g_tf (by first | assumption | omega) ?_) | (with_reducible refine g_ft (by first | assumption | omega) ?_) | (with_reducible refine g_ff (by first | assumption | omega) ?_) | (with_reducible refine g_dec (fun hc => ?_) (fun hc => ?_)) | (with_reducible refine g_decf (fun hc => ?_) (fun hc => ?_)) | (with_reducible refine pk_t ?_) | (with_reducible refine pk_f ?_) | (with_reducible refine pk_tt (by first | assumption | omega) ?_) | (with_reducible refine pk_ff (by first | assumption | omega) ?_)))
    · subst hc
      rw [findIdx_at hni hy] at k
      exact k
    · refine hI (m - 1) _ _ (by omega) ⟨i + 1, by omega, by omega, e0, e1, e7, rfl, rfl, ?_⟩
      rw [take_succ_get hy]
      simp only [List.mem_append, List.mem_singleton, not_or]
      exact ⟨hni, hc⟩
  · have : l.take i = l := List.take_of_length_le (by omega)
    rw [this] at hni
    rw [findIdx_none hni] at k
    exact k

theorem contains65 {h : AH} {v : Value} {l : List Int} {x : Int} {K : Value → AH → Prop} (hl : Ints h v l) (hn : l.length < room40) (k : K (.bool (decide (x ∈ l))) h) : callW Try.prog 65 [v, .int .i64 x] h K := by
  refine c65 ?_
  unfold s65
  refine index73 hl hn ?_
  refine w_geq ?_
  have : decide (0 ≤ idxOf x l) = decide (x ∈ l) := by
    by_cases hx : x ∈ l
    · have : ¬ idxOf x l < 0 := fun h => idxOf_neg.1 h hx
      rw [decide_eq_true hx, decide_eq_true (by omega)]
    · have := idxOf_neg.2 hx
      rw [decide_eq_false hx, decide_eq_false (by omega)]
  rw [this]
  exact k

theorem sy_eq0 (a b : Sy) : pBin Try.prog .eql 67 (.agg (eSy a).toArray) (.agg (eSy b).toArray) = (sameScals (eSy a) (eSy b)).map Value.bool := by kernel_rfl
theorem sy_eq (a b : Sy) : pBin Try.prog .eql 67 (.agg (eSy a).toArray) (.agg (eSy b).toArray) = some (.bool (decide (a = b))) := by
  rw [sy_eq0]
  obtain ⟨a1, a2⟩ := a
  obtain ⟨b1, b2⟩ := b
  unfold eSy
  simp only [sameScals, sameScal, bytes_toList, bs_data, if_true]
  by_cases h1 : a1 = b1
  · subst h1
    by_cases h2 : a2 = b2
    · subst h2; simp
    · have : (a2 == b2) = false := by simpa using h2
      simp [this, h2]
  · have : (a1 == b1) = false := by simpa using h1
    simp [this, h1]

theorem w_syeq {a b : Sy} {K : Value → Prop} (k : K (.bool (decide (a = b)))) : optW (pBin Try.prog .eql 67 (.agg (eSy a).toArray) (.agg (eSy b).toArray)) K := by
  rw [sy_eq]; exact k

theorem index69 {h : AH} {v : Value} {l : List Sy} {x : Sy} {K : Value → AH → Prop} (hl : Syms h v l) (hn : l.length < room40) (k : ∀ h', Ex h h' → K (.int .i64 (idxOf x l)) h') : callW Try.prog 69 [v, .agg (eSy x).toArray] h K := by
  refine c69 ?_
  unfold s69
  refine n_box rfl ?_
  have hx0 : Ex h (h ++ [AObj.row (cellsL (.agg (eSy x).toArray)) true]) := .app _ _
  have hp0 : PtrTo (h ++ [AObj.row (cellsL (.agg (eSy x).toArray)) true]) (.pointer (some ⟨h.length, 0, none⟩)) (eSy x) := ⟨h.length, 0, eSy x, true, rfl, get_new _ _, Nat.le_refl _, rfl⟩
  generalize h ++ [AObj.row (cellsL (.agg (eSy x).toArray)) true] = h1 at *
  generalize (Value.pointer (some ⟨h.length, 0, none⟩)) = p0 at *
  refine w_len hl ?_
  refine loopE_intro (fun m e h' => ∃ i : Nat, i ≤ l.length ∧ m = l.length - i ∧ e 0 = v ∧ e 3 = p0 ∧ e 7 = .int .i64 l.length ∧ e 8 = .int .i64 i ∧ h' = h1 ∧ x ∉ l.take i) l.length ⟨0, Nat.zero_le _, rfl, rfl, rfl, rfl, rfl, rfl, by simp⟩ ?_
  rintro I m e h' ⟨i, hi, hm, e0, e3, e7, e8, rfl, hni⟩ hI
  rw [e0, e3, e7, e8]
  unfold room40 at hn
  refine w_lss ?_
  refine c_dec (fun hc => ?_) (fun hc => ?_)
  · obtain ⟨y, hy⟩ := getElem?_of_lt (l := l) (i := i) (by omega)
    refine w_rdA hp0 rfl ?_
    refine w_idxN eSy_len (hl.ex hx0) hy fun p hp => ?_
    refine w_rdA hp rfl ?_
    refine w_syeq ?_
    (repeat' (first | (with_reducible refine w_lss ?_) | (with_reducible refine w_leq ?_) | (with_reducible refine w_gtr ?_) | (with_reducible refine w_geq ?_) | (with_reducible refine w_eql ?_) | (with_reducible refine w_neq ?_) | (with_reducible refine w_lenSl ?_) | (with_reducible refine w_lenStr ?_) | (with_reducible refine w_not ?_) | (with_reducible refine w_add (by omega) (by omega) ?_) | (with_reducible refine w_sub (by omega) (by omega) ?_) | (with_reducible refine w_rem (by omega) (by omega) ?_) | (with_reducible refine w_quo (by omega) (by omega) (by omega) ?_) | (with_reducible refine w_seql ?_) | (with_reducible refine w_sneq ?_) | (with_reducible refine c_t ?_) | (with_reducible refine c_f ?_) | (with_reducible refine c_tt (by first | assumption | omega) ?_) | (with_reducible refine c_ff (by first | assumption | omega) ?_) | (with_reducible refine c_dec (fun hc => ?_) (fun hc => ?_)) | (with_reducible refine c_b (fun hc => ?_) (fun hc => ?_)) | (with_reducible refine gc_tt ?_) | (with_reducible refine gc_ft ?_) | (with_reducible refine gc_tf ?_) | (with_reducible refine gc_ff ?_) | (with_reducible refine g_tt (by first | assumption | omega) ?_) | (with_reducible refine g_tf (by first | assumption | omega) ?_) | (with_reducible refine g_ft (by first | assumption | omega) ?_) | (with_reducible refine g_ff (by first | assumption | omega) ?_) | (with_reducible refine g_dec (fun hc => ?_) (fun hc => ?_)) | (with_reducible refine g_decf (fun hc => ?_) (fun hc => ?_)) | (with_reducible refine pk_t ?_) | (with_reducible refine pk_f ?_) | (with_reducible refine pk_tt (by first | assumption | omega) ?_) | (with_reducible refine pk_ff (by first | assumption | omega) ?_)))
    · subst hc
      rw [findIdx_at hni hy] at k
      exact k _ hx0
    · refine hI (m - 1) _ _ (by omega) ⟨i + 1, by omega, by omega, e0, e3, e7, rfl, rfl, ?_⟩
      rw [take_succ_get hy]
      simp only [List.mem_append, List.mem_singleton, not_or]
      exact ⟨hni, hc⟩
  · have : l.take i = l := List.take_of_length_le (by omega)
    rw [this] at hni
    rw [findIdx_none hni] at k
    exact k _ hx0
end Go.Proofs.Ytebbjimmgblcpaa.W
end

section
/- A feed in memory. Conditions: none. -/
namespace Go.Proofs.Ytebbjimmgblcpaa.W
open Go Go.AM FeedM
set_option linter.unusedVariables false
set_option maxRecDepth 100000

def eP (p : Int × Int) : Value := .agg #[.int .i64 p.1, .int .i64 p.2]
def e4 (x : Int × Int × Int × Int) : List Value := [.int .i64 x.1, .int .i64 x.2.1, .int .i64 x.2.2.1, .int .i64 x.2.2.2]
def e3 (x : Int × Int × Int) : List Value := [.int .i64 x.1, .int .i64 x.2.1, .int .i64 x.2.2]
theorem e4_len (x : Int × Int × Int × Int) : (e4 x).length = 4 := rfl
theorem e3_len (x : Int × Int × Int) : (e3 x).length = 3 := rfl
def one1 : Value := .int .i64 1
abbrev SetP := SetM eP one1

/-- a level in a row: its map, by which symbol. -/
def eL (x : Nat × Int) : List Value := [.map (some x.1), .int .i64 x.2]
theorem eL_len (x : Nat × Int) : (eL x).length = 2 := rfl

/-- the values of a feed's fields that stand on memory. -/
structure FV where
  vi : Value
  vf : Value
  vo : Value
  vc : Value
  vn : Value
  mi : Nat
  vu : Value
  vs : Value
  vl : Value
  vw : Value
  ul : List (Nat × Int)

def rowOf (V : FV) (st : FS) : List Value :=
  [.int .i64 st.m.n, .int .i64 st.m.g, V.vi, V.vf, V.vo, V.vc, V.vn, .map (some V.mi), .int .i64 st.now.bys, V.vu, V.vs, .int .i64 st.at_, V.vl, .int .i64 st.deep, .int .i64 st.read, V.vw, .int .i64 st.e, .int .i64 st.place, .bool st.closed]

/-- what is only read; what may be written. -/
def rIds (V : FV) (j : Nat) : Prop := onId V.vi j ∨ onId V.vf j ∨ onId V.vo j ∨ onId V.vc j ∨ onId V.vn j ∨ onId V.vl j ∨ j = V.mi ∨ j ∈ V.ul.map (·.1)
def wIds (f : Nat) (V : FV) (j : Nat) : Prop := j = f ∨ onId V.vs j ∨ onId V.vw j ∨ onId V.vu j

def Lvs (h : AH) : List (Nat × Int) → List Lv → Prop
  | [], [] => True
  | a :: l, b :: m => a.2 = b.bys ∧ SetP h a.1 b.row ∧ Lvs h l m
  | _, _ => False

structure FRB (h : AH) (f : Nat) (V : FV) (st : FS) (F : Nat → Prop) : Prop where
  init : Ints h V.vi st.m.init
  final : Ints h V.vf st.m.final
  opens : SlT 4 e4 h V.vo st.m.opens
  closes : SlT 4 e4 h V.vc st.m.closes
  inners : SlT 3 e3 h V.vn st.m.inners
  now : SetP h V.mi st.now.row
  under : OwnG 2 F h V.vu V.ul.length (flat eL V.ul)
  lvs : Lvs h V.ul st.under
  s : OwnG 1 F h V.vs st.s.length (flat eB st.s)
  l : Syms h V.vl st.l
  word : OwnG 1 F h V.vw st.word.length (flat eI st.word)
  ff : F f
  rF : ∀ j, rIds V j → F j
  lt : ∀ j, F j → j < h.length
  sep : ∀ j, wIds f V j → ¬ rIds V j
  sf : ¬ onId V.vs f ∧ ¬ onId V.vw f ∧ ¬ onId V.vu f
  sw : ∀ j, onId V.vs j → ¬ onId V.vw j ∧ ¬ onId V.vu j
  wu : ∀ j, onId V.vw j → ¬ onId V.vu j

/-- A FEED AT f: its state; the objects that it stands on. -/
def FR (h : AH) (f : Nat) (st : FS) (F : Nat → Prop) : Prop := ∃ V, h[f]? = some (.row (rowOf V st) true) ∧ FRB h f V st F

/-- what has turned: the feed's own objects; new ones. -/
structure Chg (F : Nat → Prop) (h : AH) (F' : Nat → Prop) (h' : AH) : Prop where
  len : h.length ≤ h'.length
  get : ∀ j, j < h.length → ¬ F j → h'[j]? = h[j]?
  dom : ∀ j, F' j → F j ∨ h.length ≤ j

theorem Chg.refl (F : Nat → Prop) (h : AH) : Chg F h F h := ⟨Nat.le_refl _, fun _ _ _ => rfl, fun _ h => .inl h⟩
theorem Chg.trans {F F1 F2 : Nat → Prop} {h h1 h2 : AH} (a : Chg F h F1 h1) (b : Chg F1 h1 F2 h2) : Chg F h F2 h2 where
  len := Nat.le_trans a.len b.len
  get j hj hF := by
    rw [b.get j (Nat.lt_of_lt_of_le hj a.len) (fun h => (a.dom j h).elim hF (by omega)), a.get j hj hF]
  dom j hj := (b.dom j hj).elim (a.dom j) fun h => .inr (Nat.le_trans a.len h)

theorem Sl.same {s : Nat} {h h' : AH} {v : Value} {n : Nat} {cs : List Value} (hv : Sl s h v n cs) (hh : ∀ j, onId v j → h'[j]? = h[j]?) : Sl s h' v n cs := by
  refine ⟨hv.1, ?_⟩
  rcases hv.2 with h1 | ⟨id, off, cap, rfl, h2, h3⟩
  · exact .inl h1
  · refine .inr ⟨id, off, cap, rfl, h2, ?_⟩
    rcases h3 with h3 | ⟨c, w, h3, h4⟩
    · exact .inl h3
    · exact .inr ⟨c, w, (hh id rfl).trans h3, h4⟩

theorem Lvs.same {h h' : AH} : ∀ {l : List (Nat × Int)} {m : List Lv}, Lvs h l m → (∀ j ∈ l.map (·.1), h'[j]? = h[j]?) → Lvs h' l m
  | [], [], _, _ => trivial
  | [], _ :: _, h, _ => h.elim
  | _ :: _, [], h, _ => h.elim
  | a :: l, b :: m, ⟨h1, h2, h3⟩, hh => ⟨h1, h2.same (hh a.1 (by simp)), h3.same fun j hj => hh j (by simp only [List.map_cons, List.mem_cons]; exact .inr hj)⟩

/-- the body holds where its objects are as they were. -/
theorem FRB.same {h h' : AH} {f : Nat} {V : FV} {st : FS} {F : Nat → Prop} (b : FRB h f V st F) (hl : h.length ≤ h'.length) (hr : ∀ j, rIds V j → h'[j]? = h[j]?) (hw : ∀ j, onId V.vs j ∨ onId V.vw j ∨ onId V.vu j → h'[j]? = h[j]?) : FRB h' f V st F where
  init := Sl.same b.init fun j hj => hr j (.inl hj)
  final := Sl.same b.final fun j hj => hr j (.inr (.inl hj))
  opens := Sl.same b.opens fun j hj => hr j (.inr (.inr (.inl hj)))
  closes := Sl.same b.closes fun j hj => hr j (.inr (.inr (.inr (.inl hj))))
  inners := Sl.same b.inners fun j hj => hr j (.inr (.inr (.inr (.inr (.inl hj)))))
  now := b.now.same (hr _ (.inr (.inr (.inr (.inr (.inr (.inr (.inl rfl))))))))
  under := b.under.mono (fun _ _ h => h) fun j hj _ => hw j (.inr (.inr hj))
  lvs := b.lvs.same fun j hj => hr j (.inr (.inr (.inr (.inr (.inr (.inr (.inr hj)))))))
  s := b.s.mono (fun _ _ h => h) fun j hj _ => hw j (.inl hj)
  l := Sl.same b.l fun j hj => hr j (.inr (.inr (.inr (.inr (.inr (.inl hj))))))
  word := b.word.mono (fun _ _ h => h) fun j hj _ => hw j (.inr (.inl hj))
  ff := b.ff
  rF := b.rF
  lt j hj := Nat.lt_of_lt_of_le (b.lt j hj) hl
  sep := b.sep
  sf := b.sf
  sw := b.sw
  wu := b.wu

/-- the record alone is written. -/
theorem FRB.setf {h : AH} {f : Nat} {V : FV} {st : FS} {F : Nat → Prop} (b : FRB h f V st F) (o : AObj) : FRB (h.set f o) f V st F := by
  refine b.same (by simp) (fun j hj => get_ne ?_ _) (fun j hj => get_ne ?_ _)
  · rintro rfl; exact b.sep _ (.inl rfl) hj
  · rintro rfl
    rcases hj with h | h | h
    · exact b.sf.1 h
    · exact b.sf.2.1 h
    · exact b.sf.2.2 h

theorem FRB.to {h : AH} {f : Nat} {V : FV} {st st' : FS} {F : Nat → Prop} (b : FRB h f V st F) (h1 : st'.m = st.m) (h2 : st'.now.row = st.now.row) (h3 : st'.under = st.under) (h4 : st'.s = st.s) (h5 : st'.l = st.l) (h6 : st'.word = st.word) : FRB h f V st' F where
  init := by rw [h1]; exact b.init
  final := by rw [h1]; exact b.final
  opens := by rw [h1]; exact b.opens
  closes := by rw [h1]; exact b.closes
  inners := by rw [h1]; exact b.inners
  now := by rw [h2]; exact b.now
  under := b.under
  lvs := by rw [h3]; exact b.lvs
  s := by rw [h4]; exact b.s
  l := by rw [h5]; exact b.l
  word := by rw [h6]; exact b.word
  ff := b.ff
  rF := b.rF
  lt := b.lt
  sep := b.sep
  sf := b.sf
  sw := b.sw
  wu := b.wu

theorem Chg.setf {h : AH} {f : Nat} {F : Nat → Prop} (hf : F f) (o : AObj) : Chg F h F (h.set f o) :=
  ⟨by simp, fun j hj hF => get_ne (fun e => hF (by rw [← e]; exact hf)) _, fun j hj => .inl hj⟩

/-- the same objects, another one's turn. -/
theorem FR.keep {h h' : AH} {f : Nat} {st : FS} {F : Nat → Prop} (r : FR h f st F) (hl : h.length ≤ h'.length) (hh : ∀ j, F j → h'[j]? = h[j]?) : FR h' f st F := by
  obtain ⟨V, h1, b⟩ := r
  exact ⟨V, (hh f b.ff).trans h1, b.same hl (fun j hj => hh j (b.rF j hj)) fun j hj => hh j (by
    rcases hj with h | h | h
    · exact (b.s.on h).1
    · exact (b.word.on h).1
    · exact (b.under.on h).1)⟩

theorem letter61 {c : UInt8} {h : AH} {K : Value → AH → Prop} (k : K (.bool (letter c)) h) : callW Try.prog 61 [.int .u8 c.toNat] h K := by
  refine c61 ?_
  unfold s61
  unfold letter at k
  (repeat' (first | (with_reducible refine w_lss ?_) | (with_reducible refine w_leq ?_) | (with_reducible refine w_gtr ?_) | (with_reducible refine w_geq ?_) | (with_reducible refine w_eql ?_) | (with_reducible refine w_neq ?_) | (with_reducible refine w_lenSl ?_) | (with_reducible refine w_lenStr ?_) | (with_reducible refine w_not ?_) | (with_reducible refine w_add (by omega) (by omega) ?_) | (with_reducible refine w_sub (by omega) (by omega) ?_) | (with_reducible refine w_rem (by omega) (by omega) ?_) | (with_reducible refine w_quo (by omega) (by omega) (by omega) ?_) | (with_reducible refine w_seql ?_) | (with_reducible refine w_sneq ?_) | (with_reducible refine c_t ?_) | (with_reducible refine c_f ?_) | (with_reducible refine c_tt (by first | assumption | omega) ?_) | (with_reducible refine c_ff (by first | assumption | omega) ?_) | (with_reducible refine c_dec (fun hc => ?_) (fun hc => ?_)) | (with_reducible refine c_b (fun hc => ?_) (fun hc => ?_)) | (with_reducible refine gc_tt ?_) | (with_reducible refine gc_ft ?_) | (with_reducible refine gc_tf ?_) | (with_reducible refine gc_ff ?_) | (with_reducible refine g_tt (by first | assumption | omega) ?_) | (with_reducible refine g_tf (by first | assumption | omega) ?_) | (with_reducible refine g_ft (by first | assumption | omega) ?_) | (with_reducible refine g_ff (by first | assumption | omega) ?_) | (with_reducible refine g_dec (fun hc => ?_) (fun hc => ?_)) | (with_reducible refine g_decf (fun hc => ?_) (fun hc => ?_)) | (with_reducible refine pk_t ?_) | (with_reducible refine pk_f ?_) | (with_reducible refine pk_tt (by first | assumption | omega) ?_) | (with_reducible refine pk_ff (by first | assumption | omega) ?_)))
  · have : decide (97 ≤ c.toNat ∧ c.toNat ≤ 122) = decide ((c.toNat : Int) ≤ 122) := by
      rw [Bool.eq_iff_iff]; simp only [decide_eq_true_eq]; omega
    rw [this] at k
    exact k
  · have : decide (97 ≤ c.toNat ∧ c.toNat ≤ 122) = false := by
      rw [decide_eq_false_iff_not]; omega
    rw [this] at k
    exact k

theorem wrong48 {h : AH} {f : Nat} {st : FS} {F : Nat → Prop} {e place : Int} {K : Value → AH → Prop} (r : FR h f st F) (k : ∀ h', FR h' f (FeedM.wrong st e place) F → Chg F h F h' → K (.tuple #[]) h') : callW Try.prog 48 [.pointer (some ⟨f, 0, none⟩), .int .i64 e, .int .i64 place] h K := by
  obtain ⟨V, hr, b⟩ := r
  refine c48 ?_
  unfold s48
  refine w_nilc ?_
  refine w_offP ?_
  refine w_rdP hr (v := .int .i64 st.e) rfl ?_
  refine w_eql ?_
  refine c_dec (fun hc => ?_) (fun hc => ?_)
  · refine w_nilc ?_
    refine w_offP ?_
    refine w_stP hr (by simp [rowOf]) rfl rfl ?_
    have hf := lt_of_get hr
    refine w_nilc ?_
    refine w_offP ?_
    refine w_stP (get_set _ hf _) (by simp [rowOf]) rfl rfl ?_
    refine k _ ?_ ((Chg.setf b.ff _).trans (Chg.setf b.ff _))
    unfold FeedM.wrong
    rw [if_pos hc]
    exact ⟨V, by rw [get_set _ (by simpa using hf)]; rfl, ((b.setf _).setf _).to rfl rfl rfl rfl rfl rfl⟩
  · refine k _ ?_ (Chg.refl _ _)
    unfold FeedM.wrong
    rw [if_neg hc]
    exact ⟨V, hr, b⟩

theorem deep31 {h : AH} {f : Nat} {st : FS} {F : Nat → Prop} {K : Value → AH → Prop} (r : FR h f st F) (k : K (.int .i64 st.under.length) h) : callW Try.prog 31 [.pointer (some ⟨f, 0, none⟩)] h K := by
  obtain ⟨V, hr, b⟩ := r
  refine c31 ?_
  unfold s31
  refine w_nilc (w_offP (w_offP (w_rdP hr (v := V.vu) rfl ?_)))
  refine w_len b.under.sl ?_
  have : ∀ {l : List (Nat × Int)} {m : List Lv}, Lvs h l m → l.length = m.length := by
    intro l
    induction l with
    | nil => intro m hm; cases m with
      | nil => rfl
      | cons _ _ => exact hm.elim
    | cons a l ih => intro m hm; cases m with
      | nil => exact hm.elim
      | cons _ _ => simp only [List.length_cons]; rw [ih hm.2.2]
  rw [this b.lvs]
  exact k
end Go.Proofs.Ytebbjimmgblcpaa.W
end

section
/- The feed's machine goes on by a symbol: inner. Conditions: none. -/
namespace Go.Proofs.Ytebbjimmgblcpaa.W
open Go Go.AM FeedM
set_option linter.unusedVariables false
set_option maxRecDepth 100000

theorem keyP0 (a b : Int × Int) : keyEq Try.prog 115 (eP a) (eP b) = sameScals [.int .i64 a.1, .int .i64 a.2] [.int .i64 b.1, .int .i64 b.2] := by kernel_rfl
theorem keyP : KeyOK Try.prog 115 eP := by
  intro a b
  rw [keyP0]
  obtain ⟨a1, a2⟩ := a
  obtain ⟨b1, b2⟩ := b
  simp only [sameScals, sameScal, if_true]
  by_cases h1 : a1 = b1
  · subst h1
    by_cases h2 : a2 = b2
    · subst h2; simp
    · have : (a2 == b2) = false := by simpa using h2
      simp [this, h2]
  · have : (a1 == b1) = false := by simpa using h1
    simp [this, h1]

theorem newnow {h h1 : AH} {f : Nat} {V : FV} {st : FS} {F : Nat → Prop} {i : Nat} {R : Row} {by' : Int} (b : FRB h f V st F) (hx : Ex h h1) (hi : h.length ≤ i) (hs : SetP h1 i R) : FRB h1 f { V with mi := i } { st with now := ⟨R, by'⟩ } (fun j => F j ∨ j = i) := by
  have b1 := b.same (h' := h1) hx.len (fun j hj => hx.get j (b.lt j (b.rF j hj))) (fun j hj => hx.get j (b.lt j (by
    rcases hj with h | h | h
    · exact (b.s.on h).1
    · exact (b.word.on h).1
    · exact (b.under.on h).1)))
  have wlt : ∀ j, wIds f V j → j < h.length := fun j hj => b.lt j (by
    rcases hj with rfl | h | h | h
    · exact b.ff
    · exact (b.s.on h).1
    · exact (b.word.on h).1
    · exact (b.under.on h).1)
  exact {
    init := b1.init, final := b1.final, opens := b1.opens, closes := b1.closes, inners := b1.inners, now := hs
    under := b1.under.mono (fun _ _ h => .inl h) fun _ _ _ => rfl
    lvs := b1.lvs
    s := b1.s.mono (fun _ _ h => .inl h) fun _ _ _ => rfl
    l := b1.l
    word := b1.word.mono (fun _ _ h => .inl h) fun _ _ _ => rfl
    ff := .inl b.ff
    rF := fun j hj => by
      rcases hj with h | h | h | h | h | h | h | h
      · exact .inl (b.rF j (.inl h))
      · exact .inl (b.rF j (.inr (.inl h)))
      · exact .inl (b.rF j (.inr (.inr (.inl h))))
      · exact .inl (b.rF j (.inr (.inr (.inr (.inl h)))))
      · exact .inl (b.rF j (.inr (.inr (.inr (.inr (.inl h))))))
      · exact .inl (b.rF j (.inr (.inr (.inr (.inr (.inr (.inl h)))))))
      · exact .inr h
      · exact .inl (b.rF j (.inr (.inr (.inr (.inr (.inr (.inr (.inr h))))))))
    lt := fun j hj => hj.elim (fun h => b1.lt j h) fun h => h ▸ hs.lt
    sep := fun j hw hj => by
      rcases hj with h | h | h | h | h | h | h | h
      · exact b.sep j hw (.inl h)
      · exact b.sep j hw (.inr (.inl h))
      · exact b.sep j hw (.inr (.inr (.inl h)))
      · exact b.sep j hw (.inr (.inr (.inr (.inl h))))
      · exact b.sep j hw (.inr (.inr (.inr (.inr (.inl h)))))
      · exact b.sep j hw (.inr (.inr (.inr (.inr (.inr (.inl h))))))
      · have := wlt j hw
        have h' : j = i := h
        omega
      · exact b.sep j hw (.inr (.inr (.inr (.inr (.inr (.inr (.inr h)))))))
    sf := b.sf
    sw := b.sw
    wu := b.wu }

theorem ex_take_succ {α : Type} {l : List α} {j : Nat} {t : α} (ht : l[j]? = some t) {P : α → Prop} : (∃ o ∈ l.take (j + 1), P o) ↔ (∃ o ∈ l.take j, P o) ∨ P t := by
  rw [take_succ_get ht]
  simp only [List.mem_append, List.mem_singleton]
  constructor
  · rintro ⟨o, h | rfl, hp⟩
    · exact .inl ⟨o, h, hp⟩
    · exact .inr hp
  · rintro (⟨o, h, hp⟩ | hp)
    · exact ⟨o, .inl h, hp⟩
    · exact ⟨t, .inr rfl, hp⟩
theorem innerRow_grow {m : Mach} {D : Row} {p : Int × Int} {k : Int} {q : Int × Int} : innerRow m (fun y => D y ∨ y = p) k q ↔ innerRow m D k q ∨ p.1 = q.1 ∧ ∃ o ∈ m.inners, o.1 = p.2 ∧ o.2.1 = k ∧ o.2.2 = q.2 := by
  unfold innerRow
  obtain ⟨p1, p2⟩ := p
  constructor
  · rintro ⟨b, h | h, o, ho, h1, h2⟩
    · exact .inl ⟨b, h, o, ho, h1, h2⟩
    · cases h
      exact .inr ⟨rfl, o, ho, h1, h2⟩
  · rintro (⟨b, h, o, ho, h1, h2⟩ | ⟨h, o, ho, h1, h2⟩)
    · exact ⟨b, .inl h, o, ho, h1, h2⟩
    · exact ⟨p2, .inr (by simp only at h; rw [← h]), o, ho, h1, h2⟩
theorem innerRow_congr {m : Mach} {S D : Row} {k : Int} (h : ∀ x, S x ↔ D x) {q : Int × Int} : innerRow m S k q ↔ innerRow m D k q := by
  have : S = D := funext fun x => propext (h x)
  rw [this]

theorem inner72 {h : AH} {f : Nat} {st : FS} {F : Nat → Prop} {k : Int} {K : Value → AH → Prop} (r : FR h f st F) (hb : st.m.inners.length < room40)
    (kk : ∀ h' F', FR h' f (innered st k) F' → Chg F h F' h' → K (.tuple #[]) h') : callW Try.prog 72 [.pointer (some ⟨f, 0, none⟩), .int .i64 k] h K := by
  obtain ⟨V, hr, b⟩ := r
  unfold room40 at hb
  refine c72 ?_
  unfold s72
  refine n_map0 fun h1 x1 l1 g1 => ?_
  refine w_nilc (w_offP (w_offP (w_rdP (x1.some hr) (v := .int .i64 st.now.bys) rfl ?_)))
  refine w_some rfl ?_
  refine n_var rfl rfl rfl fun h2 x2 l2 g2 => ?_
  refine w_nilc (w_offP (w_offP (w_rdP (x2.some (x1.some hr)) (v := .map (some V.mi)) rfl ?_)))
  refine range_set Try.underlying88 ((b.now.ex x1).ex x2) fun o m0 hi => ?_
  have x3 : Ex h2 (h2 ++ [o]) := .app _ _
  have l3 : (h2 ++ [o]).length = h2.length + 1 := by simp
  generalize h2 ++ [o] = h3 at *
  have nm : SetP h3 h.length (fun _ => False) := (SetM.empty g1).ex (x2.trans x3)
  refine loopE_intro (fun m e h' => ∃ D : Row, e 0 = .pointer (some ⟨f, 0, none⟩) ∧ e 1 = .int .i64 k ∧ e 4 = .pointer (some ⟨h1.length, 0, none⟩) ∧ e 20 = .pointer (some ⟨h2.length, 0, none⟩) ∧
    Ex h h' ∧ h2.length < h'.length ∧ h'[h1.length]? = some (.row [.map (some h.length), .int .i64 st.now.bys] true) ∧ SetP h' h.length (innerRow st.m D k) ∧ IterM eP one1 h' h2.length V.mi st.now.row D m) m0
    ⟨fun _ => False, rfl, rfl, rfl, rfl, (x1.trans x2).trans x3, by omega, x3.some g2, nm.congr (fun x => by simp [innerRow]), hi⟩ ?_
  rintro I m e h4 ⟨D, e0, e1, e4, e20, hx, hrl, hbox, hset, hit⟩ hI
  rw [e0, e4, e20]
  have hmi : V.mi < h.length := b.now.lt
  refine next_set hit (fun p o' m' hp hnd hm' hit' hent => ?_) (fun hall => ?_)
  · have y1 : Ex h (h4.set h2.length o') := hx.set (by omega) _
    have yb : (h4.set h2.length o')[h1.length]? = some (.row [.map (some h.length), .int .i64 st.now.bys] true) := by rw [get_ne (by omega)]; exact hbox
    have ys : SetP (h4.set h2.length o') h.length (innerRow st.m D k) := hset.same (get_ne (by omega) _)
    have yl : h2.length < (h4.set h2.length o').length := by simpa using hrl
    generalize h4.set h2.length o' = h5 at *
    refine w_some rfl (c_t ?_)
    refine w_some hent (w_some rfl ?_)
    refine n_var rfl rfl rfl fun h6 x6 l6 g6 => ?_
    refine w_nilc (w_offP (w_offP (w_rdP (x6.some (y1.some hr)) (v := V.vn) rfl ?_)))
    refine w_len b.inners ?_
    refine loopE_intro (fun n e' h' => ∃ j : Nat, j ≤ st.m.inners.length ∧ n = st.m.inners.length - j ∧ e' 0 = .pointer (some ⟨f, 0, none⟩) ∧ e' 1 = .int .i64 k ∧ e' 4 = .pointer (some ⟨h1.length, 0, none⟩) ∧ e' 20 = .pointer (some ⟨h2.length, 0, none⟩) ∧
      e' 5 = .pointer (some ⟨h5.length, 0, none⟩) ∧ e' 29 = V.vn ∧ e' 30 = .int .i64 st.m.inners.length ∧ e' 31 = .int .i64 j ∧
      Ex h h' ∧ h5.length < h'.length ∧ h'[h1.length]? = some (.row [.map (some h.length), .int .i64 st.now.bys] true) ∧ h'[h5.length]? = some (.row (cellsL (eP p)) true) ∧
      SetP h' h.length (fun q => innerRow st.m D k q ∨ p.1 = q.1 ∧ ∃ o ∈ st.m.inners.take j, o.1 = p.2 ∧ o.2.1 = k ∧ o.2.2 = q.2) ∧ IterM eP one1 h' h2.length V.mi st.now.row (fun y => D y ∨ y = p) m') st.m.inners.length
      ⟨0, Nat.zero_le _, rfl, e0, e1, e4, e20, rfl, rfl, rfl, rfl, y1.trans x6, by omega, x6.some yb, g6, (ys.ex x6).congr (fun q => by simp), hit'.keep (x6.get _ (by have := y1.len; omega)) (x6.get _ yl)⟩ ?_
    rintro I1 n e' h7 ⟨j, hj, hn, f0, f1, f4, f20, f5, f29, f30, f31, zx, zl, zb, zp, zs, zi⟩ hI1
    rw [f29, f30, f31, f5, f4, f1]
    refine w_lss ?_
    refine c_dec (fun hc => ?_) (fun hc => ?_)
    · obtain ⟨t, ht⟩ := getElem?_of_lt (l := st.m.inners) (i := j) (by omega)
      refine w_idxN e3_len (b.inners.ex zx) ht fun q hq => ?_
      refine w_rdA hq rfl ?_
      refine n_var rfl rfl rfl fun h8 x8 l8 g8 => ?_
      refine w_offP (w_rdP g8 (v := .int .i64 t.1) rfl ?_)
      refine w_offP (w_rdP (x8.some zp) (v := .int .i64 p.2) rfl ?_)
      refine w_eql ?_
      have next : ∀ h9 v45 e9, Ex h h9 → h5.length < h9.length → h9[h1.length]? = some (.row [.map (some h.length), .int .i64 st.now.bys] true) → h9[h5.length]? = some (.row (cellsL (eP p)) true) →
          SetP h9 h.length (fun q => innerRow st.m D k q ∨ p.1 = q.1 ∧ ∃ o ∈ st.m.inners.take (j + 1), o.1 = p.2 ∧ o.2.1 = k ∧ o.2.2 = q.2) → IterM eP one1 h9 h2.length V.mi st.now.row (fun y => D y ∨ y = p) m' →
          e9 0 = .pointer (some ⟨f, 0, none⟩) → e9 1 = .int .i64 k → e9 4 = .pointer (some ⟨h1.length, 0, none⟩) → e9 20 = .pointer (some ⟨h2.length, 0, none⟩) → e9 5 = .pointer (some ⟨h5.length, 0, none⟩) → e9 29 = V.vn → e9 30 = .int .i64 st.m.inners.length → v45 = .int .i64 ((j + 1 : Nat) : Int) → e9 31 = v45 → I1 e9 h9 :=
        fun h9 v45 e9 a1 a2 a3 a4 a5 a6 b0 b1 b4 b20 b5 b29 b30 bv b31 => hI1 (n - 1) _ _ (by omega) ⟨j + 1, by omega, by omega, b0, b1, b4, b20, b5, b29, b30, b31.trans bv, a1, a2, a3, a4, a5, a6⟩
      have zi8 : IterM eP one1 h8 h2.length V.mi st.now.row (fun y => D y ∨ y = p) m' := zi.keep (x8.get _ (by have := zx.len; omega)) (x8.get _ (by omega))
      by_cases q1 : t.1 = p.2
      · refine g_tt q1 (w_offP ?_)
        refine g_tt q1 (w_rdP g8 (v := .int .i64 t.2.1) rfl ?_)
        refine g_tt q1 ?_
        refine g_tt q1 (w_eql ?_)
        refine pk_tt q1 ?_
        refine c_dec (fun q2 => ?_) (fun q2 => ?_)
        · refine w_offP (w_rdP (x8.some zb) (v := .map (some h.length)) rfl ?_)
          refine w_offP (w_rdP (x8.some zp) (v := .int .i64 p.1) rfl ?_)
          refine w_offP (w_rdP g8 (v := .int .i64 t.2.2) rfl ?_)
          refine w_some rfl ?_
          refine set_put (enc := eP) (one := one1) (x := (p.1, t.2.2)) Try.underlying88 keyP (zs.ex x8) fun o8 zs8 => ?_
          (repeat' (first | (with_reducible refine w_lss ?_) | (with_reducible refine w_leq ?_) | (with_reducible refine w_gtr ?_) | (with_reducible refine w_geq ?_) | (with_reducible refine w_eql ?_) | (with_reducible refine w_neq ?_) | (with_reducible refine w_lenSl ?_) | (with_reducible refine w_lenStr ?_) | (with_reducible refine w_not ?_) | (with_reducible refine w_add (by omega) (by omega) ?_) | (with_reducible refine w_sub (by omega) (by omega) ?_) | (with_reducible refine w_rem (by omega) (by omega) ?_) | (with_reducible refine w_quo (by omega) (by omega) (by omega) ?_) | (with_reducible refine w_seql ?_) | (with_reducible refine w_sneq ?_) | (with_reducible refine c_t ?_) | (with_reducible refine c_f ?_) | (with_reducible refine c_tt (by first | assumption | omega) ?_) | (with_reducible refine c_ff (by first | assumption | omega) ?_) | (with_reducible refine c_dec (fun hc => ?_) (fun hc => ?_)) | (with_reducible refine c_b (fun hc => ?_) (fun hc => ?_)) | (with_reducible refine gc_tt ?_) | (with_reducible refine gc_ft ?_) | (with_reducible refine gc_tf ?_) | (with_reducible refine gc_ff ?_) | (with_reducible refine g_tt (by first | assumption | omega) ?_) | (with_reducible refine g_tf (by first | assumption | omega) ?_) | (with_reducible refine g_ft (by first | assumption | omega) ?_) | (with_reducible refine g_ff (by first | assumption | omega) ?_) | (with_reducible refine g_dec (fun hc => ?_) (fun hc => ?_)) | (with_reducible refine g_decf (fun hc => ?_) (fun hc => ?_)) | (with_reducible refine pk_t ?_) | (with_reducible refine pk_f ?_) | (with_reducible refine pk_tt (by first | assumption | omega) ?_) | (with_reducible refine pk_ff (by first | assumption | omega) ?_)))
          refine next _ _ _ ((zx.trans x8).set (Nat.le_refl _) _) (by simp; omega) (by rw [get_ne (by omega)]; exact x8.some zb) (by rw [get_ne (by have := y1.len; omega)]; exact x8.some zp) (zs8.congr fun q => ?_)
            (zi8.keep (get_ne (by omega) _) (get_ne (by omega) _)) f0 f1 f4 f20 f5 f29 f30 rfl rfl
          rw [ex_take_succ ht]
          obtain ⟨qa, qb⟩ := q
          simp only [q1, q2, true_and, Prod.mk.injEq]
          grind
        · (repeat' (first | (with_reducible refine w_lss ?_) | (with_reducible refine w_leq ?_) | (with_reducible refine w_gtr ?_) | (with_reducible refine w_geq ?_) | (with_reducible refine w_eql ?_) | (with_reducible refine w_neq ?_) | (with_reducible refine w_lenSl ?_) | (with_reducible refine w_lenStr ?_) | (with_reducible refine w_not ?_) | (with_reducible refine w_add (by omega) (by omega) ?_) | (with_reducible refine w_sub (by omega) (by omega) ?_) | (with_reducible refine w_rem (by omega) (by omega) ?_) | (with_reducible refine w_quo (by omega) (by omega) (by omega) ?_) | (with_reducible refine w_seql ?_) | (with_reducible refine w_sneq ?_) | (with_reducible refine c_t ?_) | (with_reducible refine c_f ?_) | (with_reducible refine c_tt (by first | assumption | omega) ?_) | (with_reducible refine c_ff (by first | assumption | omega) ?_) | (with_reducible refine c_dec (fun hc => ?_) (fun hc => ?_)) | (with_reducible refine c_b (fun hc => ?_) (fun hc => ?_)) | (with_reducible refine gc_tt ?_) | (with_reducible refine gc_ft ?_) | (with_reducible refine gc_tf ?_) | (with_reducible refine gc_ff ?_) | (with_reducible refine g_tt (by first | assumption | omega) ?_) | (with_reducible refine g_tf (by first | assumption | omega) ?_) | (with_reducible refine g_ft (by first | assumption | omega) ?_) | (with_reducible refine g_ff (by first | assumption | omega) ?_) | (with_reducible refine g_dec (fun hc => ?_) (fun hc => ?_)) | (with_reducible refine g_decf (fun hc => ?_) (fun hc => ?_)) | (with_reducible refine pk_t ?_) | (with_reducible refine pk_f ?_) | (with_reducible refine pk_tt (by first | assumption | omega) ?_) | (with_reducible refine pk_ff (by first | assumption | omega) ?_)))
          refine next _ _ _ (zx.trans x8) (by have := x8.len; omega) (x8.some zb) (x8.some zp) ((zs.ex x8).congr fun q => ?_) zi8 f0 f1 f4 f20 f5 f29 f30 rfl rfl
          rw [ex_take_succ ht]
          simp only [q2, false_and, and_false, or_false]
      · refine g_tf q1 ?_
        refine g_tf q1 ?_
        refine g_tf q1 ?_
        refine g_tf q1 ?_
        refine pk_ff q1 (c_f ?_)
        (repeat' (first | (with_reducible refine w_lss ?_) | (with_reducible refine w_leq ?_) | (with_reducible refine w_gtr ?_) | (with_reducible refine w_geq ?_) | (with_reducible refine w_eql ?_) | (with_reducible refine w_neq ?_) | (with_reducible refine w_lenSl ?_) | (with_reducible refine w_lenStr ?_) | (with_reducible refine w_not ?_) | (with_reducible refine w_add (by omega) (by omega) ?_) | (with_reducible refine w_sub (by omega) (by omega) ?_) | (with_reducible refine w_rem (by omega) (by omega) ?_) | (with_reducible refine w_quo (by omega) (by omega) (by omega) ?_) | (with_reducible refine w_seql ?_) | (with_reducible refine w_sneq ?_) | (with_reducible refine c_t ?_) | (with_reducible refine c_f ?_) | (with_reducible refine c_tt (by first | assumption | omega) ?_) | (with_reducible refine c_ff (by first | assumption | omega) ?_) | (with_reducible refine c_dec (fun hc => ?_) (fun hc => ?_)) | (with_reducible refine c_b (fun hc => ?_) (fun hc => ?_)) | (with_reducible refine gc_tt ?_) | (with_reducible refine gc_ft ?_) | (with_reducible refine gc_tf ?_) | (with_reducible refine gc_ff ?_) | (with_reducible refine g_tt (by first | assumption | omega) ?_) | (with_reducible refine g_tf (by first | assumption | omega) ?_) | (with_reducible refine g_ft (by first | assumption | omega) ?_) | (with_reducible refine g_ff (by first | assumption | omega) ?_) | (with_reducible refine g_dec (fun hc => ?_) (fun hc => ?_)) | (with_reducible refine g_decf (fun hc => ?_) (fun hc => ?_)) | (with_reducible refine pk_t ?_) | (with_reducible refine pk_f ?_) | (with_reducible refine pk_tt (by first | assumption | omega) ?_) | (with_reducible refine pk_ff (by first | assumption | omega) ?_)))
        refine next _ _ _ (zx.trans x8) (by have := x8.len; omega) (x8.some zb) (x8.some zp) ((zs.ex x8).congr fun q => ?_) zi8 f0 f1 f4 f20 f5 f29 f30 rfl rfl
        rw [ex_take_succ ht]
        simp only [q1, false_and, or_false]
    · have hje : j = st.m.inners.length := by omega
      subst hje
      rw [List.take_length] at zs
      exact hI m' _ _ hm' ⟨_, f0, f1, f4, f20, zx, by omega, zb, zs.congr fun q => innerRow_grow, zi⟩
  · refine w_some rfl (c_f ?_)
    refine w_rdPA hbox (Nat.le_refl 2) ?_
    refine w_nilc (w_offP ?_)
    refine w_stPA (hx.some hr) rfl (by simp [rowOf]) rfl ?_
    have hlt := lt_of_get hr
    refine kk _ (fun j => F j ∨ j = h.length) ⟨{ V with mi := h.length }, ?_, ?_⟩ ⟨by simpa using hx.len, fun j hj hF => ?_, fun j hj => hj.imp id fun e => Nat.le_of_eq e.symm⟩
    · rw [get_set _ (hx.lt hlt)]
      rfl
    · exact (newnow b hx (Nat.le_refl _) (hset.congr fun q => innerRow_congr hall)).setf _
    · rw [get_ne (fun e => hF (by rw [← e]; exact b.ff))]
      exact hx.get j hj
end Go.Proofs.Ytebbjimmgblcpaa.W
end

section
/- The feed's machine goes on by a symbol: one that closes where nothing is left. Conditions: none. -/
namespace Go.Proofs.Ytebbjimmgblcpaa.W
open Go Go.AM FeedM
set_option linter.unusedVariables false
set_option maxRecDepth 100000

theorem lowRow_grow {m : Mach} {D : Row} {p : Int × Int} {k : Int} {q : Int × Int} : lowRow m (fun y => D y ∨ y = p) k q ↔ lowRow m D k q ∨ p.1 = q.1 ∧ ∃ o ∈ m.closes, o.1 = p.2 ∧ o.2.1 = k ∧ o.2.2.1 = 0 ∧ o.2.2.2 = q.2 := by
  unfold lowRow
  obtain ⟨p1, p2⟩ := p
  constructor
  · rintro ⟨b, h | h, o, ho, h1, h2⟩
    · exact .inl ⟨b, h, o, ho, h1, h2⟩
    · cases h
      exact .inr ⟨rfl, o, ho, h1, h2⟩
  · rintro (⟨b, h, o, ho, h1, h2⟩ | ⟨h, o, ho, h1, h2⟩)
    · exact ⟨b, .inl h, o, ho, h1, h2⟩
    · exact ⟨p2, .inr (by simp only at h; rw [← h]), o, ho, h1, h2⟩
theorem lowRow_congr {m : Mach} {S D : Row} {k : Int} (h : ∀ x, S x ↔ D x) {q : Int × Int} : lowRow m S k q ↔ lowRow m D k q := by
  have : S = D := funext fun x => propext (h x)
  rw [this]

theorem lowest75 {h : AH} {f : Nat} {st : FS} {F : Nat → Prop} {k : Int} {K : Value → AH → Prop} (r : FR h f st F) (hb : st.m.closes.length < room40)
    (kk : ∀ h' F', FR h' f { st with now := ⟨lowRow st.m st.now.row k, st.now.bys⟩ } F' → Chg F h F' h' → K (.tuple #[]) h') : callW Try.prog 75 [.pointer (some ⟨f, 0, none⟩), .int .i64 k] h K := by
  obtain ⟨V, hr, b⟩ := r
  unfold room40 at hb
  refine c75 ?_
  unfold s75
  refine n_map0 fun h1 x1 l1 g1 => ?_
  refine w_nilc (w_offP (w_offP (w_rdP (x1.some hr) (v := .int .i64 st.now.bys) rfl ?_)))
  refine w_some rfl ?_
  refine n_var rfl rfl rfl fun h2 x2 l2 g2 => ?_
  refine w_nilc (w_offP (w_offP (w_rdP (x2.some (x1.some hr)) (v := .map (some V.mi)) rfl ?_)))
  refine range_set Try.underlying88 ((b.now.ex x1).ex x2) fun o m0 hi => ?_
  have x3 : Ex h2 (h2 ++ [o]) := .app _ _
  have l3 : (h2 ++ [o]).length = h2.length + 1 := by simp
  generalize h2 ++ [o] = h3 at *
  have nm : SetP h3 h.length (fun _ => False) := (SetM.empty g1).ex (x2.trans x3)
  refine loopE_intro (fun m e h' => ∃ D : Row, e 0 = .pointer (some ⟨f, 0, none⟩) ∧ e 1 = .int .i64 k ∧ e 4 = .pointer (some ⟨h1.length, 0, none⟩) ∧ e 20 = .pointer (some ⟨h2.length, 0, none⟩) ∧
    Ex h h' ∧ h2.length < h'.length ∧ h'[h1.length]? = some (.row [.map (some h.length), .int .i64 st.now.bys] true) ∧ SetP h' h.length (lowRow st.m D k) ∧ IterM eP one1 h' h2.length V.mi st.now.row D m) m0
    ⟨fun _ => False, rfl, rfl, rfl, rfl, (x1.trans x2).trans x3, by omega, x3.some g2, nm.congr (fun x => by simp [lowRow]), hi⟩ ?_
  rintro I m e h4 ⟨D, e0, e1, e4, e20, hx, hrl, hbox, hset, hit⟩ hI
  rw [e0, e4, e20]
  have hmi : V.mi < h.length := b.now.lt
  refine next_set hit (fun p o' m' hp hnd hm' hit' hent => ?_) (fun hall => ?_)
  · have y1 : Ex h (h4.set h2.length o') := hx.set (by omega) _
    have yb : (h4.set h2.length o')[h1.length]? = some (.row [.map (some h.length), .int .i64 st.now.bys] true) := by rw [get_ne (by omega)]; exact hbox
    have ys : SetP (h4.set h2.length o') h.length (lowRow st.m D k) := hset.same (get_ne (by omega) _)
    have yl : h2.length < (h4.set h2.length o').length := by simpa using hrl
    generalize h4.set h2.length o' = h5 at *
    refine w_some rfl (c_t ?_)
    refine w_some hent (w_some rfl ?_)
    refine n_var rfl rfl rfl fun h6 x6 l6 g6 => ?_
    refine w_nilc (w_offP (w_offP (w_rdP (x6.some (y1.some hr)) (v := V.vc) rfl ?_)))
    refine w_len b.closes ?_
    refine loopE_intro (fun n e' h' => ∃ j : Nat, j ≤ st.m.closes.length ∧ n = st.m.closes.length - j ∧ e' 0 = .pointer (some ⟨f, 0, none⟩) ∧ e' 1 = .int .i64 k ∧ e' 4 = .pointer (some ⟨h1.length, 0, none⟩) ∧ e' 20 = .pointer (some ⟨h2.length, 0, none⟩) ∧
      e' 5 = .pointer (some ⟨h5.length, 0, none⟩) ∧ e' 29 = V.vc ∧ e' 30 = .int .i64 st.m.closes.length ∧ e' 31 = .int .i64 j ∧
      Ex h h' ∧ h5.length < h'.length ∧ h'[h1.length]? = some (.row [.map (some h.length), .int .i64 st.now.bys] true) ∧ h'[h5.length]? = some (.row (cellsL (eP p)) true) ∧
      SetP h' h.length (fun q => lowRow st.m D k q ∨ p.1 = q.1 ∧ ∃ o ∈ st.m.closes.take j, o.1 = p.2 ∧ o.2.1 = k ∧ o.2.2.1 = 0 ∧ o.2.2.2 = q.2) ∧ IterM eP one1 h' h2.length V.mi st.now.row (fun y => D y ∨ y = p) m') st.m.closes.length
      ⟨0, Nat.zero_le _, rfl, e0, e1, e4, e20, rfl, rfl, rfl, rfl, y1.trans x6, by omega, x6.some yb, g6, (ys.ex x6).congr (fun q => by simp), hit'.keep (x6.get _ (by have := y1.len; omega)) (x6.get _ yl)⟩ ?_
    rintro I1 n e' h7 ⟨j, hj, hn, f0, f1, f4, f20, f5, f29, f30, f31, zx, zl, zb, zp, zs, zi⟩ hI1
    rw [f29, f30, f31, f5, f4, f1]
    refine w_lss ?_
    refine c_dec (fun hc => ?_) (fun hc => ?_)
    · obtain ⟨t, ht⟩ := getElem?_of_lt (l := st.m.closes) (i := j) (by omega)
      refine w_idxN e4_len (b.closes.ex zx) ht fun q hq => ?_
      refine w_rdA hq rfl ?_
      refine n_var rfl rfl rfl fun h8 x8 l8 g8 => ?_
      refine w_offP (w_rdP g8 (v := .int .i64 t.1) rfl ?_)
      refine w_offP (w_rdP (x8.some zp) (v := .int .i64 p.2) rfl ?_)
      refine w_eql ?_
      have next : ∀ h9 v45 e9, Ex h h9 → h5.length < h9.length → h9[h1.length]? = some (.row [.map (some h.length), .int .i64 st.now.bys] true) → h9[h5.length]? = some (.row (cellsL (eP p)) true) →
          SetP h9 h.length (fun q => lowRow st.m D k q ∨ p.1 = q.1 ∧ ∃ o ∈ st.m.closes.take (j + 1), o.1 = p.2 ∧ o.2.1 = k ∧ o.2.2.1 = 0 ∧ o.2.2.2 = q.2) → IterM eP one1 h9 h2.length V.mi st.now.row (fun y => D y ∨ y = p) m' →
          e9 0 = .pointer (some ⟨f, 0, none⟩) → e9 1 = .int .i64 k → e9 4 = .pointer (some ⟨h1.length, 0, none⟩) → e9 20 = .pointer (some ⟨h2.length, 0, none⟩) → e9 5 = .pointer (some ⟨h5.length, 0, none⟩) → e9 29 = V.vc → e9 30 = .int .i64 st.m.closes.length → v45 = .int .i64 ((j + 1 : Nat) : Int) → e9 31 = v45 → I1 e9 h9 :=
        fun h9 v45 e9 a1 a2 a3 a4 a5 a6 b0 b1 b4 b20 b5 b29 b30 bv b31 => hI1 (n - 1) _ _ (by omega) ⟨j + 1, by omega, by omega, b0, b1, b4, b20, b5, b29, b30, b31.trans bv, a1, a2, a3, a4, a5, a6⟩
      have zi8 : IterM eP one1 h8 h2.length V.mi st.now.row (fun y => D y ∨ y = p) m' := zi.keep (x8.get _ (by have := zx.len; omega)) (x8.get _ (by omega))
      have no : ∀ v45 e9, (¬ (t.1 = p.2 ∧ t.2.1 = k ∧ t.2.2.1 = 0)) → e9 0 = .pointer (some ⟨f, 0, none⟩) → e9 1 = .int .i64 k → e9 4 = .pointer (some ⟨h1.length, 0, none⟩) → e9 20 = .pointer (some ⟨h2.length, 0, none⟩) → e9 5 = .pointer (some ⟨h5.length, 0, none⟩) → e9 29 = V.vc → e9 30 = .int .i64 st.m.closes.length → v45 = .int .i64 ((j + 1 : Nat) : Int) → e9 31 = v45 → I1 e9 h8 := by
        intro v45 e9 hno b0 b1 b4 b20 b5 b29 b30 bv b31
        refine next _ _ _ (zx.trans x8) (by have := x8.len; omega) (x8.some zb) (x8.some zp) ((zs.ex x8).congr fun q => ?_) zi8 b0 b1 b4 b20 b5 b29 b30 bv b31
        rw [ex_take_succ ht]
        grind
      by_cases q1 : t.1 = p.2
      · refine g_tt q1 (w_offP ?_)
        refine g_tt q1 (w_rdP g8 (v := .int .i64 t.2.1) rfl ?_)
        refine g_tt q1 ?_
        refine g_tt q1 (w_eql ?_)
        refine pk_tt q1 ?_
        by_cases q2 : t.2.1 = k
        · refine g_tt q2 (w_offP ?_)
          refine g_tt q2 (w_rdP g8 (v := .int .i64 t.2.2.1) rfl ?_)
          refine g_tt q2 (w_eql ?_)
          refine pk_tt q2 ?_
          refine c_dec (fun q3 => ?_) (fun q3 => ?_)
          · refine w_offP (w_rdP (x8.some zb) (v := .map (some h.length)) rfl ?_)
            refine w_offP (w_rdP (x8.some zp) (v := .int .i64 p.1) rfl ?_)
            refine w_offP (w_rdP g8 (v := .int .i64 t.2.2.2) rfl ?_)
            refine w_some rfl ?_
            refine set_put (enc := eP) (one := one1) (x := (p.1, t.2.2.2)) Try.underlying88 keyP (zs.ex x8) fun o8 zs8 => ?_
            (repeat' (first | (with_reducible refine w_lss ?_) | (with_reducible refine w_leq ?_) | (with_reducible refine w_gtr ?_) | (with_reducible refine w_geq ?_) | (with_reducible refine w_eql ?_) | (with_reducible refine w_neq ?_) | (with_reducible refine w_lenSl ?_) | (with_reducible refine w_lenStr ?_) | (with_reducible refine w_not ?_) | (with_reducible refine w_add (by omega) (by omega) ?_) | (with_reducible refine w_sub (by omega) (by omega) ?_) | (with_reducible refine w_rem (by omega) (by omega) ?_) | (with_reducible refine w_quo (by omega) (by omega) (by omega) ?_) | (with_reducible refine w_seql ?_) | (with_reducible refine w_sneq ?_) | (with_reducible refine c_t ?_) | (with_reducible refine c_f ?_) | (with_reducible refine c_tt (by first | assumption | omega) ?_) | (with_reducible refine c_ff (by first | assumption | omega) ?_) | (with_reducible refine c_dec (fun hc => ?_) (fun hc => ?_)) | (with_reducible refine c_b (fun hc => ?_) (fun hc => ?_)) | (with_reducible refine gc_tt ?_) | (with_reducible refine gc_ft ?_) | (with_reducible refine gc_tf ?_) | (with_reducible refine gc_ff ?_) | (with_reducible refine g_tt (by first | assumption | omega) ?_) | (with_reducible refine g_tf (by first | assumption | omega) ?_) | (with_reducible refine g_ft (by first | assumption | omega) ?_) | (with_reducible refine g_ff (by first | assumption | omega) ?_) | (with_reducible refine g_dec (fun hc => ?_) (fun hc => ?_)) | (with_reducible refine g_decf (fun hc => ?_) (fun hc => ?_)) | (with_reducible refine pk_t ?_) | (with_reducible refine pk_f ?_) | (with_reducible refine pk_tt (by first | assumption | omega) ?_) | (with_reducible refine pk_ff (by first | assumption | omega) ?_)))
            refine next _ _ _ ((zx.trans x8).set (Nat.le_refl _) _) (by simp; omega) (by rw [get_ne (by omega)]; exact x8.some zb) (by rw [get_ne (by have := y1.len; omega)]; exact x8.some zp) (zs8.congr fun q => ?_)
              (zi8.keep (get_ne (by omega) _) (get_ne (by omega) _)) f0 f1 f4 f20 f5 f29 f30 rfl rfl
            rw [ex_take_succ ht]
            obtain ⟨qa, qb⟩ := q
            simp only [q1, q2, q3, true_and, Prod.mk.injEq]
            grind
          · (repeat' (first | (with_reducible refine w_lss ?_) | (with_reducible refine w_leq ?_) | (with_reducible refine w_gtr ?_) | (with_reducible refine w_geq ?_) | (with_reducible refine w_eql ?_) | (with_reducible refine w_neq ?_) | (with_reducible refine w_lenSl ?_) | (with_reducible refine w_lenStr ?_) | (with_reducible refine w_not ?_) | (with_reducible refine w_add (by omega) (by omega) ?_) | (with_reducible refine w_sub (by omega) (by omega) ?_) | (with_reducible refine w_rem (by omega) (by omega) ?_) | (with_reducible refine w_quo (by omega) (by omega) (by omega) ?_) | (with_reducible refine w_seql ?_) | (with_reducible refine w_sneq ?_) | (with_reducible refine c_t ?_) | (with_reducible refine c_f ?_) | (with_reducible refine c_tt (by first | assumption | omega) ?_) | (with_reducible refine c_ff (by first | assumption | omega) ?_) | (with_reducible refine c_dec (fun hc => ?_) (fun hc => ?_)) | (with_reducible refine c_b (fun hc => ?_) (fun hc => ?_)) | (with_reducible refine gc_tt ?_) | (with_reducible refine gc_ft ?_) | (with_reducible refine gc_tf ?_) | (with_reducible refine gc_ff ?_) | (with_reducible refine g_tt (by first | assumption | omega) ?_) | (with_reducible refine g_tf (by first | assumption | omega) ?_) | (with_reducible refine g_ft (by first | assumption | omega) ?_) | (with_reducible refine g_ff (by first | assumption | omega) ?_) | (with_reducible refine g_dec (fun hc => ?_) (fun hc => ?_)) | (with_reducible refine g_decf (fun hc => ?_) (fun hc => ?_)) | (with_reducible refine pk_t ?_) | (with_reducible refine pk_f ?_) | (with_reducible refine pk_tt (by first | assumption | omega) ?_) | (with_reducible refine pk_ff (by first | assumption | omega) ?_)))
            exact no _ _ (fun hh => q3 hh.2.2) f0 f1 f4 f20 f5 f29 f30 rfl rfl
        · refine g_tf q2 ?_
          refine g_tf q2 ?_
          refine g_tf q2 ?_
          refine pk_ff q2 (c_f ?_)
          (repeat' (first | (with_reducible refine w_lss ?_) | (with_reducible refine w_leq ?_) | (with_reducible refine w_gtr ?_) | (with_reducible refine w_geq ?_) | (with_reducible refine w_eql ?_) | (with_reducible refine w_neq ?_) | (with_reducible refine w_lenSl ?_) | (with_reducible refine w_lenStr ?_) | (with_reducible refine w_not ?_) | (with_reducible refine w_add (by omega) (by omega) ?_) | (with_reducible refine w_sub (by omega) (by omega) ?_) | (with_reducible refine w_rem (by omega) (by omega) ?_) | (with_reducible refine w_quo (by omega) (by omega) (by omega) ?_) | (with_reducible refine w_seql ?_) | (with_reducible refine w_sneq ?_) | (with_reducible refine c_t ?_) | (with_reducible refine c_f ?_) | (with_reducible refine c_tt (by first | assumption | omega) ?_) | (with_reducible refine c_ff (by first | assumption | omega) ?_) | (with_reducible refine c_dec (fun hc => ?_) (fun hc => ?_)) | (with_reducible refine c_b (fun hc => ?_) (fun hc => ?_)) | (with_reducible refine gc_tt ?_) | (with_reducible refine gc_ft ?_) | (with_reducible refine gc_tf ?_) | (with_reducible refine gc_ff ?_) | (with_reducible refine g_tt (by first | assumption | omega) ?_) | (with_reducible refine g_tf (by first | assumption | omega) ?_) | (with_reducible refine g_ft (by first | assumption | omega) ?_) | (with_reducible refine g_ff (by first | assumption | omega) ?_) | (with_reducible refine g_dec (fun hc => ?_) (fun hc => ?_)) | (with_reducible refine g_decf (fun hc => ?_) (fun hc => ?_)) | (with_reducible refine pk_t ?_) | (with_reducible refine pk_f ?_) | (with_reducible refine pk_tt (by first | assumption | omega) ?_) | (with_reducible refine pk_ff (by first | assumption | omega) ?_)))
          exact no _ _ (fun hh => q2 hh.2.1) f0 f1 f4 f20 f5 f29 f30 rfl rfl
      · refine g_tf q1 ?_
        refine g_tf q1 ?_
        refine g_tf q1 ?_
        refine g_tf q1 ?_
        refine pk_ff q1 ?_
        refine gc_tf (gc_tf (gc_tf (pk_f (c_f ?_))))
        (repeat' (first | (with_reducible refine w_lss ?_) | (with_reducible refine w_leq ?_) | (with_reducible refine w_gtr ?_) | (with_reducible refine w_geq ?_) | (with_reducible refine w_eql ?_) | (with_reducible refine w_neq ?_) | (with_reducible refine w_lenSl ?_) | (with_reducible refine w_lenStr ?_) | (with_reducible refine w_not ?_) | (with_reducible refine w_add (by omega) (by omega) ?_) | (with_reducible refine w_sub (by omega) (by omega) ?_) | (with_reducible refine w_rem (by omega) (by omega) ?_) | (with_reducible refine w_quo (by omega) (by omega) (by omega) ?_) | (with_reducible refine w_seql ?_) | (with_reducible refine w_sneq ?_) | (with_reducible refine c_t ?_) | (with_reducible refine c_f ?_) | (with_reducible refine c_tt (by first | assumption | omega) ?_) | (with_reducible refine c_ff (by first | assumption | omega) ?_) | (with_reducible refine c_dec (fun hc => ?_) (fun hc => ?_)) | (with_reducible refine c_b (fun hc => ?_) (fun hc => ?_)) | (with_reducible refine gc_tt ?_) | (with_reducible refine gc_ft ?_) | (with_reducible refine gc_tf ?_) | (with_reducible refine gc_ff ?_) | (with_reducible refine g_tt (by first | assumption | omega) ?_) | (with_reducible refine g_tf (by first | assumption | omega) ?_) | (with_reducible refine g_ft (by first | assumption | omega) ?_) | (with_reducible refine g_ff (by first | assumption | omega) ?_) | (with_reducible refine g_dec (fun hc => ?_) (fun hc => ?_)) | (with_reducible refine g_decf (fun hc => ?_) (fun hc => ?_)) | (with_reducible refine pk_t ?_) | (with_reducible refine pk_f ?_) | (with_reducible refine pk_tt (by first | assumption | omega) ?_) | (with_reducible refine pk_ff (by first | assumption | omega) ?_)))
        exact no _ _ (fun hh => q1 hh.1) f0 f1 f4 f20 f5 f29 f30 rfl rfl
    · have hje : j = st.m.closes.length := by omega
      subst hje
      rw [List.take_length] at zs
      exact hI m' _ _ hm' ⟨_, f0, f1, f4, f20, zx, by omega, zb, zs.congr fun q => lowRow_grow, zi⟩
  · refine w_some rfl (c_f ?_)
    refine w_rdPA hbox (Nat.le_refl 2) ?_
    refine w_nilc (w_offP ?_)
    refine w_stPA (hx.some hr) rfl (by simp [rowOf]) rfl ?_
    have hlt := lt_of_get hr
    refine kk _ (fun j => F j ∨ j = h.length) ⟨{ V with mi := h.length }, ?_, ?_⟩ ⟨by simpa using hx.len, fun j hj hF => ?_, fun j hj => hj.imp id fun e => Nat.le_of_eq e.symm⟩
    · rw [get_set _ (hx.lt hlt)]
      rfl
    · exact (newnow b hx (Nat.le_refl _) (hset.congr fun q => lowRow_congr hall)).setf _
    · rw [get_ne (fun e => hF (by rw [← e]; exact b.ff))]
      exact hx.get j hj
end Go.Proofs.Ytebbjimmgblcpaa.W
end

section
/- The feed's machine goes on by a symbol that opens. Conditions: none. -/
namespace Go.Proofs.Ytebbjimmgblcpaa.W
open Go Go.AM FeedM
set_option linter.unusedVariables false
set_option maxRecDepth 100000

theorem openRow_grow {m : Mach} {D : Row} {p : Int × Int} {k : Int} {q : Int × Int} : openRow m (fun y => D y ∨ y = p) k q ↔ openRow m D k q ∨ q.1 = q.2 ∧ ∃ o ∈ m.opens, o.1 = p.2 ∧ o.2.1 = k ∧ o.2.2.1 = q.1 := by
  unfold openRow
  constructor
  · rintro ⟨h0, b, h | h, o, ho, h1, h2⟩
    · exact .inl ⟨h0, b, h, o, ho, h1, h2⟩
    · cases h
      exact .inr ⟨h0, o, ho, h1, h2⟩
  · rintro (⟨h0, b, h, o, ho, h1, h2⟩ | ⟨h, o, ho, h1, h2⟩)
    · exact ⟨h0, b, .inl h, o, ho, h1, h2⟩
    · exact ⟨h, p, .inr rfl, o, ho, h1, h2⟩
theorem openRow_congr {m : Mach} {S D : Row} {k : Int} (h : ∀ x, S x ↔ D x) {q : Int × Int} : openRow m S k q ↔ openRow m D k q := by
  have : S = D := funext fun x => propext (h x)
  rw [this]

theorem Lvs.snoc {h : AH} {i : Nat} {b : Int} {R : Row} (hs : SetP h i R) : ∀ {l : List (Nat × Int)} {m : List Lv}, Lvs h l m → Lvs h (l ++ [(i, b)]) (m ++ [⟨R, b⟩])
  | [], [], _ => ⟨rfl, hs, trivial⟩
  | [], _ :: _, h => h.elim
  | _ :: _, [], h => h.elim
  | a :: l, c :: m, ⟨h1, h2, h3⟩ => ⟨h1, h2, Lvs.snoc hs h3⟩

theorem newunder {h h' : AH} {f : Nat} {V : FV} {st : FS} {F F' : Nat → Prop} {v' : Value} {mi0 : Nat} {by0 : Int} {R0 : Row} (b : FRB h f V st F) (hl : h.length ≤ h'.length) (hr : ∀ j, F j → ¬ onId V.vu j → h'[j]? = h[j]?)
    (ou : OwnG 2 F' h' v' (V.ul.length + 1) (flat eL V.ul ++ eL (mi0, by0))) (hid : ∀ j, onId v' j → onId V.vu j ∨ h.length ≤ j) (hF : ∀ j, F j → F' j) (hlt : ∀ j, F' j → j < h'.length) (hm : SetP h' mi0 R0) (hmF : F mi0) (hmw : ¬ wIds f V mi0) :
    FRB h' f { V with vu := v', ul := V.ul ++ [(mi0, by0)] } { st with under := st.under ++ [⟨R0, by0⟩] } F' := by
  have nr : ∀ j, rIds V j → h'[j]? = h[j]? := fun j hj => hr j (b.rF j hj) fun hu => b.sep j (.inr (.inr (.inr hu))) hj
  have ns : ∀ j, onId V.vs j → h'[j]? = h[j]? := fun j hj => hr j (b.s.on hj).1 (b.sw j hj).2
  have nw : ∀ j, onId V.vw j → h'[j]? = h[j]? := fun j hj => hr j (b.word.on hj).1 (b.wu j hj)
  have old : ∀ j, rIds { V with vu := v', ul := V.ul ++ [(mi0, by0)] } j → rIds V j ∨ j = mi0 := by
    intro j hj
    rcases hj with h | h | h | h | h | h | h | h
    · exact .inl (.inl h)
    · exact .inl (.inr (.inl h))
    · exact .inl (.inr (.inr (.inl h)))
    · exact .inl (.inr (.inr (.inr (.inl h))))
    · exact .inl (.inr (.inr (.inr (.inr (.inl h)))))
    · exact .inl (.inr (.inr (.inr (.inr (.inr (.inl h))))))
    · exact .inl (.inr (.inr (.inr (.inr (.inr (.inr (.inl h)))))))
    · simp only [List.map_append, List.map_cons, List.map_nil, List.mem_append, List.mem_singleton] at h
      rcases h with h | h
      · exact .inl (.inr (.inr (.inr (.inr (.inr (.inr (.inr h)))))))
      · exact .inr h
  have oldF : ∀ j, rIds { V with vu := v', ul := V.ul ++ [(mi0, by0)] } j → F j := fun j hj => (old j hj).elim (b.rF j) fun e => by rw [e]; exact hmF
  exact {
    init := Sl.same b.init fun j hj => nr j (.inl hj)
    final := Sl.same b.final fun j hj => nr j (.inr (.inl hj))
    opens := Sl.same b.opens fun j hj => nr j (.inr (.inr (.inl hj)))
    closes := Sl.same b.closes fun j hj => nr j (.inr (.inr (.inr (.inl hj))))
    inners := Sl.same b.inners fun j hj => nr j (.inr (.inr (.inr (.inr (.inl hj)))))
    now := b.now.same (nr _ (.inr (.inr (.inr (.inr (.inr (.inr (.inl rfl))))))))
    under := by
      have e1 : (V.ul ++ [(mi0, by0)]).length = V.ul.length + 1 := by simp
      have e2 : flat eL (V.ul ++ [(mi0, by0)]) = flat eL V.ul ++ eL (mi0, by0) := by rw [flat_append]; simp [flat]
      show OwnG 2 F' h' v' (V.ul ++ [(mi0, by0)]).length (flat eL (V.ul ++ [(mi0, by0)]))
      rw [e1, e2]
      exact ou
    lvs := Lvs.snoc hm (b.lvs.same fun j hj => nr j (.inr (.inr (.inr (.inr (.inr (.inr (.inr hj))))))))
    s := b.s.mono (fun j _ h => hF j h) fun j hj _ => ns j hj
    l := Sl.same b.l fun j hj => nr j (.inr (.inr (.inr (.inr (.inr (.inl hj))))))
    word := b.word.mono (fun j _ h => hF j h) fun j hj _ => nw j hj
    ff := hF _ b.ff
    rF := fun j hj => hF j (oldF j hj)
    lt := hlt
    sep := fun j hw hj => by
      have hjF := oldF j hj
      have hjl := b.lt j hjF
      have hwV : wIds f V j := by
        rcases hw with h | h | h | h
        · exact .inl h
        · exact .inr (.inl h)
        · exact .inr (.inr (.inl h))
        · rcases hid j h with h | h
          · exact .inr (.inr (.inr h))
          · omega
      rcases old j hj with h | rfl
      · exact b.sep j hwV h
      · exact hmw hwV
    sf := ⟨b.sf.1, b.sf.2.1, fun h => (hid f h).elim b.sf.2.2 fun h => by have := b.lt f b.ff; omega⟩
    sw := fun j hj => ⟨(b.sw j hj).1, fun h => (hid j h).elim (b.sw j hj).2 fun h => by have := b.lt j (b.s.on hj).1; omega⟩
    wu := fun j hj h => (hid j h).elim (b.wu j hj) fun h => by have := b.lt j (b.word.on hj).1; omega }

theorem lvs_length {h : AH} : ∀ {l : List (Nat × Int)} {m : List Lv}, Lvs h l m → l.length = m.length
  | [], [], _ => rfl
  | [], _ :: _, h => h.elim
  | _ :: _, [], h => h.elim
  | a :: l, c :: m, ⟨h1, h2, h3⟩ => by simp only [List.length_cons]; rw [lvs_length h3]

theorem open70 {h : AH} {f : Nat} {st : FS} {F : Nat → Prop} {k : Int} {K : Value → AH → Prop} (r : FR h f st F) (hb : st.m.opens.length < room40) (hu : st.under.length + 1 < room40)
    (kk : ∀ h' F', FR h' f (opened st k) F' → Chg F h F' h' → K (.tuple #[]) h') : callW Try.prog 70 [.pointer (some ⟨f, 0, none⟩), .int .i64 k] h K := by
  obtain ⟨V, hr, b⟩ := r
  have hul := lvs_length b.lvs
  unfold room40 at hb
  refine c70 ?_
  unfold s70
  refine n_map0 fun h1 x1 l1 g1 => ?_
  refine w_some rfl ?_
  refine n_var rfl rfl rfl fun h2 x2 l2 g2 => ?_
  refine w_nilc (w_offP (w_offP (w_rdP (x2.some (x1.some hr)) (v := .map (some V.mi)) rfl ?_)))
  refine range_set Try.underlying88 ((b.now.ex x1).ex x2) fun o m0 hi => ?_
  have x3 : Ex h2 (h2 ++ [o]) := .app _ _
  have l3 : (h2 ++ [o]).length = h2.length + 1 := by simp
  generalize h2 ++ [o] = h3 at *
  have nm : SetP h3 h.length (fun _ => False) := (SetM.empty g1).ex (x2.trans x3)
  refine loopE_intro (fun m e h' => ∃ D : Row, e 0 = .pointer (some ⟨f, 0, none⟩) ∧ e 1 = .int .i64 k ∧ e 4 = .pointer (some ⟨h1.length, 0, none⟩) ∧ e 16 = .pointer (some ⟨h2.length, 0, none⟩) ∧
    Ex h h' ∧ h2.length < h'.length ∧ h'[h1.length]? = some (.row [.map (some h.length), .int .i64 k] true) ∧ SetP h' h.length (openRow st.m D k) ∧ IterM eP one1 h' h2.length V.mi st.now.row D m) m0
    ⟨fun _ => False, rfl, rfl, rfl, rfl, (x1.trans x2).trans x3, by omega, x3.some g2, nm.congr (fun x => by simp [openRow]), hi⟩ ?_
  rintro I m e h4 ⟨D, e0, e1, e4, e20, hx, hrl, hbox, hset, hit⟩ hI
  rw [e0, e4, e20]
  have hmi : V.mi < h.length := b.now.lt
  refine next_set hit (fun p o' m' hp hnd hm' hit' hent => ?_) (fun hall => ?_)
  · have y1 : Ex h (h4.set h2.length o') := hx.set (by omega) _
    have yb : (h4.set h2.length o')[h1.length]? = some (.row [.map (some h.length), .int .i64 k] true) := by rw [get_ne (by omega)]; exact hbox
    have ys : SetP (h4.set h2.length o') h.length (openRow st.m D k) := hset.same (get_ne (by omega) _)
    have yl : h2.length < (h4.set h2.length o').length := by simpa using hrl
    generalize h4.set h2.length o' = h5 at *
    refine w_some rfl (c_t ?_)
    refine w_some hent (w_some rfl ?_)
    refine n_var rfl rfl rfl fun h6 x6 l6 g6 => ?_
    refine w_nilc (w_offP (w_offP (w_rdP (x6.some (y1.some hr)) (v := V.vo) rfl ?_)))
    refine w_len b.opens ?_
    refine loopE_intro (fun n e' h' => ∃ j : Nat, j ≤ st.m.opens.length ∧ n = st.m.opens.length - j ∧ e' 0 = .pointer (some ⟨f, 0, none⟩) ∧ e' 1 = .int .i64 k ∧ e' 4 = .pointer (some ⟨h1.length, 0, none⟩) ∧ e' 16 = .pointer (some ⟨h2.length, 0, none⟩) ∧
      e' 5 = .pointer (some ⟨h5.length, 0, none⟩) ∧ e' 25 = V.vo ∧ e' 26 = .int .i64 st.m.opens.length ∧ e' 27 = .int .i64 j ∧
      Ex h h' ∧ h5.length < h'.length ∧ h'[h1.length]? = some (.row [.map (some h.length), .int .i64 k] true) ∧ h'[h5.length]? = some (.row (cellsL (eP p)) true) ∧
      SetP h' h.length (fun q => openRow st.m D k q ∨ q.1 = q.2 ∧ ∃ o ∈ st.m.opens.take j, o.1 = p.2 ∧ o.2.1 = k ∧ o.2.2.1 = q.1) ∧ IterM eP one1 h' h2.length V.mi st.now.row (fun y => D y ∨ y = p) m') st.m.opens.length
      ⟨0, Nat.zero_le _, rfl, e0, e1, e4, e20, rfl, rfl, rfl, rfl, y1.trans x6, by omega, x6.some yb, g6, (ys.ex x6).congr (fun q => by simp), hit'.keep (x6.get _ (by have := y1.len; omega)) (x6.get _ yl)⟩ ?_
    rintro I1 n e' h7 ⟨j, hj, hn, f0, f1, f4, f20, f5, f29, f30, f31, zx, zl, zb, zp, zs, zi⟩ hI1
    rw [f29, f30, f31, f5, f4, f1]
    refine w_lss ?_
    refine c_dec (fun hc => ?_) (fun hc => ?_)
    · obtain ⟨t, ht⟩ := getElem?_of_lt (l := st.m.opens) (i := j) (by omega)
      refine w_idxN e4_len (b.opens.ex zx) ht fun q hq => ?_
      refine w_rdA hq rfl ?_
      refine n_var rfl rfl rfl fun h8 x8 l8 g8 => ?_
      refine w_offP (w_rdP g8 (v := .int .i64 t.1) rfl ?_)
      refine w_offP (w_rdP (x8.some zp) (v := .int .i64 p.2) rfl ?_)
      refine w_eql ?_
      have next : ∀ h9 v45 e9, Ex h h9 → h5.length < h9.length → h9[h1.length]? = some (.row [.map (some h.length), .int .i64 k] true) → h9[h5.length]? = some (.row (cellsL (eP p)) true) →
          SetP h9 h.length (fun q => openRow st.m D k q ∨ q.1 = q.2 ∧ ∃ o ∈ st.m.opens.take (j + 1), o.1 = p.2 ∧ o.2.1 = k ∧ o.2.2.1 = q.1) → IterM eP one1 h9 h2.length V.mi st.now.row (fun y => D y ∨ y = p) m' →
          e9 0 = .pointer (some ⟨f, 0, none⟩) → e9 1 = .int .i64 k → e9 4 = .pointer (some ⟨h1.length, 0, none⟩) → e9 16 = .pointer (some ⟨h2.length, 0, none⟩) → e9 5 = .pointer (some ⟨h5.length, 0, none⟩) → e9 25 = V.vo → e9 26 = .int .i64 st.m.opens.length → v45 = .int .i64 ((j + 1 : Nat) : Int) → e9 27 = v45 → I1 e9 h9 :=
        fun h9 v45 e9 a1 a2 a3 a4 a5 a6 b0 b1 b4 b20 b5 b29 b30 bv b31 => hI1 (n - 1) _ _ (by omega) ⟨j + 1, by omega, by omega, b0, b1, b4, b20, b5, b29, b30, b31.trans bv, a1, a2, a3, a4, a5, a6⟩
      have zi8 : IterM eP one1 h8 h2.length V.mi st.now.row (fun y => D y ∨ y = p) m' := zi.keep (x8.get _ (by have := zx.len; omega)) (x8.get _ (by omega))
      by_cases q1 : t.1 = p.2
      · refine g_tt q1 (w_offP ?_)
        refine g_tt q1 (w_rdP g8 (v := .int .i64 t.2.1) rfl ?_)
        refine g_tt q1 ?_
        refine g_tt q1 (w_eql ?_)
        refine pk_tt q1 ?_
        refine c_dec (fun q2 => ?_) (fun q2 => ?_)
        · refine w_offP (w_rdP (x8.some zb) (v := .map (some h.length)) rfl ?_)
          refine w_offP (w_rdP g8 (v := .int .i64 t.2.2.1) rfl ?_)
          refine w_offP (w_rdP g8 (v := .int .i64 t.2.2.1) rfl ?_)
          refine w_some rfl ?_
          refine set_put (enc := eP) (one := one1) (x := (t.2.2.1, t.2.2.1)) Try.underlying88 keyP (zs.ex x8) fun o8 zs8 => ?_
          (repeat' (first | (with_reducible refine w_lss ?_) | (with_reducible refine w_leq ?_) | (with_reducible refine w_gtr ?_) | (with_reducible refine w_geq ?_) | (with_reducible refine w_eql ?_) | (with_reducible refine w_neq ?_) | (with_reducible refine w_lenSl ?_) | (with_reducible refine w_lenStr ?_) | (with_reducible refine w_not ?_) | (with_reducible refine w_add (by omega) (by omega) ?_) | (with_reducible refine w_sub (by omega) (by omega) ?_) | (with_reducible refine w_rem (by omega) (by omega) ?_) | (with_reducible refine w_quo (by omega) (by omega) (by omega) ?_) | (with_reducible refine w_seql ?_) | (with_reducible refine w_sneq ?_) | (with_reducible refine c_t ?_) | (with_reducible refine c_f ?_) | (with_reducible refine c_tt (by first | assumption | omega) ?_) | (with_reducible refine c_ff (by first | assumption | omega) ?_) | (with_reducible refine c_dec (fun hc => ?_) (fun hc => ?_)) | (with_reducible refine c_b (fun hc => ?_) (fun hc => ?_)) | (with_reducible refine gc_tt ?_) | (with_reducible refine gc_ft ?_) | (with_reducible refine gc_tf ?_) | (with_reducible refine gc_ff ?_) | (with_reducible refine g_tt (by first | assumption | omega) ?_) | (with_reducible refine g_tf (by first | assumption | omega) ?_) | (with_reducible refine g_ft (by first | assumption | omega) ?_) | (with_reducible refine g_ff (by first | assumption | omega) ?_) | (with_reducible refine g_dec (fun hc => ?_) (fun hc => ?_)) | (with_reducible refine g_decf (fun hc => ?_) (fun hc => ?_)) | (with_reducible refine pk_t ?_) | (with_reducible refine pk_f ?_) | (with_reducible refine pk_tt (by first | assumption | omega) ?_) | (with_reducible refine pk_ff (by first | assumption | omega) ?_)))
          refine next _ _ _ ((zx.trans x8).set (Nat.le_refl _) _) (by simp; omega) (by rw [get_ne (by omega)]; exact x8.some zb) (by rw [get_ne (by have := y1.len; omega)]; exact x8.some zp) (zs8.congr fun q => ?_)
            (zi8.keep (get_ne (by omega) _) (get_ne (by omega) _)) f0 f1 f4 f20 f5 f29 f30 rfl rfl
          rw [ex_take_succ ht]
          obtain ⟨qa, qb⟩ := q
          simp only [q1, q2, true_and, Prod.mk.injEq]
          grind
        · (repeat' (first | (with_reducible refine w_lss ?_) | (with_reducible refine w_leq ?_) | (with_reducible refine w_gtr ?_) | (with_reducible refine w_geq ?_) | (with_reducible refine w_eql ?_) | (with_reducible refine w_neq ?_) | (with_reducible refine w_lenSl ?_) | (with_reducible refine w_lenStr ?_) | (with_reducible refine w_not ?_) | (with_reducible refine w_add (by omega) (by omega) ?_) | (with_reducible refine w_sub (by omega) (by omega) ?_) | (with_reducible refine w_rem (by omega) (by omega) ?_) | (with_reducible refine w_quo (by omega) (by omega) (by omega) ?_) | (with_reducible refine w_seql ?_) | (with_reducible refine w_sneq ?_) | (with_reducible refine c_t ?_) | (with_reducible refine c_f ?_) | (with_reducible refine c_tt (by first | assumption | omega) ?_) | (with_reducible refine c_ff (by first | assumption | omega) ?_) | (with_reducible refine c_dec (fun hc => ?_) (fun hc => ?_)) | (with_reducible refine c_b (fun hc => ?_) (fun hc => ?_)) | (with_reducible refine gc_tt ?_) | (with_reducible refine gc_ft ?_) | (with_reducible refine gc_tf ?_) | (with_reducible refine gc_ff ?_) | (with_reducible refine g_tt (by first | assumption | omega) ?_) | (with_reducible refine g_tf (by first | assumption | omega) ?_) | (with_reducible refine g_ft (by first | assumption | omega) ?_) | (with_reducible refine g_ff (by first | assumption | omega) ?_) | (with_reducible refine g_dec (fun hc => ?_) (fun hc => ?_)) | (with_reducible refine g_decf (fun hc => ?_) (fun hc => ?_)) | (with_reducible refine pk_t ?_) | (with_reducible refine pk_f ?_) | (with_reducible refine pk_tt (by first | assumption | omega) ?_) | (with_reducible refine pk_ff (by first | assumption | omega) ?_)))
          refine next _ _ _ (zx.trans x8) (by have := x8.len; omega) (x8.some zb) (x8.some zp) ((zs.ex x8).congr fun q => ?_) zi8 f0 f1 f4 f20 f5 f29 f30 rfl rfl
          rw [ex_take_succ ht]
          simp only [q2, false_and, and_false, or_false]
      · refine g_tf q1 ?_
        refine g_tf q1 ?_
        refine g_tf q1 ?_
        refine g_tf q1 ?_
        refine pk_ff q1 (c_f ?_)
        (repeat' (first | (with_reducible refine w_lss ?_) | (with_reducible refine w_leq ?_) | (with_reducible refine w_gtr ?_) | (with_reducible refine w_geq ?_) | (with_reducible refine w_eql ?_) | (with_reducible refine w_neq ?_) | (with_reducible refine w_lenSl ?_) | (with_reducible refine w_lenStr ?_) | (with_reducible refine w_not ?_) | (with_reducible refine w_add (by omega) (by omega) ?_) | (with_reducible refine w_sub (by omega) (by omega) ?_) | (with_reducible refine w_rem (by omega) (by omega) ?_) | (with_reducible refine w_quo (by omega) (by omega) (by omega) ?_) | (with_reducible refine w_seql ?_) | (with_reducible refine w_sneq ?_) | (with_reducible refine c_t ?_) | (with_reducible refine c_f ?_) | (with_reducible refine c_tt (by first | assumption | omega) ?_) | (with_reducible refine c_ff (by first | assumption | omega) ?_) | (with_reducible refine c_dec (fun hc => ?_) (fun hc => ?_)) | (with_reducible refine c_b (fun hc => ?_) (fun hc => ?_)) | (with_reducible refine gc_tt ?_) | (with_reducible refine gc_ft ?_) | (with_reducible refine gc_tf ?_) | (with_reducible refine gc_ff ?_) | (with_reducible refine g_tt (by first | assumption | omega) ?_) | (with_reducible refine g_tf (by first | assumption | omega) ?_) | (with_reducible refine g_ft (by first | assumption | omega) ?_) | (with_reducible refine g_ff (by first | assumption | omega) ?_) | (with_reducible refine g_dec (fun hc => ?_) (fun hc => ?_)) | (with_reducible refine g_decf (fun hc => ?_) (fun hc => ?_)) | (with_reducible refine pk_t ?_) | (with_reducible refine pk_f ?_) | (with_reducible refine pk_tt (by first | assumption | omega) ?_) | (with_reducible refine pk_ff (by first | assumption | omega) ?_)))
        refine next _ _ _ (zx.trans x8) (by have := x8.len; omega) (x8.some zb) (x8.some zp) ((zs.ex x8).congr fun q => ?_) zi8 f0 f1 f4 f20 f5 f29 f30 rfl rfl
        rw [ex_take_succ ht]
        simp only [q1, false_and, or_false]
    · have hje : j = st.m.opens.length := by omega
      subst hje
      rw [List.take_length] at zs
      exact hI m' _ _ hm' ⟨_, f0, f1, f4, f20, zx, by omega, zb, zs.congr fun q => openRow_grow, zi⟩
  · refine w_some rfl (c_f ?_)
    have hlt := lt_of_get hr
    refine w_nilc (w_offP ?_)
    refine w_rdP ((Ex.res h4).some (hx.some hr)) (v := V.vu) rfl ?_
    refine w_nilc (w_offP ?_)
    refine w_rdPA ((Ex.res h4).some (hx.some hr)) (by simp [rowOf]) ?_
    refine w_some (bldSl_one rfl (by decide) rfl rfl) ?_
    refine n_slot ?_
    rw [reserve_set]
    have b1 := newnow (i := h.length) (R := openRow st.m st.now.row k) (by' := k) b hx (Nat.le_refl _) (hset.congr fun q => openRow_congr hall)
    have nmi : ¬ wIds f { V with mi := h.length } V.mi := fun h => b.sep _ h (.inr (.inr (.inr (.inr (.inr (.inr (.inl rfl)))))))
    have hlast : (h4 ++ [AObj.row (cellsL (.agg (((rowOf V st).drop (0 + 7)).take 2).toArray)) true])[h4.length]? = some (.row (eL (V.mi, st.now.bys)) true) := get_new _ _
    have x9 : Ex h4 (h4 ++ [AObj.row (cellsL (.agg (((rowOf V st).drop (0 + 7)).take 2).toArray)) true]) := .app _ _
    have l9 : (h4 ++ [AObj.row (cellsL (.agg (((rowOf V st).drop (0 + 7)).take 2).toArray)) true]).length = h4.length + 1 := by simp
    generalize h4 ++ [AObj.row (cellsL (.agg (((rowOf V st).drop (0 + 7)).take 2).toArray)) true] = h9 at *
    have b9 := b1.same (h' := h9) x9.len (fun j hj => x9.get j (b1.lt j (b1.rF j hj))) (fun j hj => x9.get j (b1.lt j (by
      rcases hj with h | h | h
      · exact (b1.s.on h).1
      · exact (b1.word.on h).1
      · exact (b1.under.on h).1)))
    refine appSl_of (app_g (by decide) b9.under (srcL_new hlast (by decide) rfl) rfl (by show V.ul.length + 1 < room40; omega) ?_)
    intro v' h10 o1 o2 o3 o4
    have hbx : h10[h1.length]? = h9[h1.length]? := o3 _ (by omega) fun hh => by
      have := b.lt _ (b.under.on hh).1
      omega
    refine ⟨fun x hxx => ?_, fun x hxx => ?_, ?_⟩
    · have : x = h1.length := by simpa [idOf] using hxx
      rw [this]; exact hbx.symm
    · have : x = h1.length := by simpa [idOf] using hxx
      rw [this, (Ex.res h4).get _ (by omega), x9.get _ (by omega)]
    refine w_rdPA (hbx.trans (x9.some hbox)) (Nat.le_refl 2) ?_
    have hf10 : h10[f]? = some (.row (rowOf V st) true) := (o3 _ (by have := hx.lt hlt; omega) b9.sf.2.2).trans (x9.some (hx.some hr))
    refine w_nilc (w_offP ?_)
    obtain ⟨va, vcap, rfl⟩ := o1.sl.shape
    refine w_stP hf10 (by simp [rowOf]) rfl rfl ?_
    have hfl := lt_of_get hf10
    refine ⟨fun x hxx => ?_, ?_⟩
    · have : x = h1.length := by simpa [idOf] using hxx
      rw [this, get_ne (by omega)]
    refine w_nilc (w_offP ?_)
    refine w_stPA (get_set _ hfl _) rfl (by simp [rowOf]) rfl ?_
    have F10 : ∀ j, (fun j => (F j ∨ j = h.length) ∨ j = h9.length) j → j < h10.length ∨ j = h9.length := fun j hj => hj.imp (fun h => by have := b9.lt j h; omega) id
    have bb := newunder (F' := fun j => ((F j ∨ j = h.length) ∨ j = h9.length) ∧ j < h10.length) (R0 := st.now.row) (mi0 := V.mi) (by0 := st.now.bys) b9 o2 (fun j hj hn => o3 j (b9.lt j hj) hn)
      (o1.mono (fun j hj hF => ⟨hF, (o1.on hj).2⟩) fun _ _ _ => rfl) (fun j hj => (o4 j hj).imp id fun e => Nat.le_of_eq e.symm) (fun j hj => ⟨.inl hj, by have := b9.lt j hj; omega⟩) (fun j hj => hj.2)
      (((b.now.ex hx).ex x9).same (o3 _ (by have := hx.lt hmi; omega) fun hh => b.sep _ (.inr (.inr (.inr hh))) (.inr (.inr (.inr (.inr (.inr (.inr (.inl rfl)))))))))
      (.inl (b.rF _ (.inr (.inr (.inr (.inr (.inr (.inr (.inl rfl))))))))) nmi
    refine kk _ _ ⟨_, ?_, (bb.setf _).setf _⟩ ⟨by simp; have := hx.len; omega, fun j hj hF => ?_, fun j hj => ?_⟩
    · rw [get_set _ (by simpa using hfl)]
      rfl
    · have hjf : f ≠ j := fun e => hF (by rw [← e]; exact b.ff)
      rw [get_ne hjf, get_ne hjf, o3 j (by have := hx.len; omega) fun hh => hF (b.under.on hh).1, x9.get j (by have := hx.len; omega)]
      exact hx.get j hj
    · rcases hj.1 with (h | rfl) | rfl
      · exact .inl h
      · exact .inr (Nat.le_refl _)
      · exact .inr (by have := hx.len; omega)
end Go.Proofs.Ytebbjimmgblcpaa.W
end

section
/- The feed's machine goes on by a symbol that closes. Conditions: none. -/
namespace Go.Proofs.Ytebbjimmgblcpaa.W
open Go Go.AM FeedM
set_option linter.unusedVariables false
set_option maxRecDepth 100000

def eInt (a : Int) : Value := .int .i64 a
theorem keyI0 (a b : Int) : keyEq Try.prog 3 (eInt a) (eInt b) = some (a == b) := by kernel_rfl
theorem keyI : KeyOK Try.prog 3 eInt := by
  intro a b
  rw [keyI0]
  by_cases h : a = b <;> simp [h]
theorem zero22 : zeroV Try.prog 22 = some (.slice none 0 0) := by kernel_rfl

/-- the map of ends: of each state since the opening symbol where it may be now. -/
def EndsM (h : AH) (id b : Nat) (D : Row) : Prop := ∃ (l : List (MEnt Int)) (ck : Nat), h[id]? = some (.map (encE eInt l) ck) ∧ (l.Pairwise fun t u => t.1 ≠ u.1) ∧
  (∀ t ∈ l, ∃ lb : List Int, OwnG 1 (fun j => b < j) h t.2.1 lb.length (flat eI lb) ∧ lb.Nodup ∧ ∀ x, x ∈ lb ↔ D (t.1, x)) ∧ (∀ a x, D (a, x) → ∃ t ∈ l, t.1 = a) ∧ (∀ t ∈ l, ∀ u ∈ l, ∀ j, onId t.2.1 j → onId u.2.1 j → t.1 = u.1)

theorem EndsM.ex {h h' : AH} {id b : Nat} {D : Row} (he : EndsM h id b D) (x : Ex h h') : EndsM h' id b D := by
  obtain ⟨l, ck, h1, h2, h3, h4⟩ := he
  refine ⟨l, ck, x.some h1, h2, fun t ht => ?_, h4⟩
  obtain ⟨lb, q1, q2⟩ := h3 t ht
  exact ⟨lb, q1.mono (fun _ _ h => h) fun j hj _ => x.get j (q1.on hj).2, q2⟩
theorem EndsM.keep {h h' : AH} {id b : Nat} {D : Row} (he : EndsM h id b D) (h0 : h'[id]? = h[id]?) (hh : ∀ j, b < j → j < h.length → h'[j]? = h[j]?) : EndsM h' id b D := by
  obtain ⟨l, ck, h1, h2, h3, h4⟩ := he
  refine ⟨l, ck, h0.trans h1, h2, fun t ht => ?_, h4⟩
  obtain ⟨lb, q1, q2⟩ := h3 t ht
  exact ⟨lb, q1.mono (fun _ _ h => h) fun j hj hF => hh j hF (q1.on hj).2, q2⟩
theorem EndsM.congr {h : AH} {id b : Nat} {D E : Row} (he : EndsM h id b D) (hDE : ∀ x, E x ↔ D x) : EndsM h id b E := by
  have : E = D := funext fun x => propext (hDE x)
  rw [this]; exact he

/-- what is found of a state. -/
theorem ends_look {h h0 : AH} {id b : Nat} {D : Row} {a : Int} {K : Value → Prop} (he : EndsM h0 id b D) (x : Ex h0 h) (k : ∀ v lb, OwnG 1 (fun j => b < j) h0 v lb.length (flat eI lb) → lb.Nodup → (∀ x, x ∈ lb ↔ D (a, x)) → K v) :
    optW (pLookup Try.prog 125 (.map (some id)) (.int .i64 a) false h) K := by
  obtain ⟨l, ck, h1, h2, h3, h4, h5⟩ := he
  refine lookup_rule (enc := eInt) (x := a) Try.underlying125 zero22 keyI (x.some h1) (fun t ht hta => ?_) (fun hno => ?_)
  · obtain ⟨lb, q1, q2, q3⟩ := h3 t ht
    subst hta
    exact k _ lb q1 q2 q3
  · refine k _ [] (OwnG.nil _ _ _) List.nodup_nil fun x => ?_
    constructor
    · intro hx; cases hx
    · intro hx
      obtain ⟨t, ht, e⟩ := h4 a x hx
      exact absurd e (hno t ht)

/-- one more end of a state, laid back. -/
theorem ends_put {h h1 : AH} {id b : Nat} {l : List (MEnt Int)} {ck : Nat} {D : Row} {a z : Int} {v v' : Value} {lb : List Int} {K : AH → Prop} (g1 : h[id]? = some (.map (encE eInt l) ck)) (g2 : l.Pairwise fun t u => t.1 ≠ u.1)
    (g3 : ∀ t ∈ l, ∃ lb : List Int, OwnG 1 (fun j => b < j) h t.2.1 lb.length (flat eI lb) ∧ lb.Nodup ∧ ∀ x, x ∈ lb ↔ D (t.1, x)) (g4 : ∀ a x, D (a, x) → ∃ t ∈ l, t.1 = a) (g5 : ∀ t ∈ l, ∀ u ∈ l, ∀ j, onId t.2.1 j → onId u.2.1 j → t.1 = u.1)
    (hv : (∃ t ∈ l, t.1 = a ∧ t.2.1 = v) ∨ v = .slice none 0 0 ∧ ∀ t ∈ l, t.1 ≠ a) (hn : lb.Nodup) (hlb : ∀ x, x ∈ lb ↔ D (a, x)) (hnz : ¬ D (a, z)) (hib : id ≤ b)
    (ho : OwnG 1 (fun j => b < j) h1 v' (lb.length + 1) (flat eI lb ++ eI z)) (hf : ∀ j, j < h.length → ¬ onId v j → h1[j]? = h[j]?) (hid : ∀ j, onId v' j → onId v j ∨ h.length ≤ j)
    (k : ∀ o, EndsM (h1.set id o) id b (fun q => D q ∨ q = (a, z)) → K (h1.set id o)) : optW (pMapUpd Try.prog 125 (.map (some id)) (.int .i64 a) v' h1) K := by
  have hvb : ∀ j, onId v j → b < j ∧ j < h.length := by
    intro j hj
    rcases hv with ⟨t, ht, _, rfl⟩ | ⟨rfl, _⟩
    · obtain ⟨lb', q1, _⟩ := g3 t ht
      exact q1.on hj
    · exact hj.elim
  have hidl := lt_of_get g1
  have g1' : h1[id]? = some (.map (encE eInt l) ck) := by
    rw [hf id hidl fun hh => by have := (hvb id hh).1; omega]
    exact g1
  have hother : ∀ t ∈ l, t.1 ≠ a → ∀ j, onId t.2.1 j → ¬ onId v j := by
    intro t ht hta j hj hvj
    rcases hv with ⟨u, hu, hua, rfl⟩ | ⟨rfl, _⟩
    · exact hta ((g5 t ht u hu j hj hvj).trans hua)
    · exact hvj
  refine upd_rule (enc := eInt) (x := a) Try.underlying125 keyI g1' g2 fun l' ck' k1 k2 k3 k4 => k _ ⟨l', ck', get_set _ (lt_of_get g1') _, k4, fun t ht => ?_, fun a' x hx => ?_, fun t ht u hu j hjt hju => ?_⟩
  · rcases k1 t ht with ⟨e1, e2⟩ | ⟨htl, hta⟩
    · refine ⟨lb ++ [z], ?_, ?_, fun x => ?_⟩
      · rw [e2, List.length_append, flat_append]
        have : flat eI [z] = eI z := rfl
        rw [this]
        exact ho.mono (fun _ _ h => h) fun j hj hF => get_ne (by have : b < j := hF; omega) _
      · rw [List.nodup_append]
        refine ⟨hn, by simp, fun x hx y hy => ?_⟩
        rw [List.mem_singleton.1 hy]
        rintro rfl
        exact hnz ((hlb _).1 hx)
      · rw [e1]
        simp only [List.mem_append, List.mem_singleton, hlb, Prod.mk.injEq, true_and]
    · obtain ⟨lb', q1, q2, q3⟩ := g3 t htl
      refine ⟨lb', q1.mono (fun _ _ h => h) fun j hj hF => ?_, q2, fun x => ?_⟩
      · have hbj : b < j := hF
        rw [get_ne (by omega)]
        exact hf j (q1.on hj).2 (hother t htl hta j hj)
      · rw [q3]
        constructor
        · exact .inl
        · rintro (h | h)
          · exact h
          · cases h; exact absurd rfl hta
  · rcases hx with hx | hx
    · obtain ⟨t, ht, e⟩ := g4 a' x hx
      by_cases hta : t.1 = a
      · obtain ⟨u, hu, hua, _⟩ := k2
        exact ⟨u, hu, hua.trans (hta.symm.trans e)⟩
      · exact ⟨t, k3 t ht hta, e⟩
    · cases hx
      obtain ⟨u, hu, hua, _⟩ := k2
      exact ⟨u, hu, hua⟩
  · rcases k1 t ht with ⟨e1, e2⟩ | ⟨htl, hta⟩ <;> rcases k1 u hu with ⟨f1, f2⟩ | ⟨hul, hua⟩
    · rw [e1, f1]
    · exfalso
      rw [e2] at hjt
      obtain ⟨lb', q1, _⟩ := g3 u hul
      rcases hid j hjt with h | h
      · exact hother u hul hua j hju h
      · have := (q1.on hju).2; omega
    · exfalso
      rw [f2] at hju
      obtain ⟨lb', q1, _⟩ := g3 t htl
      rcases hid j hju with h | h
      · exact hother t htl hta j hjt h
      · have := (q1.on hjt).2; omega
    · exact g5 t htl u hul j hjt hju

end Go.Proofs.Ytebbjimmgblcpaa.W
end

section
/- The feed's machine goes on by a symbol that closes: the walk. Conditions: none. -/
namespace Go.Proofs.Ytebbjimmgblcpaa.W
open Go Go.AM FeedM
set_option linter.unusedVariables false
set_option maxRecDepth 100000

theorem Lvs.unsnoc {h : AH} : ∀ {l : List (Nat × Int)} {m : List Lv} {a : Nat × Int} {c : Lv}, Lvs h (l ++ [a]) (m ++ [c]) → Lvs h l m ∧ a.2 = c.bys ∧ SetP h a.1 c.row
  | [], [], a, c, ⟨h1, h2, _⟩ => ⟨trivial, h1, h2⟩
  | [], x :: m, a, c, ⟨_, _, h3⟩ => by
    have := lvs_length h3
    simp at this
  | y :: l, [], a, c, ⟨_, _, h3⟩ => by
    have := lvs_length h3
    simp at this
  | y :: l, x :: m, a, c, ⟨h1, h2, h3⟩ => by
    obtain ⟨q1, q2⟩ := Lvs.unsnoc h3
    exact ⟨⟨h1, h2, q1⟩, q2⟩

theorem popunder {h : AH} {f : Nat} {V : FV} {st : FS} {F : Nat → Prop} {v' : Value} {ul' : List (Nat × Int)} {x : Nat × Int} {us : List Lv} {u : Lv} (b : FRB h f V st F) (e1 : V.ul = ul' ++ [x]) (e2 : st.under = us ++ [u]) (ou : OwnG 2 F h v' ul'.length (flat eL ul')) (hid : ∀ j, onId v' j → onId V.vu j) :
    FRB h f { V with vu := v', ul := ul' } { st with under := us } F := by
  have hl := b.lvs
  rw [e1, e2] at hl
  have old : ∀ j, rIds { V with vu := v', ul := ul' } j → rIds V j := by
    intro j hj
    rcases hj with h | h | h | h | h | h | h | h
    · exact .inl h
    · exact .inr (.inl h)
    · exact .inr (.inr (.inl h))
    · exact .inr (.inr (.inr (.inl h)))
    · exact .inr (.inr (.inr (.inr (.inl h))))
    · exact .inr (.inr (.inr (.inr (.inr (.inl h)))))
    · exact .inr (.inr (.inr (.inr (.inr (.inr (.inl h))))))
    · refine .inr (.inr (.inr (.inr (.inr (.inr (.inr ?_))))))
      rw [e1, List.map_append, List.mem_append]
      exact .inl h
  have oldw : ∀ j, wIds f { V with vu := v', ul := ul' } j → wIds f V j := by
    intro j hj
    rcases hj with h | h | h | h
    · exact .inl h
    · exact .inr (.inl h)
    · exact .inr (.inr (.inl h))
    · exact .inr (.inr (.inr (hid j h)))
  exact { init := b.init, final := b.final, opens := b.opens, closes := b.closes, inners := b.inners, now := b.now, under := ou, lvs := (Lvs.unsnoc hl).1, s := b.s, l := b.l, word := b.word, ff := b.ff
          rF := fun j hj => b.rF j (old j hj), lt := b.lt, sep := fun j hw hj => b.sep j (oldw j hw) (old j hj), sf := ⟨b.sf.1, b.sf.2.1, fun h => b.sf.2.2 (hid f h)⟩
          sw := fun j hj => ⟨(b.sw j hj).1, fun h => (b.sw j hj).2 (hid j h)⟩, wu := fun j hj h => b.wu j hj (hid j h) }

/-- what one open rule brings. -/
def bring (m : Mach) (now : Row) (k : Int) (t : Int × Int × Int × Int) (q : Int × Int) (cl : List (Int × Int × Int × Int)) : Prop := ∃ c ∈ cl, c.2.1 = k ∧ c.2.2.1 = t.2.2.2 ∧ now (t.2.2.1, c.1) ∧ c.2.2.2 = q.2
theorem closeRow_grow {m : Mach} {D now : Row} {p : Int × Int} {bys k : Int} {q : Int × Int} : closeRow m (fun y => D y ∨ y = p) now bys k q ↔ closeRow m D now bys k q ∨ p.1 = q.1 ∧ ∃ o ∈ m.opens, o.1 = p.2 ∧ o.2.1 = bys ∧ bring m now k o q m.closes := by
  unfold closeRow bring
  obtain ⟨p1, p2⟩ := p
  constructor
  · rintro ⟨b, h | h, o, ho, h1, h2⟩
    · exact .inl ⟨b, h, o, ho, h1, h2⟩
    · cases h
      exact .inr ⟨rfl, o, ho, h1, h2⟩
  · rintro (⟨b, h, o, ho, h1, h2⟩ | ⟨h, o, ho, h1, h2⟩)
    · exact ⟨b, .inl h, o, ho, h1, h2⟩
    · exact ⟨p2, .inr (by simp only at h; rw [← h]), o, ho, h1, h2⟩
theorem closeRow_congr {m : Mach} {S D now : Row} {bys k : Int} (h : ∀ x, S x ↔ D x) {q : Int × Int} : closeRow m S now bys k q ↔ closeRow m D now bys k q := by
  have : S = D := funext fun x => propext (h x)
  rw [this]

theorem list_last {α : Type} (l : List α) (h : l ≠ []) : ∃ a x, l = a ++ [x] := ⟨l.dropLast, l.getLast h, (List.dropLast_concat_getLast h).symm⟩

theorem close71 {h : AH} {f : Nat} {st : FS} {F : Nat → Prop} {k : Int} {U : List Int} {K : Value → AH → Prop} (r : FR h f st F) (hb1 : st.m.opens.length < room40) (hb2 : st.m.closes.length < room40) (hb3 : st.under.length < room40) (hU : ∀ p, st.now.row p → p.2 ∈ U) (hUl : U.length + 2 < room40)
    (kk : ∀ h' F', FR h' f (closedBy st k) F' → Chg F h F' h' → K (.tuple #[]) h') : callW Try.prog 71 [.pointer (some ⟨f, 0, none⟩), .int .i64 k] h K := by
  have r0 := r
  obtain ⟨V, hr, b⟩ := r
  have hul := lvs_length b.lvs
  refine c71 ?_
  unfold s71
  refine w_nilc (w_offP (w_rdP hr (v := V.vu) rfl ?_))
  refine w_len b.under.sl ?_
  refine w_eql ?_
  refine c_dec (fun hc => ?_) (fun hc => ?_)
  · refine lowest75 r0 hb2 fun h' F' r' c' => kk h' F' ?_ c'
    have he : st.under = [] := List.eq_nil_of_length_eq_zero (by omega)
    have e2 : closedBy st k = { st with now := ⟨lowRow st.m st.now.row k, st.now.bys⟩ } := by
      unfold closedBy
      simp [he]
    rw [e2]
    exact r'
  obtain ⟨us, u, hus⟩ := list_last st.under (fun e => by rw [e] at hul; exact hc (by rw [hul]; rfl))
  obtain ⟨ul', x, hux⟩ := list_last V.ul (fun e => by rw [e] at hc; simp at hc)
  have hlen : V.ul.length = ul'.length + 1 := by rw [hux]; simp
  have hlv := b.lvs
  rw [hux, hus] at hlv
  obtain ⟨_, hbx, hsx⟩ := Lvs.unsnoc hlv
  unfold room40 at hb1 hb2 hb3 hUl
  have hlt := lt_of_get hr
  refine w_nilc (w_offP (w_rdP ((Ex.res h).some hr) (v := V.vu) rfl ?_))
  refine w_nilc (w_offP (w_rdP ((Ex.res h).some hr) (v := V.vu) rfl ?_))
  refine w_len b.under.sl ?_
  refine w_sub (by omega) (by omega) ?_
  have e0 : ((V.ul.length : Nat) : Int) - 1 = ((ul'.length : Nat) : Int) := by omega
  rw [e0]
  have hat : V.ul[ul'.length]? = some x := by rw [hux]; simp
  refine w_idxN (enc := eL) eL_len (b.under.sl.ex (Ex.res h)) hat fun p hp => ?_
  refine w_rdA hp rfl ?_
  refine n_varS rfl rfl rfl fun h3 x3 l3 g3 => ?_
  refine w_nilc (w_offP (w_rdP (x3.some hr) (v := V.vu) rfl ?_))
  refine w_nilc (w_offP (w_rdP (x3.some hr) (v := V.vu) rfl ?_))
  refine w_len b.under.sl ?_
  refine w_sub (by omega) (by omega) ?_
  rw [e0]
  have b3 := b.same (h' := h3) x3.len (fun j hj => x3.get j (b.lt j (b.rF j hj))) (fun j hj => x3.get j (b.lt j (by
    rcases hj with h | h | h
    · exact (b.s.on h).1
    · exact (b.word.on h).1
    · exact (b.under.on h).1)))
  refine cut_g b3.under (by omega) fun v' ov hid => ?_
  refine w_nilc (w_offP ?_)
  obtain ⟨va, vcap, hve⟩ := ov.sl.shape
  have ov' : OwnG 2 F h3 v' ul'.length (flat eL ul') := by
    have : (flat eL V.ul).take (ul'.length * 2) = flat eL ul' := by
      rw [hux, flat_append, ← flat_length eL_len ul', List.take_left]
    rw [this] at ov
    exact ov
  have b3' := popunder b3 hux hus ov' hid
  subst hve
  refine w_stP (x3.some hr) (by simp [rowOf]) rfl rfl ?_
  have hr4 : (h3.set f (.row ((rowOf V st).set (0 + 9) (.slice va ul'.length vcap)) true))[f]? = some (.row (rowOf { V with vu := .slice va ul'.length vcap, ul := ul' } { st with under := us }) true) := by
    rw [get_set _ (x3.lt hlt)]
    rfl
  have b4 := b3'.setf (.row ((rowOf V st).set (0 + 9) (.slice va ul'.length vcap)) true)
  have g4 : (h3.set f (.row ((rowOf V st).set (0 + 9) (.slice va ul'.length vcap)) true))[h.length]? = some (.row (eL x) true) := by rw [get_ne (by omega)]; exact g3
  have l4 : (h3.set f (.row ((rowOf V st).set (0 + 9) (.slice va ul'.length vcap)) true)).length = h.length + 1 := by simp [l3]
  have sx4 : SetP (h3.set f (.row ((rowOf V st).set (0 + 9) (.slice va ul'.length vcap)) true)) x.1 u.row := (hsx.ex x3).same (get_ne (by
    rintro rfl
    exact b.sep _ (.inl rfl) (.inr (.inr (.inr (.inr (.inr (.inr (.inr (by rw [hux]; simp)))))))) ) _)
  have c4 : Chg F h F (h3.set f (.row ((rowOf V st).set (0 + 9) (.slice va ul'.length vcap)) true)) := ⟨by omega, fun j hj hF => by rw [get_ne (fun e => hF (by rw [← e]; exact b.ff))]; exact x3.get j hj, fun j hj => .inl hj⟩
  generalize h3.set f (.row ((rowOf V st).set (0 + 9) (.slice va ul'.length vcap)) true) = h4 at *
  generalize hV1 : ({ V with vu := .slice va ul'.length vcap, ul := ul' } : FV) = V1 at *
  have hst1 : closedBy st k = { st with under := us, now := ⟨closeRow st.m u.row st.now.row st.now.bys k, u.bys⟩ } := by
    unfold closedBy
    rw [hus]
    simp
  rw [hst1] at kk
  have hmiV : V1.mi = V.mi := by rw [← hV1]
  have hbys : Value.int .i64 ({ st with under := us } : FS).now.bys = .int .i64 st.now.bys := rfl
  have hlt4 := lt_of_get hr4
  refine n_map0 fun h5 x5 l5 g5 => ?_
  refine w_nilc (w_offP (w_offP (w_rdP (x5.some hr4) (v := .map (some V1.mi)) rfl ?_)))
  refine range_set Try.underlying88 (b4.now.ex x5) fun o m0 hi => ?_
  have x6 : Ex h5 (h5 ++ [o]) := .app _ _
  have l6 : (h5 ++ [o]).length = h5.length + 1 := by simp
  have he0 : EndsM (h5 ++ [o]) h4.length h5.length (fun _ => False) := ⟨[], 0, x6.some g5, List.Pairwise.nil, (fun t ht => by cases ht), (fun a x hx => hx.elim), fun t ht => by cases ht⟩
  generalize h5 ++ [o] = h6 at *
  refine loopE_intro (fun m e h' => ∃ D : Row, e 0 = .pointer (some ⟨f, 0, none⟩) ∧ e 1 = .int .i64 k ∧ e 4 = .pointer (some ⟨h.length, 0, none⟩) ∧ e 5 = .map (some h4.length) ∧ e 54 = .pointer (some ⟨h5.length, 0, none⟩) ∧
    Ex h4 h' ∧ h5.length < h'.length ∧ EndsM h' h4.length h5.length D ∧ (∀ q, D q → st.now.row q) ∧ IterM eP one1 h' h5.length V1.mi st.now.row D m) m0
    ⟨fun _ => False, rfl, rfl, rfl, rfl, rfl, x5.trans x6, by omega, he0, fun q hq => hq.elim, hi⟩ ?_
  rintro I m e h7 ⟨D, e0', e1, e4', e5, e54, hx, hrl, hE, hDS, hit⟩ hI
  rw [e54, e5, e4']
  have hmi : V1.mi < h4.length := b4.now.lt
  refine next_set hit (fun p o' m' hp hnd hm' hit' hent => ?_) (fun hall => ?_)
  · have y1 : Ex h4 (h7.set h5.length o') := hx.set (by omega) _
    have yE : EndsM (h7.set h5.length o') h4.length h5.length D := hE.keep (get_ne (by omega) _) (fun j hj _ => get_ne (by omega) _)
    have yl : h5.length < (h7.set h5.length o').length := by simpa using hrl
    generalize h7.set h5.length o' = h8 at *
    refine w_some rfl (c_t ?_)
    refine w_some hent (w_some rfl ?_)
    refine n_var rfl rfl rfl fun h9 x9 l9 g9 => ?_
    have g9r := (Ex.res h9).some g9
    refine w_offP (w_rdP g9r (v := .int .i64 p.1) rfl ?_)
    refine w_offP (w_rdP g9r (v := .int .i64 p.1) rfl ?_)
    obtain ⟨l, ck, q1, q2, q3, q4, q5⟩ := yE
    have q1' : (reserve 1 h9)[h4.length]? = some (.map (encE eInt l) ck) := (Ex.res h9).some (x9.some q1)
    have lk : optW (pLookup Try.prog 125 (.map (some h4.length)) (.int .i64 p.1) false (reserve 1 h9)) fun v => ∃ lb : List Int, ((∃ t ∈ l, t.1 = p.1 ∧ t.2.1 = v) ∨ v = .slice none 0 0 ∧ ∀ t ∈ l, t.1 ≠ p.1) ∧ OwnG 1 (fun j => h5.length < j) h8 v lb.length (flat eI lb) ∧ lb.Nodup ∧ ∀ x, x ∈ lb ↔ D (p.1, x) := by
      refine lookup_rule (enc := eInt) (x := p.1) Try.underlying125 zero22 keyI q1' (fun t ht hta => ?_) (fun hno => ?_)
      · obtain ⟨lb, w1, w2, w3⟩ := q3 t ht
        exact ⟨lb, .inl ⟨t, ht, hta, rfl⟩, w1, w2, by rw [← hta]; exact w3⟩
      · refine ⟨[], .inr ⟨rfl, hno⟩, OwnG.nil _ _ _, List.nodup_nil, fun x => ⟨fun hx => (by cases hx), fun hx => ?_⟩⟩
        obtain ⟨t, ht, e⟩ := q4 p.1 x hx
        exact absurd e (hno t ht)
    obtain ⟨v, hv0, lb, hv, ho, hn, hlb⟩ := optW_elim lk
    refine w_some hv0 ?_
    refine w_offP (w_rdP g9r (v := .int .i64 p.2) rfl ?_)
    refine w_some (bldSl_one rfl (by decide) rfl rfl) ?_
    refine n_slot ?_
    rw [reserve_set]
    have xa : Ex h9 (h9 ++ [AObj.row (cellsL (.int .i64 p.2)) true]) := .app _ _
    have la : (h9 ++ [AObj.row (cellsL (.int .i64 p.2)) true]).length = h9.length + 1 := by simp
    have ga : (h9 ++ [AObj.row (cellsL (.int .i64 p.2)) true])[h9.length]? = some (.row (eI p.2) true) := get_new _ _
    generalize h9 ++ [AObj.row (cellsL (.int .i64 p.2)) true] = h10 at *
    have hlbU : lb.length ≤ U.length := nodup_sub hn fun x hx => hU _ (hDS _ ((hlb x).1 hx))
    have on8 : ∀ j, onId v j → h5.length < j ∧ j < h8.length := fun j hj => ho.on hj
    refine appSl_of (app_g (by decide) (ho.mono (fun _ _ h => h) fun j hj _ => (xa.get j (by have := (on8 j hj).2; omega)).trans (x9.get j (on8 j hj).2)) (srcL_new ga (by decide) rfl) rfl (by unfold room40; omega) ?_)
    intro v69 h12 o1 o2 o3 o4
    refine ⟨fun x hxx => ?_, ?_⟩
    · have : x = h8.length := by simpa [idOf] using hxx
      rw [this, o3 _ (by omega) fun hh => by have := (on8 _ hh).2; omega]
    refine ends_put (h := h8) (D := D) (a := p.1) (z := p.2) (lb := lb) q1 q2 q3 q4 q5 hv hn hlb hnd (by omega) (o1.mono (fun j hj h => by
        rcases o4 j hj with h | h
        · exact (on8 j h).1
        · show h5.length < j
          omega) fun _ _ _ => rfl)
      (fun j hj hnv => by rw [o3 j (by omega) hnv, xa.get j (by omega), x9.get j hj]) (fun j hj => (o4 j hj).imp id fun e => by omega) fun o13 hE' => ?_
    have fr : ∀ j, j ≤ h5.length → j ≠ h4.length → (h12.set h4.length o13)[j]? = h8[j]? := fun j hj hne => by
      rw [get_ne (fun e => hne e.symm), o3 j (by omega) fun hh => by have := (on8 j hh).1; omega, xa.get j (by omega), x9.get j (by omega)]
    refine hI m' _ _ hm' ⟨fun y => D y ∨ y = p, e0', e1, e4', e5, e54, ⟨by simp; have := y1.len; omega, fun j hj => ?_⟩, by simp; omega, hE'.congr fun q => Iff.rfl, fun q hq => ?_, hit'.keep (fr _ (by omega) (by omega)) (fr _ (Nat.le_refl _) (by omega))⟩
    · rw [fr j (by omega) (by omega)]
      exact y1.get j hj
    · rcases hq with hq | rfl
      · exact hDS q hq
      · exact hp
  · have hEn : EndsM h7 h4.length h5.length st.now.row := hE.congr hall
    refine w_some rfl (c_f ?_)
    refine n_map0 fun h8 x8 l8 g8 => ?_
    have g48 : h8[h.length]? = some (.row (eL x) true) := x8.some (hx.some g4)
    refine w_offP (w_rdP g48 (v := .int .i64 x.2) rfl ?_)
    refine w_some rfl ?_
    refine n_var rfl rfl rfl fun h9 x9 l9 g9 => ?_
    refine w_offP (w_rdP (x9.some g48) (v := .map (some x.1)) rfl ?_)
    refine range_set Try.underlying88 (((sx4.ex hx).ex x8).ex x9) fun o m1 hi1 => ?_
    have x10 : Ex h9 (h9 ++ [o]) := .app _ _
    have l10 : (h9 ++ [o]).length = h9.length + 1 := by simp
    generalize h9 ++ [o] = h10 at *
    have hx1 : x.1 < h4.length := sx4.lt
    refine loopE_intro (fun m e h' => ∃ D : Row, e 0 = .pointer (some ⟨f, 0, none⟩) ∧ e 1 = .int .i64 k ∧ e 5 = .map (some h4.length) ∧ e 7 = .pointer (some ⟨h8.length, 0, none⟩) ∧ e 76 = .pointer (some ⟨h9.length, 0, none⟩) ∧
      Ex h7 h' ∧ h9.length < h'.length ∧ h'[h8.length]? = some (.row [.map (some h7.length), .int .i64 x.2] true) ∧ SetP h' h7.length (closeRow st.m D st.now.row st.now.bys k) ∧ IterM eP one1 h' h9.length x.1 u.row D m) m1
      ⟨fun _ => False, e0', e1, e5, rfl, rfl, (x8.trans x9).trans x10, by omega, x10.some g9, ((SetM.empty g8).ex (x9.trans x10)).congr (fun q => by simp [closeRow]), hi1⟩ ?_
    rintro I1 m2 e2 h11 ⟨D2, c0, c1, c5, c7, c76, zx, zl, zb, zs, zi⟩ hI1
    rw [c76, c0, c7]
    refine next_set zi (fun p o' m' hp hnd hm' hit' hent => ?_) (fun hall2 => ?_)
    · have y1 : Ex h7 (h11.set h9.length o') := zx.set (by omega) _
      have yb : (h11.set h9.length o')[h8.length]? = some (.row [.map (some h7.length), .int .i64 x.2] true) := by rw [get_ne (by omega)]; exact zb
      have ys : SetP (h11.set h9.length o') h7.length (closeRow st.m D2 st.now.row st.now.bys k) := zs.same (get_ne (by omega) _)
      have yl : h9.length < (h11.set h9.length o').length := by simpa using zl
      generalize h11.set h9.length o' = h12 at *
      refine w_some rfl (c_t ?_)
      refine w_some hent (w_some rfl ?_)
      refine n_var rfl rfl rfl fun h13 x13 l13 g13 => ?_
      have f13 : h13[f]? = some (.row (rowOf V1 { st with under := us }) true) := x13.some (y1.some (hx.some hr4))
      refine w_nilc (w_offP (w_offP (w_rdP f13 (v := V1.vo) rfl ?_)))
      refine w_len b4.opens ?_
      have x1lt : x.1 < h7.length := by have := hx.len; omega
      refine loopE_intro (fun n e' h' => ∃ j : Nat, j ≤ st.m.opens.length ∧ n = st.m.opens.length - j ∧ e' 0 = .pointer (some ⟨f, 0, none⟩) ∧ e' 1 = .int .i64 k ∧ e' 5 = .map (some h4.length) ∧ e' 7 = .pointer (some ⟨h8.length, 0, none⟩) ∧ e' 76 = .pointer (some ⟨h9.length, 0, none⟩) ∧
        e' 8 = .pointer (some ⟨h12.length, 0, none⟩) ∧ e' 85 = V1.vo ∧ e' 86 = .int .i64 st.m.opens.length ∧ e' 87 = .int .i64 j ∧
        Ex h7 h' ∧ h12.length < h'.length ∧ h'[h8.length]? = some (.row [.map (some h7.length), .int .i64 x.2] true) ∧ h'[h12.length]? = some (.row (cellsL (eP p)) true) ∧
        SetP h' h7.length (fun q => closeRow st.m D2 st.now.row st.now.bys k q ∨ p.1 = q.1 ∧ ∃ o ∈ st.m.opens.take j, o.1 = p.2 ∧ o.2.1 = st.now.bys ∧ bring st.m st.now.row k o q st.m.closes) ∧ IterM eP one1 h' h9.length x.1 u.row (fun y => D2 y ∨ y = p) m') st.m.opens.length
        ⟨0, Nat.zero_le _, rfl, c0, c1, c5, c7, c76, rfl, rfl, rfl, rfl, y1.trans x13, by omega, x13.some yb, g13, (ys.ex x13).congr (fun q => by simp), hit'.keep (x13.get _ (by have := y1.len; omega)) (x13.get _ yl)⟩ ?_
      rintro I2 n e' h14 ⟨j, hj, hnj, d0, d1, d5, d7, d76, d8, d85, d86, d87, wx, wl, wb, wp, ws, wi⟩ hI2
      rw [d85, d86, d87, d8, d5, d0]
      refine w_lss ?_
      refine c_dec (fun hjl => ?_) (fun hjl => ?_)
      · obtain ⟨t, ht⟩ := getElem?_of_lt (l := st.m.opens) (i := j) (by omega)
        have wx4 : Ex h4 h14 := hx.trans wx
        refine w_idxN e4_len (b4.opens.ex wx4) ht fun q hq => ?_
        refine w_rdA hq rfl ?_
        refine n_var rfl rfl rfl fun h15 x15 l15 g15 => ?_
        have f15 : h15[f]? = some (.row (rowOf V1 { st with under := us }) true) := x15.some (wx4.some hr4)
        refine w_offP (w_rdP g15 (v := .int .i64 t.1) rfl ?_)
        refine w_offP (w_rdP (x15.some wp) (v := .int .i64 p.2) rfl ?_)
        refine w_neq ?_
        have wi15 : IterM eP one1 h15 h9.length x.1 u.row (fun y => D2 y ∨ y = p) m' := wi.keep (x15.get _ (by have := wx.len; omega)) (x15.get _ (by omega))
        have next : ∀ h9' v45 e9, Ex h7 h9' → h12.length < h9'.length → h9'[h8.length]? = some (.row [.map (some h7.length), .int .i64 x.2] true) → h9'[h12.length]? = some (.row (cellsL (eP p)) true) →
            SetP h9' h7.length (fun q => closeRow st.m D2 st.now.row st.now.bys k q ∨ p.1 = q.1 ∧ ∃ o ∈ st.m.opens.take (j + 1), o.1 = p.2 ∧ o.2.1 = st.now.bys ∧ bring st.m st.now.row k o q st.m.closes) → IterM eP one1 h9' h9.length x.1 u.row (fun y => D2 y ∨ y = p) m' →
            e9 0 = .pointer (some ⟨f, 0, none⟩) → e9 1 = .int .i64 k → e9 5 = .map (some h4.length) → e9 7 = .pointer (some ⟨h8.length, 0, none⟩) → e9 76 = .pointer (some ⟨h9.length, 0, none⟩) → e9 8 = .pointer (some ⟨h12.length, 0, none⟩) → e9 85 = V1.vo → e9 86 = .int .i64 st.m.opens.length → v45 = .int .i64 ((j + 1 : Nat) : Int) → e9 87 = v45 → I2 e9 h9' :=
          fun h9' v45 e9 a1 a2 a3 a4 a5 a6 b0 b1 b5 b7 b76 b8 b85 b86 bv b87 => hI2 (n - 1) _ _ (by omega) ⟨j + 1, by omega, by omega, b0, b1, b5, b7, b76, b8, b85, b86, b87.trans bv, a1, a2, a3, a4, a5, a6⟩
        have no : ∀ v45 e9, (∀ q, ¬ (t.1 = p.2 ∧ t.2.1 = st.now.bys ∧ bring st.m st.now.row k t q st.m.closes)) →
            e9 0 = .pointer (some ⟨f, 0, none⟩) → e9 1 = .int .i64 k → e9 5 = .map (some h4.length) → e9 7 = .pointer (some ⟨h8.length, 0, none⟩) → e9 76 = .pointer (some ⟨h9.length, 0, none⟩) → e9 8 = .pointer (some ⟨h12.length, 0, none⟩) → e9 85 = V1.vo → e9 86 = .int .i64 st.m.opens.length → v45 = .int .i64 ((j + 1 : Nat) : Int) → e9 87 = v45 → I2 e9 h15 := by
          intro v45 e9 hno b0 b1 b5 b7 b76 b8 b85 b86 bv b87
          refine next _ _ _ (wx.trans x15) (by omega) (x15.some wb) (x15.some wp) ((ws.ex x15).congr fun q => ?_) wi15 b0 b1 b5 b7 b76 b8 b85 b86 bv b87
          rw [ex_take_succ ht]
          have := hno q
          grind
        by_cases q1 : t.1 = p.2
        · have n1 : ¬ ¬ t.1 = p.2 := fun h => h q1
          refine gd_ff n1 (w_offP ?_)
          refine gd_ff n1 (hist_nil (w_rdP g15 (v := .int .i64 t.2.1) rfl ?_))
          refine gd_ff n1 ?_
          refine gd_ff n1 (w_nilc ?_)
          refine gd_ff n1 (w_offP ?_)
          refine gd_ff n1 (w_offP ?_)
          refine gd_ff n1 (hist_nil (w_rdP f15 (v := .int .i64 st.now.bys) rfl ?_))
          refine gd_ff n1 (w_neq ?_)
          refine pk_ff n1 ?_
          by_cases q2 : t.2.1 = st.now.bys
          · have n2 : ¬ ¬ t.2.1 = st.now.bys := fun h => h q2
            refine gd_ff n2 ?_
            refine gd_ff n2 (w_offP ?_)
            refine gd_ff n2 (hist_nil (w_rdP g15 (v := .int .i64 t.2.2.1) rfl ?_))
            refine gd_ff n2 (hist_nil (ends_look hEn (wx.trans x15) fun v lb ho hn hlb => ?_))
            refine gd_ff n2 (w_len ho.sl ?_)
            refine gd_ff n2 (w_eql ?_)
            refine pk_ff n2 ?_
            refine c_dec (fun q3 => ?_) (fun q3 => ?_)
            · have hl0 : lb = [] := List.eq_nil_of_length_eq_zero (by omega)
              (repeat' (first | (with_reducible refine w_lss ?_) | (with_reducible refine w_leq ?_) | (with_reducible refine w_gtr ?_) | (with_reducible refine w_geq ?_) | (with_reducible refine w_eql ?_) | (with_reducible refine w_neq ?_) | (with_reducible refine w_lenSl ?_) | (with_reducible refine w_lenStr ?_) | (with_reducible refine w_not ?_) | (with_reducible refine w_add (by omega) (by omega) ?_) | (with_reducible refine w_sub (by omega) (by omega) ?_) | (with_reducible refine w_rem (by omega) (by omega) ?_) | (with_reducible refine w_quo (by omega) (by omega) (by omega) ?_) | (with_reducible refine w_seql ?_) | (with_reducible refine w_sneq ?_) | (with_reducible refine c_t ?_) | (with_reducible refine c_f ?_) | (with_reducible refine c_tt (by first | assumption | omega) ?_) | (with_reducible refine c_ff (by first | assumption | omega) ?_) | (with_reducible refine c_dec (fun hc => ?_) (fun hc => ?_)) | (with_reducible refine c_b (fun hc => ?_) (fun hc => ?_)) | (with_reducible refine gc_tt ?_) | (with_reducible refine gc_ft ?_) | (with_reducible refine gc_tf ?_) | (with_reducible refine gc_ff ?_) | (with_reducible refine g_tt (by first | assumption | omega) ?_) | (with_reducible refine g_tf (by first | assumption | omega) ?_) | (with_reducible refine g_ft (by first | assumption | omega) ?_) | (with_reducible refine g_ff (by first | assumption | omega) ?_) | (with_reducible refine g_dec (fun hc => ?_) (fun hc => ?_)) | (with_reducible refine g_decf (fun hc => ?_) (fun hc => ?_)) | (with_reducible refine pk_t ?_) | (with_reducible refine pk_f ?_) | (with_reducible refine pk_tt (by first | assumption | omega) ?_) | (with_reducible refine pk_ff (by first | assumption | omega) ?_)))
              refine no _ _ (fun q hh => ?_) d0 d1 d5 d7 d76 d8 d85 d86 rfl rfl
              obtain ⟨c, hc1, hc2, hc3, hc4, hc5⟩ := hh.2.2
              have := (hlb _).2 hc4
              rw [hl0] at this
              cases this
            · refine w_nilc (w_offP (w_offP (w_rdP f15 (v := V1.vc) rfl ?_)))
              refine w_len b4.closes ?_
              have hlbU : lb.length ≤ U.length := nodup_sub hn fun y hy => hU _ ((hlb y).1 hy)
              refine loopE_intro (fun n e3 h' => ∃ i3 : Nat, i3 ≤ st.m.closes.length ∧ n = st.m.closes.length - i3 ∧ e3 0 = .pointer (some ⟨f, 0, none⟩) ∧ e3 1 = .int .i64 k ∧ e3 5 = .map (some h4.length) ∧ e3 7 = .pointer (some ⟨h8.length, 0, none⟩) ∧ e3 76 = .pointer (some ⟨h9.length, 0, none⟩) ∧
                e3 8 = .pointer (some ⟨h12.length, 0, none⟩) ∧ e3 85 = V1.vo ∧ e3 86 = .int .i64 st.m.opens.length ∧ e3 87 = .int .i64 j ∧ e3 10 = .pointer (some ⟨h14.length, 0, none⟩) ∧ e3 118 = V1.vc ∧ e3 119 = .int .i64 st.m.closes.length ∧ e3 120 = .int .i64 i3 ∧
                Ex h7 h' ∧ h14.length < h'.length ∧ h'[h8.length]? = some (.row [.map (some h7.length), .int .i64 x.2] true) ∧ h'[h12.length]? = some (.row (cellsL (eP p)) true) ∧ h'[h14.length]? = some (.row (e4 t) true) ∧
                SetP h' h7.length (fun q => (closeRow st.m D2 st.now.row st.now.bys k q ∨ p.1 = q.1 ∧ ∃ o ∈ st.m.opens.take j, o.1 = p.2 ∧ o.2.1 = st.now.bys ∧ bring st.m st.now.row k o q st.m.closes) ∨ p.1 = q.1 ∧ bring st.m st.now.row k t q (st.m.closes.take i3)) ∧
                IterM eP one1 h' h9.length x.1 u.row (fun y => D2 y ∨ y = p) m') st.m.closes.length
                ⟨0, Nat.zero_le _, rfl, d0, d1, d5, d7, d76, d8, d85, d86, d87, rfl, rfl, rfl, rfl, wx.trans x15, by omega, x15.some wb, x15.some wp, g15, (ws.ex x15).congr (fun q => by simp [bring]), wi15⟩ ?_
              rintro I3 n3 e3 h16 ⟨i3, hi3, hn3, j0, j1, j5, j7, j76, j8, j85, j86, j87, j10, j118, j119, j120, kx, kl, kb, kp, kt, ks, ki⟩ hI3
              rw [j118, j119, j120, j1, j10, j5, j7, j8]
              refine w_lss ?_
              refine c_dec (fun hil => ?_) (fun hil => ?_)
              · obtain ⟨c, hc3⟩ := getElem?_of_lt (l := st.m.closes) (i := i3) (by omega)
                refine w_idxN e4_len (b4.closes.ex (hx.trans kx)) hc3 fun q hq => ?_
                refine w_rdA hq rfl ?_
                refine n_var rfl rfl rfl fun h17 x17 l17 g17 => ?_
                refine w_offP (w_rdP g17 (v := .int .i64 c.2.1) rfl ?_)
                refine w_eql ?_
                have ki17 : IterM eP one1 h17 h9.length x.1 u.row (fun y => D2 y ∨ y = p) m' := ki.keep (x17.get _ (by have := kx.len; omega)) (x17.get _ (by omega))
                have next3 : ∀ h9' v45 e9, Ex h7 h9' → h14.length < h9'.length → h9'[h8.length]? = some (.row [.map (some h7.length), .int .i64 x.2] true) → h9'[h12.length]? = some (.row (cellsL (eP p)) true) → h9'[h14.length]? = some (.row (e4 t) true) →
                    SetP h9' h7.length (fun q => (closeRow st.m D2 st.now.row st.now.bys k q ∨ p.1 = q.1 ∧ ∃ o ∈ st.m.opens.take j, o.1 = p.2 ∧ o.2.1 = st.now.bys ∧ bring st.m st.now.row k o q st.m.closes) ∨ p.1 = q.1 ∧ bring st.m st.now.row k t q (st.m.closes.take (i3 + 1))) → IterM eP one1 h9' h9.length x.1 u.row (fun y => D2 y ∨ y = p) m' →
                    e9 0 = .pointer (some ⟨f, 0, none⟩) → e9 1 = .int .i64 k → e9 5 = .map (some h4.length) → e9 7 = .pointer (some ⟨h8.length, 0, none⟩) → e9 76 = .pointer (some ⟨h9.length, 0, none⟩) → e9 8 = .pointer (some ⟨h12.length, 0, none⟩) → e9 85 = V1.vo → e9 86 = .int .i64 st.m.opens.length → e9 87 = .int .i64 j →
                    e9 10 = .pointer (some ⟨h14.length, 0, none⟩) → e9 118 = V1.vc → e9 119 = .int .i64 st.m.closes.length → v45 = .int .i64 ((i3 + 1 : Nat) : Int) → e9 120 = v45 → I3 e9 h9' :=
                  fun h9' v45 e9 a1 a2 a3 a4 a4' a5 a6 b0 b1 b5 b7 b76 b8 b85 b86 b87 b10 b118 b119 bv b120 => hI3 (n3 - 1) _ _ (by omega) ⟨i3 + 1, by omega, by omega, b0, b1, b5, b7, b76, b8, b85, b86, b87, b10, b118, b119, b120.trans bv, a1, a2, a3, a4, a4', a5, a6⟩
                have bring_succ : ∀ q, bring st.m st.now.row k t q (st.m.closes.take (i3 + 1)) ↔ bring st.m st.now.row k t q (st.m.closes.take i3) ∨ (c.2.1 = k ∧ c.2.2.1 = t.2.2.2 ∧ st.now.row (t.2.2.1, c.1) ∧ c.2.2.2 = q.2) := fun q => ex_take_succ hc3
                have no3 : ∀ v45 e9, (¬ (c.2.1 = k ∧ c.2.2.1 = t.2.2.2 ∧ st.now.row (t.2.2.1, c.1))) →
                    e9 0 = .pointer (some ⟨f, 0, none⟩) → e9 1 = .int .i64 k → e9 5 = .map (some h4.length) → e9 7 = .pointer (some ⟨h8.length, 0, none⟩) → e9 76 = .pointer (some ⟨h9.length, 0, none⟩) → e9 8 = .pointer (some ⟨h12.length, 0, none⟩) → e9 85 = V1.vo → e9 86 = .int .i64 st.m.opens.length → e9 87 = .int .i64 j →
                    e9 10 = .pointer (some ⟨h14.length, 0, none⟩) → e9 118 = V1.vc → e9 119 = .int .i64 st.m.closes.length → v45 = .int .i64 ((i3 + 1 : Nat) : Int) → e9 120 = v45 → I3 e9 h17 := by
                  intro v45 e9 hno b0 b1 b5 b7 b76 b8 b85 b86 b87 b10 b118 b119 bv b120
                  refine next3 _ _ _ (kx.trans x17) (by omega) (x17.some kb) (x17.some kp) (x17.some kt) ((ks.ex x17).congr fun q => ?_) ki17 b0 b1 b5 b7 b76 b8 b85 b86 b87 b10 b118 b119 bv b120
                  rw [bring_succ]
                  grind
                by_cases r1 : c.2.1 = k
                · refine g_tt r1 (w_offP ?_)
                  refine g_tt r1 (w_rdP g17 (v := .int .i64 c.2.2.1) rfl ?_)
                  refine g_tt r1 (w_offP ?_)
                  refine g_tt r1 (w_rdP (x17.some kt) (v := .int .i64 t.2.2.2) rfl ?_)
                  refine g_tt r1 (w_eql ?_)
                  refine pk_tt r1 ?_
                  by_cases r2 : c.2.2.1 = t.2.2.2
                  · refine g_tt r2 ?_
                    refine g_tt r2 (w_offP ?_)
                    refine g_tt r2 (w_rdP (x17.some kt) (v := .int .i64 t.2.2.1) rfl ?_)
                    refine g_tt r2 (ends_look hEn (kx.trans x17) fun v2 lb2 ho2 hn2 hlb2 => ?_)
                    refine g_tt r2 (w_offP ?_)
                    refine g_tt r2 (w_rdP g17 (v := .int .i64 c.1) rfl ?_)
                    have hlbU2 : lb2.length ≤ U.length := nodup_sub hn2 fun y hy => hU _ ((hlb2 y).1 hy)
                    refine g_tt r2 (contains65 (l := lb2) (ho2.sl.ex (kx.trans x17)) (by unfold room40; omega) ?_)
                    refine pk_tt r2 ?_
                    refine c_dec (fun r3 => ?_) (fun r3 => ?_)
                    · refine w_offP (w_rdP (x17.some kb) (v := .map (some h7.length)) rfl ?_)
                      refine w_offP (w_rdP (x17.some kp) (v := .int .i64 p.1) rfl ?_)
                      refine w_offP (w_rdP g17 (v := .int .i64 c.2.2.2) rfl ?_)
                      refine w_some rfl ?_
                      refine set_put (enc := eP) (one := one1) (x := (p.1, c.2.2.2)) Try.underlying88 keyP (ks.ex x17) fun o17 ks17 => ?_
                      have hr3 := (hlb2 _).1 r3
                      (repeat' (first | (with_reducible refine w_lss ?_) | (with_reducible refine w_leq ?_) | (with_reducible refine w_gtr ?_) | (with_reducible refine w_geq ?_) | (with_reducible refine w_eql ?_) | (with_reducible refine w_neq ?_) | (with_reducible refine w_lenSl ?_) | (with_reducible refine w_lenStr ?_) | (with_reducible refine w_not ?_) | (with_reducible refine w_add (by omega) (by omega) ?_) | (with_reducible refine w_sub (by omega) (by omega) ?_) | (with_reducible refine w_rem (by omega) (by omega) ?_) | (with_reducible refine w_quo (by omega) (by omega) (by omega) ?_) | (with_reducible refine w_seql ?_) | (with_reducible refine w_sneq ?_) | (with_reducible refine c_t ?_) | (with_reducible refine c_f ?_) | (with_reducible refine c_tt (by first | assumption | omega) ?_) | (with_reducible refine c_ff (by first | assumption | omega) ?_) | (with_reducible refine c_dec (fun hc => ?_) (fun hc => ?_)) | (with_reducible refine c_b (fun hc => ?_) (fun hc => ?_)) | (with_reducible refine gc_tt ?_) | (with_reducible refine gc_ft ?_) | (with_reducible refine gc_tf ?_) | (with_reducible refine gc_ff ?_) | (with_reducible refine g_tt (by first | assumption | omega) ?_) | (with_reducible refine g_tf (by first | assumption | omega) ?_) | (with_reducible refine g_ft (by first | assumption | omega) ?_) | (with_reducible refine g_ff (by first | assumption | omega) ?_) | (with_reducible refine g_dec (fun hc => ?_) (fun hc => ?_)) | (with_reducible refine g_decf (fun hc => ?_) (fun hc => ?_)) | (with_reducible refine pk_t ?_) | (with_reducible refine pk_f ?_) | (with_reducible refine pk_tt (by first | assumption | omega) ?_) | (with_reducible refine pk_ff (by first | assumption | omega) ?_)))
                      refine next3 _ _ _ ((kx.trans x17).set (Nat.le_refl _) _) (by simp; omega) (by rw [get_ne (by omega)]; exact x17.some kb) (by rw [get_ne (by have := y1.len; omega)]; exact x17.some kp) (by rw [get_ne (by have := wx.len; omega)]; exact x17.some kt) (ks17.congr fun q => ?_)
                        (ki17.keep (get_ne (by omega) _) (get_ne (by omega) _)) j0 j1 j5 j7 j76 j8 j85 j86 j87 j10 j118 j119 rfl rfl
                      rw [bring_succ]
                      obtain ⟨qa, qb⟩ := q
                      simp only [r1, r2, hr3, true_and, Prod.mk.injEq]
                      grind
                    · (repeat' (first | (with_reducible refine w_lss ?_) | (with_reducible refine w_leq ?_) | (with_reducible refine w_gtr ?_) | (with_reducible refine w_geq ?_) | (with_reducible refine w_eql ?_) | (with_reducible refine w_neq ?_) | (with_reducible refine w_lenSl ?_) | (with_reducible refine w_lenStr ?_) | (with_reducible refine w_not ?_) | (with_reducible refine w_add (by omega) (by omega) ?_) | (with_reducible refine w_sub (by omega) (by omega) ?_) | (with_reducible refine w_rem (by omega) (by omega) ?_) | (with_reducible refine w_quo (by omega) (by omega) (by omega) ?_) | (with_reducible refine w_seql ?_) | (with_reducible refine w_sneq ?_) | (with_reducible refine c_t ?_) | (with_reducible refine c_f ?_) | (with_reducible refine c_tt (by first | assumption | omega) ?_) | (with_reducible refine c_ff (by first | assumption | omega) ?_) | (with_reducible refine c_dec (fun hc => ?_) (fun hc => ?_)) | (with_reducible refine c_b (fun hc => ?_) (fun hc => ?_)) | (with_reducible refine gc_tt ?_) | (with_reducible refine gc_ft ?_) | (with_reducible refine gc_tf ?_) | (with_reducible refine gc_ff ?_) | (with_reducible refine g_tt (by first | assumption | omega) ?_) | (with_reducible refine g_tf (by first | assumption | omega) ?_) | (with_reducible refine g_ft (by first | assumption | omega) ?_) | (with_reducible refine g_ff (by first | assumption | omega) ?_) | (with_reducible refine g_dec (fun hc => ?_) (fun hc => ?_)) | (with_reducible refine g_decf (fun hc => ?_) (fun hc => ?_)) | (with_reducible refine pk_t ?_) | (with_reducible refine pk_f ?_) | (with_reducible refine pk_tt (by first | assumption | omega) ?_) | (with_reducible refine pk_ff (by first | assumption | omega) ?_)))
                      exact no3 _ _ (fun hh => r3 ((hlb2 _).2 hh.2.2)) j0 j1 j5 j7 j76 j8 j85 j86 j87 j10 j118 j119 rfl rfl
                  · refine g_tf r2 ?_
                    refine g_tf r2 ?_
                    refine g_tf r2 ?_
                    refine g_tf r2 ?_
                    refine g_tf r2 ?_
                    refine g_tf r2 ?_
                    refine g_tf r2 ?_
                    refine pk_ff r2 (c_f ?_)
                    (repeat' (first | (with_reducible refine w_lss ?_) | (with_reducible refine w_leq ?_) | (with_reducible refine w_gtr ?_) | (with_reducible refine w_geq ?_) | (with_reducible refine w_eql ?_) | (with_reducible refine w_neq ?_) | (with_reducible refine w_lenSl ?_) | (with_reducible refine w_lenStr ?_) | (with_reducible refine w_not ?_) | (with_reducible refine w_add (by omega) (by omega) ?_) | (with_reducible refine w_sub (by omega) (by omega) ?_) | (with_reducible refine w_rem (by omega) (by omega) ?_) | (with_reducible refine w_quo (by omega) (by omega) (by omega) ?_) | (with_reducible refine w_seql ?_) | (with_reducible refine w_sneq ?_) | (with_reducible refine c_t ?_) | (with_reducible refine c_f ?_) | (with_reducible refine c_tt (by first | assumption | omega) ?_) | (with_reducible refine c_ff (by first | assumption | omega) ?_) | (with_reducible refine c_dec (fun hc => ?_) (fun hc => ?_)) | (with_reducible refine c_b (fun hc => ?_) (fun hc => ?_)) | (with_reducible refine gc_tt ?_) | (with_reducible refine gc_ft ?_) | (with_reducible refine gc_tf ?_) | (with_reducible refine gc_ff ?_) | (with_reducible refine g_tt (by first | assumption | omega) ?_) | (with_reducible refine g_tf (by first | assumption | omega) ?_) | (with_reducible refine g_ft (by first | assumption | omega) ?_) | (with_reducible refine g_ff (by first | assumption | omega) ?_) | (with_reducible refine g_dec (fun hc => ?_) (fun hc => ?_)) | (with_reducible refine g_decf (fun hc => ?_) (fun hc => ?_)) | (with_reducible refine pk_t ?_) | (with_reducible refine pk_f ?_) | (with_reducible refine pk_tt (by first | assumption | omega) ?_) | (with_reducible refine pk_ff (by first | assumption | omega) ?_)))
                    exact no3 _ _ (fun hh => r2 hh.2.1) j0 j1 j5 j7 j76 j8 j85 j86 j87 j10 j118 j119 rfl rfl
                · refine g_tf r1 ?_
                  refine g_tf r1 ?_
                  refine g_tf r1 ?_
                  refine g_tf r1 ?_
                  refine g_tf r1 ?_
                  refine pk_ff r1 ?_
                  refine gc_tf (gc_tf (gc_tf (gc_tf (gc_tf (gc_tf (gc_tf (pk_f (c_f ?_))))))))
                  (repeat' (first | (with_reducible refine w_lss ?_) | (with_reducible refine w_leq ?_) | (with_reducible refine w_gtr ?_) | (with_reducible refine w_geq ?_) | (with_reducible refine w_eql ?_) | (with_reducible refine w_neq ?_) | (with_reducible refine w_lenSl ?_) | (with_reducible refine w_lenStr ?_) | (with_reducible refine w_not ?_) | (with_reducible refine w_add (by omega) (by omega) ?_) | (with_reducible refine w_sub (by omega) (by omega) ?_) | (with_reducible refine w_rem (by omega) (by omega) ?_) | (with_reducible refine w_quo (by omega) (by omega) (by omega) ?_) | (with_reducible refine w_seql ?_) | (with_reducible refine w_sneq ?_) | (with_reducible refine c_t ?_) | (with_reducible refine c_f ?_) | (with_reducible refine c_tt (by first | assumption | omega) ?_) | (with_reducible refine c_ff (by first | assumption | omega) ?_) | (with_reducible refine c_dec (fun hc => ?_) (fun hc => ?_)) | (with_reducible refine c_b (fun hc => ?_) (fun hc => ?_)) | (with_reducible refine gc_tt ?_) | (with_reducible refine gc_ft ?_) | (with_reducible refine gc_tf ?_) | (with_reducible refine gc_ff ?_) | (with_reducible refine g_tt (by first | assumption | omega) ?_) | (with_reducible refine g_tf (by first | assumption | omega) ?_) | (with_reducible refine g_ft (by first | assumption | omega) ?_) | (with_reducible refine g_ff (by first | assumption | omega) ?_) | (with_reducible refine g_dec (fun hc => ?_) (fun hc => ?_)) | (with_reducible refine g_decf (fun hc => ?_) (fun hc => ?_)) | (with_reducible refine pk_t ?_) | (with_reducible refine pk_f ?_) | (with_reducible refine pk_tt (by first | assumption | omega) ?_) | (with_reducible refine pk_ff (by first | assumption | omega) ?_)))
                  exact no3 _ _ (fun hh => r1 hh.1) j0 j1 j5 j7 j76 j8 j85 j86 j87 j10 j118 j119 rfl rfl
              · have hie : i3 = st.m.closes.length := by omega
                subst hie
                rw [List.take_length] at ks
                rw [j87]
                (repeat' (first | (with_reducible refine w_lss ?_) | (with_reducible refine w_leq ?_) | (with_reducible refine w_gtr ?_) | (with_reducible refine w_geq ?_) | (with_reducible refine w_eql ?_) | (with_reducible refine w_neq ?_) | (with_reducible refine w_lenSl ?_) | (with_reducible refine w_lenStr ?_) | (with_reducible refine w_not ?_) | (with_reducible refine w_add (by omega) (by omega) ?_) | (with_reducible refine w_sub (by omega) (by omega) ?_) | (with_reducible refine w_rem (by omega) (by omega) ?_) | (with_reducible refine w_quo (by omega) (by omega) (by omega) ?_) | (with_reducible refine w_seql ?_) | (with_reducible refine w_sneq ?_) | (with_reducible refine c_t ?_) | (with_reducible refine c_f ?_) | (with_reducible refine c_tt (by first | assumption | omega) ?_) | (with_reducible refine c_ff (by first | assumption | omega) ?_) | (with_reducible refine c_dec (fun hc => ?_) (fun hc => ?_)) | (with_reducible refine c_b (fun hc => ?_) (fun hc => ?_)) | (with_reducible refine gc_tt ?_) | (with_reducible refine gc_ft ?_) | (with_reducible refine gc_tf ?_) | (with_reducible refine gc_ff ?_) | (with_reducible refine g_tt (by first | assumption | omega) ?_) | (with_reducible refine g_tf (by first | assumption | omega) ?_) | (with_reducible refine g_ft (by first | assumption | omega) ?_) | (with_reducible refine g_ff (by first | assumption | omega) ?_) | (with_reducible refine g_dec (fun hc => ?_) (fun hc => ?_)) | (with_reducible refine g_decf (fun hc => ?_) (fun hc => ?_)) | (with_reducible refine pk_t ?_) | (with_reducible refine pk_f ?_) | (with_reducible refine pk_tt (by first | assumption | omega) ?_) | (with_reducible refine pk_ff (by first | assumption | omega) ?_)))
                refine next _ _ _ kx (by omega) kb kp (ks.congr fun q => ?_) ki j0 j1 j5 j7 j76 j8 j85 j86 rfl rfl
                rw [ex_take_succ ht]
                simp only [q1, q2, true_and]
                grind
          · refine gd_ft q2 ?_
            refine gd_ft q2 ?_
            refine gd_ft q2 ?_
            refine gd_ft q2 ?_
            refine gd_ft q2 ?_
            refine gd_ft q2 ?_
            refine pk_tt q2 (c_t ?_)
            (repeat' (first | (with_reducible refine w_lss ?_) | (with_reducible refine w_leq ?_) | (with_reducible refine w_gtr ?_) | (with_reducible refine w_geq ?_) | (with_reducible refine w_eql ?_) | (with_reducible refine w_neq ?_) | (with_reducible refine w_lenSl ?_) | (with_reducible refine w_lenStr ?_) | (with_reducible refine w_not ?_) | (with_reducible refine w_add (by omega) (by omega) ?_) | (with_reducible refine w_sub (by omega) (by omega) ?_) | (with_reducible refine w_rem (by omega) (by omega) ?_) | (with_reducible refine w_quo (by omega) (by omega) (by omega) ?_) | (with_reducible refine w_seql ?_) | (with_reducible refine w_sneq ?_) | (with_reducible refine c_t ?_) | (with_reducible refine c_f ?_) | (with_reducible refine c_tt (by first | assumption | omega) ?_) | (with_reducible refine c_ff (by first | assumption | omega) ?_) | (with_reducible refine c_dec (fun hc => ?_) (fun hc => ?_)) | (with_reducible refine c_b (fun hc => ?_) (fun hc => ?_)) | (with_reducible refine gc_tt ?_) | (with_reducible refine gc_ft ?_) | (with_reducible refine gc_tf ?_) | (with_reducible refine gc_ff ?_) | (with_reducible refine g_tt (by first | assumption | omega) ?_) | (with_reducible refine g_tf (by first | assumption | omega) ?_) | (with_reducible refine g_ft (by first | assumption | omega) ?_) | (with_reducible refine g_ff (by first | assumption | omega) ?_) | (with_reducible refine g_dec (fun hc => ?_) (fun hc => ?_)) | (with_reducible refine g_decf (fun hc => ?_) (fun hc => ?_)) | (with_reducible refine pk_t ?_) | (with_reducible refine pk_f ?_) | (with_reducible refine pk_tt (by first | assumption | omega) ?_) | (with_reducible refine pk_ff (by first | assumption | omega) ?_)))
            exact no _ _ (fun q hh => q2 hh.2.1) d0 d1 d5 d7 d76 d8 d85 d86 rfl rfl
        · refine gd_ft q1 ?_
          refine gd_ft q1 ?_
          refine gd_ft q1 ?_
          refine gd_ft q1 ?_
          refine gd_ft q1 ?_
          refine gd_ft q1 ?_
          refine gd_ft q1 ?_
          refine gd_ft q1 ?_
          refine pk_tt q1 ?_
          refine gdc_ft (gdc_ft (gdc_ft (gdc_ft (gdc_ft (gdc_ft (pk_t (c_t ?_)))))))
          (repeat' (first | (with_reducible refine w_lss ?_) | (with_reducible refine w_leq ?_) | (with_reducible refine w_gtr ?_) | (with_reducible refine w_geq ?_) | (with_reducible refine w_eql ?_) | (with_reducible refine w_neq ?_) | (with_reducible refine w_lenSl ?_) | (with_reducible refine w_lenStr ?_) | (with_reducible refine w_not ?_) | (with_reducible refine w_add (by omega) (by omega) ?_) | (with_reducible refine w_sub (by omega) (by omega) ?_) | (with_reducible refine w_rem (by omega) (by omega) ?_) | (with_reducible refine w_quo (by omega) (by omega) (by omega) ?_) | (with_reducible refine w_seql ?_) | (with_reducible refine w_sneq ?_) | (with_reducible refine c_t ?_) | (with_reducible refine c_f ?_) | (with_reducible refine c_tt (by first | assumption | omega) ?_) | (with_reducible refine c_ff (by first | assumption | omega) ?_) | (with_reducible refine c_dec (fun hc => ?_) (fun hc => ?_)) | (with_reducible refine c_b (fun hc => ?_) (fun hc => ?_)) | (with_reducible refine gc_tt ?_) | (with_reducible refine gc_ft ?_) | (with_reducible refine gc_tf ?_) | (with_reducible refine gc_ff ?_) | (with_reducible refine g_tt (by first | assumption | omega) ?_) | (with_reducible refine g_tf (by first | assumption | omega) ?_) | (with_reducible refine g_ft (by first | assumption | omega) ?_) | (with_reducible refine g_ff (by first | assumption | omega) ?_) | (with_reducible refine g_dec (fun hc => ?_) (fun hc => ?_)) | (with_reducible refine g_decf (fun hc => ?_) (fun hc => ?_)) | (with_reducible refine pk_t ?_) | (with_reducible refine pk_f ?_) | (with_reducible refine pk_tt (by first | assumption | omega) ?_) | (with_reducible refine pk_ff (by first | assumption | omega) ?_)))
          exact no _ _ (fun q hh => q1 hh.1) d0 d1 d5 d7 d76 d8 d85 d86 rfl rfl
      · have hje : j = st.m.opens.length := by omega
        subst hje
        rw [List.take_length] at ws
        exact hI1 m' _ _ hm' ⟨_, d0, d1, d5, d7, d76, wx, by omega, wb, ws.congr fun q => closeRow_grow, wi⟩
    · refine w_some rfl (c_f ?_)
      refine w_rdPA zb (Nat.le_refl 2) ?_
      refine w_nilc (w_offP ?_)
      have hx11 : Ex h4 h11 := hx.trans zx
      refine w_stPA (hx11.some hr4) rfl (by simp [rowOf]) rfl ?_
      have nn := newnow (i := h7.length) (R := closeRow st.m u.row st.now.row st.now.bys k) (by' := u.bys) b4 hx11 (by have := hx.len; omega) (zs.congr fun q => closeRow_congr hall2)
      refine kk _ (fun j => F j ∨ j = h7.length) ⟨{ V1 with mi := h7.length }, ?_, nn.setf _⟩ (c4.trans ⟨by simpa using hx11.len, fun j hj hF => ?_, fun j hj => hj.imp id fun e => by have := hx.len; omega⟩)
      · rw [get_set _ (hx11.lt hlt4), ← hbx]
        rfl
      · rw [get_ne (fun e => hF (by rw [← e]; exact b.ff))]
        exact hx11.get j hj
end Go.Proofs.Ytebbjimmgblcpaa.W
end
