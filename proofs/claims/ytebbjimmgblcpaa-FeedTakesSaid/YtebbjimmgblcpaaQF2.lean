/- Contracts of the library's small functions that the feed uses: Clone, Index, Contains. Conditions: none. -/
import Derived.Test.YtebbjimmgblcpaaQF1
import Derived.Test.YtebbjimmgblcpaaQS6
import Derived.Test.YtebbjimmgblcpaaQS7
import Derived.Test.YtebbjimmgblcpaaQA2
namespace Go.Proofs.Ytebbjimmgblcpaa.W
open Go Go.AM FeedM
set_option linter.unusedVariables false
set_option maxRecDepth 100000

/-- A CLONE: as it was, in memory of its own. -/
def CloneOK (f s : Nat) : Prop := ∀ (h : AH) (v : Value) (n : Nat) (cs : List Value) (K : Value → AH → Prop), Sl s h v n cs → n < room40 →
  (∀ v' h', Ex h h' → Sl s h' v' n cs → (∀ j, onId v' j → h.length ≤ j ∧ j < h'.length) → K v' h') → callW Try.prog f [v] h K

theorem clone40 : CloneOK 40 1 := by
  intro h v n cs K hv hn k
  refine c40 ?_
  unfold s40
  obtain ⟨a, cap, rfl⟩ := hv.shape
  refine w_slnil Try.underlying22 ?_
  cases a with
  | none => refine c_t (k _ _ (Ex.refl h) ?_ fun j hj => hj.elim)
            rcases hv.2 with ⟨_, h0⟩ | ⟨_, _, _, h1, _⟩
            · exact ⟨hv.1, .inl ⟨rfl, h0⟩⟩
            · cases h1
  | some x => exact c_f (clone_tail rfl (by decide) hv hn k)
theorem clone41 : CloneOK 41 4 := by
  intro h v n cs K hv hn k
  refine c41 ?_
  unfold s41
  obtain ⟨a, cap, rfl⟩ := hv.shape
  refine w_slnil Try.underlying26 ?_
  cases a with
  | none => refine c_t (k _ _ (Ex.refl h) ?_ fun j hj => hj.elim)
            rcases hv.2 with ⟨_, h0⟩ | ⟨_, _, _, h1, _⟩
            · exact ⟨hv.1, .inl ⟨rfl, h0⟩⟩
            · cases h1
  | some x => exact c_f (clone_tail rfl (by decide) hv hn k)
theorem clone42 : CloneOK 42 4 := by
  intro h v n cs K hv hn k
  refine c42 ?_
  unfold s42
  obtain ⟨a, cap, rfl⟩ := hv.shape
  refine w_slnil Try.underlying27 ?_
  cases a with
  | none => refine c_t (k _ _ (Ex.refl h) ?_ fun j hj => hj.elim)
            rcases hv.2 with ⟨_, h0⟩ | ⟨_, _, _, h1, _⟩
            · exact ⟨hv.1, .inl ⟨rfl, h0⟩⟩
            · cases h1
  | some x => exact c_f (clone_tail rfl (by decide) hv hn k)
theorem clone43 : CloneOK 43 3 := by
  intro h v n cs K hv hn k
  refine c43 ?_
  unfold s43
  obtain ⟨a, cap, rfl⟩ := hv.shape
  refine w_slnil Try.underlying28 ?_
  cases a with
  | none => refine c_t (k _ _ (Ex.refl h) ?_ fun j hj => hj.elim)
            rcases hv.2 with ⟨_, h0⟩ | ⟨_, _, _, h1, _⟩
            · exact ⟨hv.1, .inl ⟨rfl, h0⟩⟩
            · cases h1
  | some x => exact c_f (clone_tail rfl (by decide) hv hn k)
theorem clone45 : CloneOK 45 2 := by
  intro h v n cs K hv hn k
  refine c45 ?_
  unfold s45
  obtain ⟨a, cap, rfl⟩ := hv.shape
  refine w_slnil Try.underlying24 ?_
  cases a with
  | none => refine c_t (k _ _ (Ex.refl h) ?_ fun j hj => hj.elim)
            rcases hv.2 with ⟨_, h0⟩ | ⟨_, _, _, h1, _⟩
            · exact ⟨hv.1, .inl ⟨rfl, h0⟩⟩
            · cases h1
  | some x => exact c_f (clone_tail rfl (by decide) hv hn k)

theorem findIdx_at {α : Type} [DecidableEq α] {x : α} {l : List α} {i : Nat} (hn : x ∉ l.take i) (hx : l[i]? = some x) : idxOf x l = i := by
  have hi := (List.getElem?_eq_some_iff.1 hx)
  have : l.findIdx? (fun y => decide (x = y)) = some i := by
    rw [List.findIdx?_eq_some_iff_getElem]
    refine ⟨hi.1, by rw [hi.2]; simp, fun j hj => ?_⟩
    have hjl : j < l.length := Nat.lt_trans hj hi.1
    simp only [decide_eq_true_eq]
    intro e
    refine hn ?_
    rw [List.mem_take_iff_getElem]
    exact ⟨j, by omega, e.symm⟩
  unfold idxOf
  rw [this]
theorem findIdx_none {α : Type} [DecidableEq α] {x : α} {l : List α} (hn : x ∉ l) : idxOf x l = -1 := by
  have : l.findIdx? (fun y => decide (x = y)) = none := by
    rw [List.findIdx?_eq_none_iff]
    intro y hy
    simp only [decide_eq_false_iff_not]
    rintro rfl
    exact hn hy
  unfold idxOf
  rw [this]
theorem idxOf_neg {α : Type} [DecidableEq α] {x : α} {l : List α} : idxOf x l < 0 ↔ x ∉ l := by
  constructor
  · intro h hx
    obtain ⟨i, hi, e⟩ := List.getElem_of_mem hx
    unfold idxOf at h
    split at h
    · omega
    · rename_i hn
      rw [List.findIdx?_eq_none_iff] at hn
      have := hn _ hx
      simp at this
  · intro h
    rw [findIdx_none h]
    decide

theorem index73 {h : AH} {v : Value} {l : List Int} {x : Int} {K : Value → AH → Prop} (hl : Ints h v l) (hn : l.length < room40) (k : K (.int .i64 (idxOf x l)) h) : callW Try.prog 73 [v, .int .i64 x] h K := by
  refine c73 ?_
  unfold s73
  refine w_len hl ?_
  refine loopE_intro (fun m e h' => ∃ i : Nat, i ≤ l.length ∧ m = l.length - i ∧ e 0 = v ∧ e 1 = .int .i64 x ∧ e 7 = .int .i64 l.length ∧ e 8 = .int .i64 i ∧ h' = h ∧ x ∉ l.take i) l.length ⟨0, Nat.zero_le _, rfl, rfl, rfl, rfl, rfl, rfl, by simp⟩ ?_
  rintro I m e h' ⟨i, hi, hm, e0, e1, e7, e8, rfl, hni⟩ hI
  rw [e0, e1, e7, e8]
  unfold room40 at hn
  refine w_lss ?_
  refine c_dec (fun hc => ?_) (fun hc => ?_)
  · obtain ⟨y, hy⟩ := getElem?_of_lt (l := l) (i := i) (by omega)
    refine w_idxN eI_len hl hy fun p hp => ?_
    refine w_rd1 hp rfl ?_
    (repeat' (first | (with_reducible refine w_lss ?_) | (with_reducible refine w_leq ?_) | (with_reducible refine w_gtr ?_) | (with_reducible refine w_geq ?_) | (with_reducible refine w_eql ?_) | (with_reducible refine w_neq ?_) | (with_reducible refine w_lenSl ?_) | (with_reducible refine w_lenStr ?_) | (with_reducible refine w_not ?_) | (with_reducible refine w_add (by omega) (by omega) ?_) | (with_reducible refine w_sub (by omega) (by omega) ?_) | (with_reducible refine w_rem (by omega) (by omega) ?_) | (with_reducible refine w_quo (by omega) (by omega) (by omega) ?_) | (with_reducible refine w_seql ?_) | (with_reducible refine w_sneq ?_) | (with_reducible refine c_t ?_) | (with_reducible refine c_f ?_) | (with_reducible refine c_tt (by first | assumption | omega) ?_) | (with_reducible refine c_ff (by first | assumption | omega) ?_) | (with_reducible refine c_dec (fun hc => ?_) (fun hc => ?_)) | (with_reducible refine c_b (fun hc => ?_) (fun hc => ?_)) | (with_reducible refine gc_tt ?_) | (with_reducible refine gc_ft ?_) | (with_reducible refine gc_tf ?_) | (with_reducible refine gc_ff ?_) | (with_reducible refine g_tt (by first | assumption | omega) ?_) | (with_reducible refine g_tf (by first | assumption | omega) ?_) | (with_reducible refine g_ft (by first | assumption | omega) ?_) | (with_reducible refine g_ff (by first | assumption | omega) ?_) | (with_reducible refine g_dec (fun hc => ?_) (fun hc => ?_)) | (with_reducible refine g_decf (fun hc => ?_) (fun hc => ?_)) | (with_reducible refine pk_t ?_) | (with_reducible refine pk_f ?_) | (with_reducible refine pk_tt (by first | assumption | omega) ?_) | (with_reducible refine pk_ff (by first | assumption | omega) ?_)))
    · subst hc
      rw [findIdx_at hni hy] at k
      exact k
    · refine hI (m - 1) _ _ (by omega) ⟨i + 1, by omega, by omega, e0, e1, e7, rfl, rfl, ?_⟩
      rw [take_succ_get hy]
      simp only [List.mem_append, List.mem_singleton, not_or]
      exact ⟨hni, hc⟩
  · have : l.take i = l := List.take_of_length_le (by omega)
    rw [this] at hni
    rw [findIdx_none hni] at k
    exact k

theorem contains65 {h : AH} {v : Value} {l : List Int} {x : Int} {K : Value → AH → Prop} (hl : Ints h v l) (hn : l.length < room40) (k : K (.bool (decide (x ∈ l))) h) : callW Try.prog 65 [v, .int .i64 x] h K := by
  refine c65 ?_
  unfold s65
  refine index73 hl hn ?_
  refine w_geq ?_
  have : decide (0 ≤ idxOf x l) = decide (x ∈ l) := by
    by_cases hx : x ∈ l
    · have : ¬ idxOf x l < 0 := fun h => idxOf_neg.1 h hx
      rw [decide_eq_true hx, decide_eq_true (by omega)]
    · have := idxOf_neg.2 hx
      rw [decide_eq_false hx, decide_eq_false (by omega)]
  rw [this]
  exact k

theorem sy_eq0 (a b : Sy) : pBin Try.prog .eql 67 (.agg (eSy a).toArray) (.agg (eSy b).toArray) = (sameScals (eSy a) (eSy b)).map Value.bool := by kernel_rfl
theorem sy_eq (a b : Sy) : pBin Try.prog .eql 67 (.agg (eSy a).toArray) (.agg (eSy b).toArray) = some (.bool (decide (a = b))) := by
  rw [sy_eq0]
  obtain ⟨a1, a2⟩ := a
  obtain ⟨b1, b2⟩ := b
  unfold eSy
  simp only [sameScals, sameScal, bytes_toList, bs_data, if_true]
  by_cases h1 : a1 = b1
  · subst h1
    by_cases h2 : a2 = b2
    · subst h2; simp
    · have : (a2 == b2) = false := by simpa using h2
      simp [this, h2]
  · have : (a1 == b1) = false := by simpa using h1
    simp [this, h1]

theorem w_syeq {a b : Sy} {K : Value → Prop} (k : K (.bool (decide (a = b)))) : optW (pBin Try.prog .eql 67 (.agg (eSy a).toArray) (.agg (eSy b).toArray)) K := by
  rw [sy_eq]; exact k

theorem index69 {h : AH} {v : Value} {l : List Sy} {x : Sy} {K : Value → AH → Prop} (hl : Syms h v l) (hn : l.length < room40) (k : ∀ h', Ex h h' → K (.int .i64 (idxOf x l)) h') : callW Try.prog 69 [v, .agg (eSy x).toArray] h K := by
  refine c69 ?_
  unfold s69
  refine n_box rfl ?_
  have hx0 : Ex h (h ++ [AObj.row (cellsL (.agg (eSy x).toArray)) true]) := .app _ _
  have hp0 : PtrTo (h ++ [AObj.row (cellsL (.agg (eSy x).toArray)) true]) (.pointer (some ⟨h.length, 0, none⟩)) (eSy x) := ⟨h.length, 0, eSy x, true, rfl, get_new _ _, Nat.le_refl _, rfl⟩
  generalize h ++ [AObj.row (cellsL (.agg (eSy x).toArray)) true] = h1 at *
  generalize (Value.pointer (some ⟨h.length, 0, none⟩)) = p0 at *
  refine w_len hl ?_
  refine loopE_intro (fun m e h' => ∃ i : Nat, i ≤ l.length ∧ m = l.length - i ∧ e 0 = v ∧ e 3 = p0 ∧ e 7 = .int .i64 l.length ∧ e 8 = .int .i64 i ∧ h' = h1 ∧ x ∉ l.take i) l.length ⟨0, Nat.zero_le _, rfl, rfl, rfl, rfl, rfl, rfl, by simp⟩ ?_
  rintro I m e h' ⟨i, hi, hm, e0, e3, e7, e8, rfl, hni⟩ hI
  rw [e0, e3, e7, e8]
  unfold room40 at hn
  refine w_lss ?_
  refine c_dec (fun hc => ?_) (fun hc => ?_)
  · obtain ⟨y, hy⟩ := getElem?_of_lt (l := l) (i := i) (by omega)
    refine w_rdA hp0 rfl ?_
    refine w_idxN eSy_len (hl.ex hx0) hy fun p hp => ?_
    refine w_rdA hp rfl ?_
    refine w_syeq ?_
    (repeat' (first | (with_reducible refine w_lss ?_) | (with_reducible refine w_leq ?_) | (with_reducible refine w_gtr ?_) | (with_reducible refine w_geq ?_) | (with_reducible refine w_eql ?_) | (with_reducible refine w_neq ?_) | (with_reducible refine w_lenSl ?_) | (with_reducible refine w_lenStr ?_) | (with_reducible refine w_not ?_) | (with_reducible refine w_add (by omega) (by omega) ?_) | (with_reducible refine w_sub (by omega) (by omega) ?_) | (with_reducible refine w_rem (by omega) (by omega) ?_) | (with_reducible refine w_quo (by omega) (by omega) (by omega) ?_) | (with_reducible refine w_seql ?_) | (with_reducible refine w_sneq ?_) | (with_reducible refine c_t ?_) | (with_reducible refine c_f ?_) | (with_reducible refine c_tt (by first | assumption | omega) ?_) | (with_reducible refine c_ff (by first | assumption | omega) ?_) | (with_reducible refine c_dec (fun hc => ?_) (fun hc => ?_)) | (with_reducible refine c_b (fun hc => ?_) (fun hc => ?_)) | (with_reducible refine gc_tt ?_) | (with_reducible refine gc_ft ?_) | (with_reducible refine gc_tf ?_) | (with_reducible refine gc_ff ?_) | (with_reducible refine g_tt (by first | assumption | omega) ?_) | (with_reducible refine g_tf (by first | assumption | omega) ?_) | (with_reducible refine g_ft (by first | assumption | omega) ?_) | (with_reducible refine g_ff (by first | assumption | omega) ?_) | (with_reducible refine g_dec (fun hc => ?_) (fun hc => ?_)) | (with_reducible refine g_decf (fun hc => ?_) (fun hc => ?_)) | (with_reducible refine pk_t ?_) | (with_reducible refine pk_f ?_) | (with_reducible refine pk_tt (by first | assumption | omega) ?_) | (with_reducible refine pk_ff (by first | assumption | omega) ?_)))
    · subst hc
      rw [findIdx_at hni hy] at k
      exact k _ hx0
    · refine hI (m - 1) _ _ (by omega) ⟨i + 1, by omega, by omega, e0, e3, e7, rfl, rfl, ?_⟩
      rw [take_succ_get hy]
      simp only [List.mem_append, List.mem_singleton, not_or]
      exact ⟨hni, hc⟩
  · have : l.take i = l := List.take_of_length_le (by omega)
    rw [this] at hni
    rw [findIdx_none hni] at k
    exact k _ hx0
end Go.Proofs.Ytebbjimmgblcpaa.W
