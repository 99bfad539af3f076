/- The laws' symbols: the walks of Syms, Sign. Conditions: none. -/
import Derived.Test.YtebbjimmgblcpaaQF15
namespace Go.Proofs.Ytebbjimmgblcpaa.W
open Go Go.AM FeedM
set_option linter.unusedVariables false
set_option maxRecDepth 100000

def L7 : List Sy := [([97], 1), ([97], 2), ([98], 3), ([99], 1), ([99], 2), ([100], 3), ([120], 2)]
def symChoices : List (List Sy) := [L7.take 3, L7.take 4, L7.take 5, L7.take 6, L7.take 7, [([98], 3), ([97], 2), ([97], 1)], [([97], 1)], [([97], 2)], [([98], 3)], [([99], 1)], [([99], 2)], [([100], 3)], [([120], 2)]]

theorem syms_new {h : AH} {l : List Sy} {n : Nat} {c : List Value} (hc : c = flat eSy l) (hn : n = l.length) (hl : l.length < 100) : Syms (h ++ [.row c true]) (.slice (some ⟨h.length, 0, none⟩) n n) l := by
  subst hc hn
  refine ⟨flat_length eSy_len l, .inr ⟨h.length, 0, _, rfl, .inl ⟨?_, Nat.le_refl _⟩, .inr ⟨_, true, get_new _ _, ?_, ?_⟩⟩⟩
  · have : (100 : Nat) < openCap := by decide
    omega
  · rw [flat_length eSy_len]; omega
  · rw [List.drop_zero, ← flat_length eSy_len l, List.take_length]

theorem syms14 {h : AH} {a : Int} {v1 : Value} {ns : List Int} {K : Value → AH → Prop} (hns : Ints h v1 ns)
    (k : ∀ v h' l, Ex h h' → Syms h' v l → l ∈ symChoices → K v h') : callW Try.prog 14 [.int .i64 a, v1] h K := by
  refine c14 ?_
  unfold s14
  iterate 7 refine w_some rfl ?_
  refine w_some rfl ?_
  refine n_new ?_
  have hS : Syms (h ++ [AObj.row (flat eSy L7) true]) (.slice (some ⟨h.length, 0, none⟩) 7 7) L7 := syms_new rfl rfl (by decide)
  have x1 : Ex h (h ++ [AObj.row (flat eSy L7) true]) := .app _ _
  change callW Try.prog 34 _ (h ++ [AObj.row (flat eSy L7) true]) _
  generalize h ++ [AObj.row (flat eSy L7) true] = h1 at *
  generalize (Value.slice (some ⟨h.length, 0, none⟩) 7 7) = sv at *
  refine within34 _ _ _ _ (by decide) (by decide) ?_
  have q5 : 0 ≤ a % 5 ∧ a % 5 < 5 := ⟨Int.emod_nonneg _ (by decide), Int.emod_lt_of_pos _ (by decide)⟩
  refine w_add (by omega) (by omega) ?_
  refine within34 _ _ _ _ (by decide) (by decide) ?_
  refine w_eql ?_
  refine c_dec (fun q => ?_) (fun q => ?_)
  · have hR := hS.ex (Ex.res h1)
    refine w_idxN (enc := eSy) (i := 2) eSy_len hR rfl fun p hp => w_rdA hp rfl ?_
    refine w_idxN (enc := eSy) (i := 1) eSy_len hR rfl fun p hp => w_rdA hp rfl ?_
    refine w_idxN (enc := eSy) (i := 0) eSy_len hR rfl fun p hp => w_rdA hp rfl ?_
    refine w_some rfl ?_
    refine n_slot ?_
    rw [reserve_set]
    exact k _ _ [([98], 3), ([97], 2), ([97], 1)] (x1.trans (.app _ _)) (syms_new rfl rfl (by decide)) (by decide)
  · refine within34 _ _ _ _ (by decide) (by decide) ?_
    refine w_eql ?_
    have last : optW (pSliceSl 2 sv none (some (.int .i64 (3 + a % 5))) none) fun v49 => K v49 h1 := by
      have e : (3 + a % 5 : Int) = ((3 + (a % 5).toNat : Nat) : Int) := by omega
      rw [e]
      have hk : (a % 5).toNat < 5 := by omega
      refine w_sliceT (enc := eSy) (l := L7) (i := 0) (j := 3 + (a % 5).toNat) eSy_len hS (Nat.zero_le _) (by show 3 + (a % 5).toNat ≤ 7; omega) (.inl ⟨rfl, rfl⟩) (.inr ⟨_, rfl⟩) fun v' hv' _ => ?_
      refine k v' h1 _ x1 hv' ?_
      generalize (a % 5).toNat = z at *
      have : ∀ z, z < 5 → (L7.drop 0).take (3 + z - 0) ∈ symChoices := by decide
      exact this z hk
    by_cases q2 : a % 11 = 2
    · refine g_tt q2 (g_tt q2 (w_len hns (g_tt q2 (w_gtr (pk_tt q2 ?_)))))
      refine c_dec (fun q3 => ?_) (fun q3 => ?_)
      · obtain ⟨z, hz⟩ := getElem?_of_lt (l := ns) (i := 0) (by omega)
        refine w_idxN (enc := eI) (i := 0) eI_len (hns.ex x1) hz fun p hp => w_rd1 hp rfl ?_
        refine within34 _ _ _ _ (by decide) (by decide) ?_
        have q7 : 0 ≤ z % 7 ∧ z % 7 < 7 := ⟨Int.emod_nonneg _ (by decide), Int.emod_lt_of_pos _ (by decide)⟩
        obtain ⟨y, hy⟩ := getElem?_of_lt (l := L7) (i := (z % 7).toNat) (by show _ < 7; omega)
        refine w_idxT (enc := eSy) eSy_len hS q7.1 hy fun p hp => w_rdA hp rfl ?_
        refine w_some (bldSl_one rfl (by decide) rfl rfl) ?_
        refine n_new ?_
        refine k _ _ [y] (x1.trans (.app _ _)) (syms_new (by simp [flat, cellsL]) rfl (by simp)) ?_
        have hm := List.mem_of_getElem? hy
        have : ∀ y ∈ L7, [y] ∈ symChoices := by decide
        exact this y hm
      · exact last
    · refine g_tf q2 (g_tf q2 (g_tf q2 (pk_ff q2 (c_f ?_))))
      exact last

def signOf (s : Sy) : List UInt8 := if s.2 = 1 then 60 :: (s.1 ++ [62]) else if s.2 = 2 then 60 :: 47 :: (s.1 ++ [62]) else s.1

theorem sign33 {h : AH} {s : Sy} {K : Value → AH → Prop} (hn : s.1.length < 1000) (k : ∀ h', Ex h h' → K (.string (bs (signOf s))) h') : callW Try.prog 33 [.agg (eSy s).toArray] h K := by
  refine c33 ?_
  unfold s33
  refine n_boxv rfl fun h1 x1 l1 g1 => ?_
  refine w_offP (w_rdP g1 (v := .int .i64 s.2) rfl (w_eql ?_))
  unfold signOf at k
  refine c_dec (fun q => ?_) (fun q => ?_)
  · refine w_offP (w_rdP g1 (v := .string (bs s.1)) rfl ?_)
    refine w_cat (by simp; omega) (w_cat (by simp; omega) ?_)
    rw [if_pos q] at k
    exact k h1 x1
  · rw [if_neg q] at k
    refine w_eql ?_
    refine c_dec (fun q2 => ?_) (fun q2 => ?_)
    · refine w_offP (w_rdP g1 (v := .string (bs s.1)) rfl ?_)
      refine w_cat (by simp; omega) (w_cat (by simp; omega) ?_)
      rw [if_pos q2] at k
      exact k h1 x1
    · refine w_offP (w_rdP g1 (v := .string (bs s.1)) rfl ?_)
      rw [if_neg q2] at k
      exact k h1 x1
end Go.Proofs.Ytebbjimmgblcpaa.W
