/- Parts of a proof, joined by a program. Conditions: none. -/
import Derived.Test.YtdlbiliolbdbmaaGreatRB2
import Derived.Test.YtdlbiliolbdbmaaGreatRB3

section
/- TopFolds' walk. Conditions: none. -/
namespace Go.Proofs.YtdlbiliolbdbmaaGreat.W
open Go Go.AM FoldPM
set_option linter.unusedVariables false
set_option maxRecDepth 100000
theorem stM {h : AH} {i : Nat} {c : List Value} {u : MoV} {m : Mo} {K : AH → Prop} (hr : h[i]? = some (.row c true)) (hl : c.length = 8) (k : K (h.set i (.row (moRow u m) true))) : optW (pStore 8 (.pointer (some ⟨i, 0, none⟩)) (.agg (moRow u m).toArray) h) K := by
  refine w_stPA hr rfl (by omega) rfl ?_
  have : spliceL c 0 (cellsL (.agg (moRow u m).toArray)) = moRow u m := by
    unfold spliceL
    show c.take 0 ++ moRow u m ++ c.drop (0 + (moRow u m).length) = _
    rw [List.drop_of_length_le (by show c.length ≤ 0 + 8; omega)]
    simp
  rw [this]
  exact k
theorem folds5 {h : AH} {a0 : Int} {v1 : Value} {ns : List Int} (hns : Ints h v1 ns) : callW Tryz.prog 5 [.int .i64 a0, v1] h fun v _ => v = .bool true := by
  refine c5 ?_
  unfold s5
  refine known6 (w_notb (c_f ?_))
  refine make14o hns fun h2 u m o x2 mo v => ?_
  refine n_rowv fun h3 x3 l3 g3 => stM g3 rfl ?_
  have lt3 := lt_of_get g3
  have g4 : (h3.set h2.length (.row (moRow u m) true))[h2.length]? = some (.row (moRow u m) true) := get_set _ lt3 _
  have x4 : Ex h2 (h3.set h2.length (.row (moRow u m) true)) := x3.set (Nat.le_refl _) _
  generalize h3.set h2.length (.row (moRow u m) true) = h4 at g4 x4 ⊢
  have mh := (mo.toH fun _ _ => rfl).ex x4
  have ok := v.ok
  refine w_rdPA g4 (Nat.le_refl 8) ?_
  refine small18 mh v fun h5 us c cnt f x5 Ca hf ms => ?_
  have vs := sm_valid v Ca hf
  have Q := sm_quot v Ca hf
  refine w_some (v := .agg (moRow us (sm m c cnt f)).toArray) rfl (w_some (v := .int .i64 0) rfl ?_)
  generalize hs : sm m c cnt f = s at *
  refine n_rowv fun h6 x6 l6 g6 => stM g6 rfl ?_
  have g7 : (h6.set h5.length (.row (moRow us s) true))[h5.length]? = some (.row (moRow us s) true) := get_set _ (lt_of_get g6) _
  have x7 : Ex h5 (h6.set h5.length (.row (moRow us s) true)) := x6.set (Nat.le_refl _) _
  generalize h6.set h5.length (.row (moRow us s) true) = h7 at g7 x7 ⊢
  have ms7 := ms.ex x7
  have okS := vs.ok
  refine w_neq (c_ff (fun h => h rfl) ?_)
  refine w_rdPA g7 (Nat.le_refl 8) ?_
  refine classes24 ms7 (fun nv => absurd vs nv) fun _ h8 vc c' cnt' x8 oc Cc => ?_
  have Cq := Q.canon ok
  obtain ⟨ec, en⟩ := Cc.uniq Cq
  have hn : s.pm.n = s.Of.length := rfl
  have sz : s.Of.length ≤ 1000 := ms.szO
  have hcl : c'.length = s.Of.length := by rw [ec]; simp [hn]
  have gd : ∀ e, e < s.Of.length → c'[e]? = some ((e : Nat) : Int) := fun e he => by
    have he : e < s.pm.n := he
    rw [ec]; simp [he]
  refine loopE_intro (fun mm e h' => ∃ i : Nat, i ≤ c'.length ∧ mm = c'.length - i ∧ e 6 = .pointer (some ⟨h5.length, 0, none⟩) ∧ e 8 = vc ∧ e 9 = .int .i64 (i : Nat) ∧ h' = h8) c'.length
    ⟨0, Nat.zero_le _, rfl, rfl, rfl, rfl, rfl⟩ ?_
  rintro I mm e h' ⟨i, hi, hmm, e6, e8, e9, rfl⟩ ih
  rw [e8, e9]
  refine w_len oc.sl (w_lss (c_dec (fun q => ?_) (fun q => ?_)))
  · refine w_idxN eI_len (show Ints h' vc c' from oc.sl) (gd i (by omega)) fun z hz => w_rd1 hz rfl ?_
    refine w_neq (c_ff (fun hh => hh rfl) ?_)
    refine w_add (by omega) (by omega) ?_
    exact ih (c'.length - (i + 1)) _ _ (by omega) ⟨i + 1, by omega, rfl, e6, e8, rfl, rfl⟩
  · clear ih
    rw [e6]
    have g8 := x8.some g7
    have ms8 := ms7.ex x8
    refine w_rdPA g8 (Nat.le_refl 8) ?_
    refine reached20 ms8 (fun nv => absurd vs nv) fun _ h9 R bl x9 hR gR lb rb => ?_
    refine loopE_intro (fun mm e' h'' => ∃ i : Nat, i ≤ s.pm.n ∧ mm = s.pm.n - i ∧ e' 6 = .pointer (some ⟨h5.length, 0, none⟩) ∧ e' 8 = vc ∧ e' 10 = .slice (some ⟨R, 0, none⟩) s.pm.n s.pm.n ∧ e' 11 = .int .i64 (i : Nat) ∧ h'' = h9) s.pm.n
      ⟨0, Nat.zero_le _, rfl, e6, e8, rfl, rfl, rfl⟩ ?_
    clear e6 e8 e9 hmm q hi
    clear e mm I i
    rintro I mm e h'' ⟨i, hi, hmm, e6, e8, e10, e11, rfl⟩ ih
    rw [e10, e11]
    have hbl : Sl 1 h'' (.slice (some ⟨R, 0, none⟩) s.pm.n s.pm.n) bl.length (flat eBo bl) := by
      refine ⟨flat_length eBo_len bl, .inr ⟨R, 0, s.pm.n, by rw [lb], .inl ⟨by have : s.pm.n ≤ 1000 := sz; unfold openCap; omega, by omega⟩, .inr ⟨_, _, gR, by rw [flat_length eBo_len]; omega, ?_⟩⟩⟩
      rw [List.drop_zero, List.take_of_length_le (by rw [flat_length eBo_len]; exact Nat.le_refl _)]
    refine w_lenSl (w_lss (c_dec (fun q => ?_) (fun q => ?_)))
    · have hb : bl[i]? = some true := (rb i).2 (Q.reached (by omega))
      refine w_idxN eBo_len (show Bools h'' _ bl from hbl) hb fun z hz => w_rd1 hz rfl ?_
      refine w_notb (c_f ?_)
      refine w_add (by omega) (by omega) ?_
      exact ih (s.pm.n - (i + 1)) _ _ (by omega) ⟨i + 1, by omega, rfl, e6, e8, e10, rfl, rfl⟩
    · rw [e6, e8]
      have oc9 := oc.sl.ex x9
      refine w_len oc9 (w_offP (w_rdP (x9.some g8) (v := sv us.vo) rfl (w_len (ms8.ex x9).of ?_)))
      have y0 : ((c'.length : Nat) : Int) = (s.Of.length : Nat) := by rw [hcl]
      refine w_eql (g_tt y0 (g_tt y0 (w_lenSl (g_tt y0 (g_tt y0 (w_len oc9 (g_tt y0 (w_eql (pk_tt y0 ?_)))))))))
      have y1 : ((s.pm.n : Nat) : Int) = (c'.length : Nat) := by rw [hcl]; rfl
      rw [decide_eq_true y1]
theorem topFolds_walk (h : AH) (a0 : Int) (_ : I64 a0) (v1 : Value) (ns : List Int) (i1 : Ints h v1 ns) (_ : ∀ n ∈ ns, I64 n) (hm : h.length = 1) : callW Tryz.prog 5 [.int .i64 a0, v1] h fun v _ => v = .bool true := folds5 i1
end Go.Proofs.YtdlbiliolbdbmaaGreat.W
end
