/- Parts of a proof, joined by a program. Conditions: none. -/
import Derived.Test.YtlenlhlipmkeeaaRA2
import Derived.Test.YtlenlhlipmkeeaaRS0
import Derived.Test.YtlenlhlipmkeeaaProg
import Derived.Lib.ConvBytes
import Derived.Laws.BytesArg
import Derived.Below
import Derived.WalkKit
import Derived.BigCall
import Derived.Test.YtlenlhlipmkeeaaChecked
import Derived.Shelf.Strings.OnBuilder

section
/- The law's within. Conditions: none. -/
namespace Go.Proofs.Ytlenlhlipmkeeaa.W
open Go Go.AM
set_option maxRecDepth 100000
theorem within15 (a n : Int) (h : AH) (K : Value → AH → Prop) (h1 : 0 < n) (h2 : n ≤ 1152921504606846976)
   (k : K (.int .i64 (a % n)) h) : callW Try.prog 15 [.int .i64 a, .int .i64 n] h K := by
  obtain ⟨_, q1, q2, q3, q4⟩ := tmod_emod a n h1
  refine c15 ?_
  unfold s15
  refine w_tmod (by omega) ?_
  generalize hm : a.tmod n = m at *
  (repeat' (with_reducible first | refine w_lss ?_ | refine w_leq ?_ | refine w_gtr ?_ | refine w_geq ?_ | refine w_eql ?_ | refine w_neq ?_ | refine w_lenSl ?_ | refine w_lenStr ?_ | refine w_not ?_ | refine w_add (by omega) (by omega) ?_ | refine w_sub (by omega) (by omega) ?_ | refine w_rem (by omega) (by omega) ?_ | refine w_quo (by omega) (by omega) (by omega) ?_ | refine w_seql ?_ | refine w_sneq ?_ | refine c_t ?_ | refine c_f ?_ | refine c_tt (by first | assumption | omega) ?_ | refine c_ff (by first | assumption | omega) ?_ | refine c_dec (fun hc => ?_) (fun hc => ?_) | refine c_b (fun hc => ?_) (fun hc => ?_) | refine gc_tt ?_ | refine gc_ft ?_ | refine gc_tf ?_ | refine gc_ff ?_ | refine g_tt (by first | assumption | omega) ?_ | refine g_tf (by first | assumption | omega) ?_ | refine g_ft (by first | assumption | omega) ?_ | refine g_ff (by first | assumption | omega) ?_ | refine g_dec (fun hc => ?_) (fun hc => ?_) | refine g_decf (fun hc => ?_) (fun hc => ?_) | refine pk_t ?_ | refine pk_f ?_ | refine pk_tt (by first | assumption | omega) ?_ | refine pk_ff (by first | assumption | omega) ?_))
  · rw [q1 (by assumption)]; exact k
  · rw [q2 (by assumption)]; exact k
end Go.Proofs.Ytlenlhlipmkeeaa.W
end

section
/- The law's 'turned' as Go's model has it: a text with a byte turned is a text no longer than it was. Conditions: none. -/
namespace Go.Proofs.Ytlenlhlipmkeeaa.W
open Go Go.AM Go.Proofs Go.RowKit
set_option maxRecDepth 100000
set_option maxHeartbeats 1600000
theorem within_kit (a n : Int) (h1 : 0 < n) (h2 : n ≤ 1152921504606846976) (w : World) : Calls Try.prog 15 #[.int .i64 a, .int .i64 n] w fun e w' => e = .returned (.int .i64 (a % n)) ∧ w' = w := by
  obtain ⟨_, q1, q2, q3, q4⟩ := tmod_emod a n h1
  go_enter Try.func15, Try.ntmps15
  go_wp2
  · go_ret
    exact ⟨rfl, rfl⟩
  · go_ret
    rw [← q2 (by omega)]
    exact ⟨rfl, rfl⟩
theorem turned_kit (s : List UInt8) (hs : s.length ≤ 1000000) (a b : Int) (w : World) :
    Calls Try.prog 16 #[.string (bs s), .int .i64 a, .int .u8 b] w fun e w' => (∃ v, e = .returned v ∧ ∃ s' : List UInt8, s'.length ≤ 1000000 ∧ v = .string (bs s')) ∧ Below w.heap.size w w' := by
  by_cases hz : s = []
  · subst hz
    go_enter Try.func16, Try.ntmps16
    go_wp2
    · go_ret
      exact ⟨⟨_, rfl, [], by simp, rfl⟩, .refl _ _⟩
    · have hx : (bs []).toList.isEmpty = false := by assumption
      have hy : (bs []).toList.isEmpty = true := by
        unfold ByteArray.toList ByteArray.toList.loop
        rfl
      rw [hy] at hx
      cases hx
  have hn : 0 < s.length := List.length_pos_iff.2 hz
  have hne : bs s ≠ bs [] := by
    intro e
    injection e with e
    injection e with e
    exact hz e
  have hcv := Lib.run_convert_string_bytes (P := Try.prog) w 9 54 5 (bs s) (u := .string) Try.underlying9 Try.underlying54 Try.underlying5
  have hsz : (bs s).size = s.length := rfl
  have hbw : Below w.heap.size w (Lib.bytesWorld w 5 (bs s)) := ⟨rfl, rfl, rfl, by rw [Lib.bytesWorld_size]; omega, fun j hj => Lib.bytesWorld_at_old w 5 (bs s) j hj⟩
  have hcell := Lib.bytesWorld_cell w 5 (bs s)
  have hgc := grownCap_bounds w (bs s).size 0 5 (by rw [hsz]; omega)
  have hfr : ∀ j, j < s.length → (Lib.bytesWorld w 5 (bs s)).frozen? ⟨w.heap.size, j, none⟩ = false := by
    intro j hj
    simp [World.frozen?, Lib.bytesWorld_at_new, Lib.bytesCells, hsz]
    omega
  have hsize := Lib.bytesWorld_size w 5 (bs s)
  have hk : 0 ≤ a % (s.length : Int) ∧ a % (s.length : Int) < s.length := ⟨Int.emod_nonneg _ (by omega), Int.emod_lt_of_pos _ (by omega)⟩
  generalize Lib.bytesWorld w 5 (bs s) = W1 at *
  rw [hsz] at *
  generalize hkk : a % (s.length : Int) = k at *
  have hback : ∀ x : Int, (convert 54 9 (.slice (some ⟨w.heap.size, 0, none⟩) s.length (grownCap w s.length 0 5))).run Try.prog (W1.setCell ⟨w.heap.size, k.toNat, none⟩ (.int .u8 x)) = .ok (.string (strOfNums ((s.map fun c => (c.toNat : Int)).set k.toNat x))) (W1.setCell ⟨w.heap.size, k.toNat, none⟩ (.int .u8 x)) := by
    intro x
    refine run_convert_bytes_arg _ 54 5 Try.underlying54 Try.underlying5 w.heap.size 0 s.length _ _ (by simp) (fun i hi => ?_) 9 Try.underlying9
    rw [Nat.zero_add]
    by_cases e : i = k.toNat
    · subst e
      rw [World.cell?_setCell_same _ _ _ (hcell _ hi)]
      simp [List.getD, hi]
    · rw [World.cell?_setCell_other _ _ _ _ (by intro h; simp only [Addr.mk.injEq] at h; omega), hcell i hi]
      have e2 : ¬ k.toNat = i := fun h => e h.symm
      simp [List.getD, e2, hi, bs]
  go_enter Try.func16, Try.ntmps16
  go_wp2_with (go_at_call 15; refine (within_kit a s.length (by omega) (by omega) W1).mono ?_; rintro e W2 ⟨rfl, rfl⟩)
  · go_ret
    exact ⟨⟨_, rfl, s, hs, rfl⟩, .refl _ _⟩
  · go_ret
    refine ⟨⟨_, rfl, ((s.map fun c => (c.toNat : Int)).set k.toNat _).map fun n => UInt8.ofNat n.toNat, by simpa using hs, rfl⟩, hbw.setCell (Nat.le_refl _) _⟩
end Go.Proofs.Ytlenlhlipmkeeaa.W
end

section
/- strings.Join of this program is the kit's. Conditions: none. -/
namespace Go.Proofs.Ytlenlhlipmkeeaa.W
open Go Go.AM Go.Proofs Go.Shelf
set_option maxRecDepth 100000
def jf : Nat → Nat := fun x => cond (Nat.beq x 156) 88 ( cond (Nat.beq x 165) 94 ( cond (Nat.beq x 166) 95 ( cond (Nat.beq x 169) 96 ( cond (Nat.beq x 240) 100 ( cond (Nat.beq x 241) 101 ( cond (Nat.beq x 276) 102 ( cond (Nat.beq x 277) 103 (x))))))))
def jt : Nat → Nat := fun x => cond (Nat.beq x 0) 0 ( cond (Nat.beq x 3) 3 ( cond (Nat.beq x 4) 4 ( cond (Nat.beq x 5) 5 ( cond (Nat.beq x 9) 9 ( cond (Nat.beq x 20) 20 ( cond (Nat.beq x 31) 30 ( cond (Nat.beq x 37) 54 ( cond (Nat.beq x 70) 131 ( cond (Nat.beq x 72) 133 ( cond (Nat.beq x 75) 136 ( cond (Nat.beq x 76) 137 ( cond (Nat.beq x 80) 75 ( cond (Nat.beq x 127) 140 ( cond (Nat.beq x 164) 141 (x)))))))))))))))
def ren : Ren := ⟨jf, jt, fun x => x⟩
theorem lays : Lays.n156 Try.prog ren where
  mixed := by kernel_rfl
  f156 := by kernel_rfl
  f165 := by kernel_rfl
  f166 := by kernel_rfl
  f169 := by kernel_rfl
  f240 := by kernel_rfl
  f241 := by kernel_rfl
  f276 := by kernel_rfl
  f277 := by kernel_rfl
  t0 := Try.underlying0
  a0 := Try.isAgg0
  z0 := Try.sizeOf0
  v0 := Try.zeroValue0
  t3 := Try.underlying3
  a3 := Try.isAgg3
  z3 := Try.sizeOf3
  v3 := Try.zeroValue3
  t4 := Try.underlying4
  a4 := Try.isAgg4
  z4 := Try.sizeOf4
  v4 := Try.zeroValue4
  t9 := Try.underlying9
  a9 := Try.isAgg9
  z9 := Try.sizeOf9
  v9 := Try.zeroValue9
  t20 := Try.underlying20
  a20 := Try.isAgg20
  z20 := Try.sizeOf20
  v20 := Try.zeroValue20
  t31 := Try.underlying30
  a31 := Try.isAgg30
  z31 := Try.sizeOf30
  v31 := Try.zeroValue30
  t37 := Try.underlying54
  a37 := Try.isAgg54
  z37 := Try.sizeOf54
  v37 := Try.zeroValue54
  t70 := Try.underlying131
  a70 := Try.isAgg131
  z70 := Try.sizeOf131
  v70 := Try.zeroValue131
  t72 := Try.underlying133
  a72 := Try.isAgg133
  z72 := Try.sizeOf133
  v72 := Try.zeroValue133
  t75 := Try.underlying136
  a75 := Try.isAgg136
  z75 := Try.sizeOf136
  v75 := Try.zeroValue136
  t76 := Try.underlying137
  a76 := Try.isAgg137
  z76 := Try.sizeOf137
  v76 := Try.zeroValue137
  t127 := Try.underlying140
  a127 := Try.isAgg140
  z127 := Try.sizeOf140
  v127 := Try.zeroValue140
  t164 := Try.underlying141
  a164 := Try.isAgg141
  z164 := Try.sizeOf141
  v164 := Try.zeroValue141
theorem extra : Builder.Extra Try.prog ren where
  sizeBuilder := by kernel_rfl
  liesBuilder := by kernel_rfl
  t5 := Try.underlying5
  a5 := Try.isAgg5
  z5 := Try.sizeOf5
  v5 := Try.zeroValue5
  infoByte := by kernel_rfl
  cellsByte := by kernel_rfl
  sizeByte := by kernel_rfl
  neB5 := by decide
theorem join88 : isJoin Try.prog 88 := ⟨ren, rfl, lays, extra⟩
end Go.Proofs.Ytlenlhlipmkeeaa.W
end
