/- FoldKnown's, FoldPushed's walks. Conditions: none. -/
import Derived.Test.YtnpbehfhncbjfaaQA2
import Derived.Test.YtnpbehfhncbjfaaQS3
namespace Go.Proofs.Ytnpbehfhncbjfaa.W
open Go Go.AM
set_option maxRecDepth 100000

theorem within16 (a n : Int) (h : AH) (K : Value → AH → Prop) (h1 : 0 < n) (h2 : n ≤ 1152921504606846976)
   (k : K (.int .i64 (a % n)) h) : callW Try.prog 16 [.int .i64 a, .int .i64 n] h K := by
  obtain ⟨_, q1, q2, q3, q4⟩ := tmod_emod a n h1
  refine c16 ?_
  unfold s16
  refine w_tmod (by omega) ?_
  generalize hm : a.tmod n = m at *
  (repeat' (first | (with_reducible refine w_lss ?_) | (with_reducible refine w_leq ?_) | (with_reducible refine w_gtr ?_) | (with_reducible refine w_geq ?_) | (with_reducible refine w_eql ?_) | (with_reducible refine w_neq ?_) | (with_reducible refine w_lenSl ?_) | (with_reducible refine w_lenStr ?_) | (with_reducible refine w_not ?_) | (with_reducible refine w_add (by omega) (by omega) ?_) | (with_reducible refine w_sub (by omega) (by omega) ?_) | (with_reducible refine w_rem (by omega) (by omega) ?_) | (with_reducible refine w_quo (by omega) (by omega) (by omega) ?_) | (with_reducible refine w_seql ?_) | (with_reducible refine w_sneq ?_) | (with_reducible refine c_t ?_) | (with_reducible refine c_f ?_) | (with_reducible refine c_tt (by first | assumption | omega) ?_) | (with_reducible refine c_ff (by first | assumption | omega) ?_) | (with_reducible refine c_dec (fun hc => ?_) (fun hc => ?_)) | (with_reducible refine c_b (fun hc => ?_) (fun hc => ?_)) | (with_reducible refine gc_tt ?_) | (with_reducible refine gc_ft ?_) | (with_reducible refine gc_tf ?_) | (with_reducible refine gc_ff ?_) | (with_reducible refine g_tt (by first | assumption | omega) ?_) | (with_reducible refine g_tf (by first | assumption | omega) ?_) | (with_reducible refine g_ft (by first | assumption | omega) ?_) | (with_reducible refine g_ff (by first | assumption | omega) ?_) | (with_reducible refine g_dec (fun hc => ?_) (fun hc => ?_)) | (with_reducible refine g_decf (fun hc => ?_) (fun hc => ?_)) | (with_reducible refine pk_t ?_) | (with_reducible refine pk_f ?_) | (with_reducible refine pk_tt (by first | assumption | omega) ?_) | (with_reducible refine pk_ff (by first | assumption | omega) ?_)))
  · rw [q1 (by assumption)]; exact k
  · rw [q2 (by assumption)]; exact k

theorem known_ran : callB Try.prog noOrc 10000 30 13 [] hs0 (fun v _ => isTrueV v) = true := by kernel_rfl
end Go.Proofs.Ytnpbehfhncbjfaa.W
