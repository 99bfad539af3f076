/- FeedEnds: the walk. Conditions: none. -/
import Derived.Test.YtebbjimmgblcpaaQF30
import Derived.Test.YtebbjimmgblcpaaQS0
namespace Go.Proofs.Ytebbjimmgblcpaa.W
open Go Go.AM FeedM
set_option linter.unusedVariables false
set_option maxRecDepth 100000

theorem newM {h : AH} {v0 vm : Value} {l : List Sy} {m : Mach} {deep : Int} {K : Value → AH → Prop} (hl : Syms h v0 l) (hm : MV h vm m) (lc : l ∈ symChoices) (ok : MkOK l m 25)
    (k : ∀ h' f F', Ex h h' → FR h' f (FeedM.new l m deep) F' → (∀ j, F' j → h.length ≤ j) → K (.pointer (some ⟨f, 0, none⟩)) h') :
    callW Try.prog 22 [v0, vm, .int .i64 deep] h K := by
  have := small_choices l lc
  have := big40
  have := ok.cnt
  exact newA hl hm (by omega) (by omega) (by omega) (by omega) (by omega) (by omega) k
theorem fit_mk {l : List Sy} {m : Mach} (lc : l ∈ symChoices) (ok : MkOK l m 25) (d : Int) : Fit (FeedM.new l m d) 1000000 := by
  have := small_choices l lc
  have := big40
  have := ok.cnt
  exact Fit.new (by simp only [Uof, List.length_append, List.length_map]; omega) (by omega) (by omega) (by omega)

theorem shut_err {st : FS} (h : st.e ≠ 0) : FeedM.shut st = { st with closed := true } := by
  unfold FeedM.shut FeedM.shut1
  rw [if_neg h]
  unfold FeedM.shut2
  split
  · rfl
  · unfold FeedM.wrong
    rw [if_neg h]

theorem endsTail {h : AH} {f g : Nat} {st st2 : FS} {F G : Nat → Prop} {more : List UInt8} {b : Nat} {K : Value → AH → Prop} (r : FR h f st F) (hcl : st.closed = true) (rg : FR h g st2 G) (hcg : st2.closed = false) (fg : Fit st2 (b + 2)) (hd : ∀ j, G j → ¬ F j) (hm : more.length < room40) (k : ∀ h', K (.bool true) h') :
    callW Try.prog 31 [(.pointer (some ⟨f, 0, none⟩))] h fun v123_1 h_64 =>
    strB (.string (bs more)) none h_64 fun v127_1 h_65 =>
    callW Try.prog 23 [(.pointer (some ⟨f, 0, none⟩)), v127_1] h_65 fun v128_1 h_66 =>
    optW (pExtract v128_1 0) fun v129_1 =>
    optW (pExtract v128_1 1) fun v130_1 =>
    callW Try.prog 24 [(.pointer (some ⟨f, 0, none⟩))] h_66 fun v133_1 h_67 =>
    optW (pExtract v133_1 0) fun v134_1 =>
    optW (pExtract v133_1 1) fun v135_1 =>
    optW (pExtract v133_1 2) fun v136_1 =>
    callW Try.prog 24 [(.pointer (some ⟨g, 0, none⟩))] h_67 fun v138_1 h_68 =>
    callW Try.prog 23 [(.pointer (some ⟨g, 0, none⟩)), (.slice none 0 0)] h_68 fun v141_1 h_69 =>
    optW (pExtract v141_1 0) fun v142_1 =>
    optW (pExtract v141_1 1) fun v143_1 =>
    optW (pBin Try.prog .eql 3 v129_1 (.int .i64 0)) fun v145_1 =>
    gopW (gB v145_1 true) (fun k_39 =>
    k_39 v130_1 h_69) h_69 fun v147_1 h_70 =>
    gopW (gB v145_1 true) (fun k_40 =>
    optW (pBin Try.prog .eql 42 v147_1 (.int .i64 14)) fun v148_3 =>
    k_40 v148_3 h_70) h_70 fun v148_2 h_71 =>
    optW (pPick v145_1 v148_2 (.bool false)) fun v149_1 =>
    gopW (gB v149_1 true) (fun k_41 =>
    k_41 v134_1 h_71) h_71 fun v151_1 h_72 =>
    gopW (gB v149_1 true) (fun k_42 =>
    optW (pUn .not v151_1) fun v152_3 =>
    k_42 v152_3 h_72) h_72 fun v152_2 h_73 =>
    optW (pPick v149_1 v152_2 (.bool false)) fun v153_1 =>
    gopW (gB v153_1 true) (fun k_43 =>
    k_43 v135_1 h_73) h_73 fun v155_1 h_74 =>
    gopW (gB v153_1 true) (fun k_44 =>
    optW (pBin Try.prog .eql 3 v155_1 (.int .i64 0)) fun v156_3 =>
    k_44 v156_3 h_74) h_74 fun v156_2 h_75 =>
    optW (pPick v153_1 v156_2 (.bool false)) fun v157_1 =>
    gopW (gB v157_1 true) (fun k_45 =>
    k_45 v136_1 h_75) h_75 fun v159_1 h_76 =>
    gopW (gB v157_1 true) (fun k_46 =>
    optW (pBin Try.prog .eql 42 v159_1 (.int .i64 14)) fun v160_3 =>
    k_46 v160_3 h_76) h_76 fun v160_2 h_77 =>
    optW (pPick v157_1 v160_2 (.bool false)) fun v161_1 =>
    gopW (gB v161_1 true) (fun k_47 =>
    k_47 (.pointer (some ⟨f, 0, none⟩)) h_77) h_77 fun v163_1 h_78 =>
    gopW (gB v161_1 true) (fun k_48 =>
    callW Try.prog 31 [v163_1] h_78 fun v164_3 h_80 =>
    k_48 v164_3 h_80) h_78 fun v164_2 h_79 =>
    gopW (gB v161_1 true) (fun k_49 =>
    k_49 v123_1 h_79) h_79 fun v165_1 h_81 =>
    gopW (gB v161_1 true) (fun k_50 =>
    optW (pBin Try.prog .eql 3 v164_2 v165_1) fun v166_3 =>
    k_50 v166_3 h_81) h_81 fun v166_2 h_82 =>
    optW (pPick v161_1 v166_2 (.bool false)) fun v167_1 =>
    gopW (gB v167_1 true) (fun k_51 =>
    k_51 v143_1 h_82) h_82 fun v169_1 h_83 =>
    gopW (gB v167_1 true) (fun k_52 =>
    optW (pBin Try.prog .eql 42 v169_1 (.int .i64 14)) fun v170_3 =>
    k_52 v170_3 h_83) h_83 fun v170_2 h_84 =>
    optW (pPick v167_1 v170_2 (.bool false)) fun v171_1 =>
    K v171_1 h_84 := by
  have z0 : (0 : Int) = 0 := rfl
  have z14 : (14 : Int) = 14 := rfl
  refine deep31 r ?_
  refine w_strB hm fun v h2 x2 l2 sv id2 => ?_
  refine write23c (r.ex x2) hcl (w_some rfl (w_some rfl ?_))
  refine close24c (r.ex x2) hcl (w_some rfl (w_some rfl (w_some rfl ?_)))
  refine close24 (rg.ex x2) fg hcg fun h3 G3 c r3 c3 _ => ?_
  obtain ⟨r4, _⟩ := (r.ex x2).other c3 hd
  refine write23c r3 rfl (w_some rfl (w_some rfl (w_eql ?_)))
  refine g_tt z0 (g_tt z0 (w_eql (pk_tt z0 ?_)))
  refine g_tt z14 (g_tt z14 (w_notb (pk_tt z14 ?_)))
  refine gc_tt (gc_tt (w_eql (pk_t ?_)))
  refine g_tt z0 (g_tt z0 (w_eql (pk_tt z0 ?_)))
  refine g_tt z14 (g_tt z14 (deep31 r4 (g_tt z14 (g_tt z14 (w_eql (pk_tt z14 ?_))))))
  have zu : ((st.under.length : Nat) : Int) = (st.under.length : Nat) := rfl
  refine g_tt zu (g_tt zu (w_eql (pk_tt zu ?_)))
  rw [decide_eq_true z14]
  exact k _

theorem ends7 (h : AH) (a : Int) (_ : I64 a) (size : Int) (hs : I64 size) (v1 : Value) (ns : List Int) (i1 : Ints h v1 ns) (_ : ∀ n ∈ ns, I64 n) (raw : List UInt8) (_ : raw.length ≤ maxLen) (more : List UInt8) (_ : more.length ≤ maxLen) (hm : h.length = 1) :
    callW Try.prog 7 [.int .i64 a, .int .i64 size, v1, .string (bs raw), .string (bs more)] h fun v _ => v = .bool true := by
  refine c7 ?_
  unfold s7
  refine known13 (.inl hm) fun h1 x1 => ?_
  refine w_notb (c_f ?_)
  have mx : (10000000 : Nat) < room40 := big40
  refine w_lenStr (w_gtr ?_)
  by_cases q1 : (100 : Int) < (raw.length : Nat)
  · iterate 3 refine g_ft q1 ?_
    refine pk_tt q1 ?_
    iterate 3 refine gc_ft ?_
    refine pk_t ?_
    iterate 3 refine gc_ft ?_
    exact pk_t (c_t rfl)
  refine g_ff q1 (g_ff q1 (w_lenStr (g_ff q1 (w_gtr (pk_ff q1 ?_)))))
  by_cases q2 : (100 : Int) < (more.length : Nat)
  · iterate 3 refine g_ft q2 ?_
    refine pk_tt q2 ?_
    iterate 3 refine gc_ft ?_
    exact pk_t (c_t rfl)
  refine g_ff q2 (g_ff q2 (opens20 (by omega) fun n1 => g_ff q2 (w_gtr (pk_ff q2 ?_))))
  by_cases q3 : (7 : Int) < n1
  · iterate 3 refine g_ft q3 ?_
    exact pk_tt q3 (c_t rfl)
  refine g_ff q3 (g_ff q3 (opens20 (by omega) fun n2 => g_ff q3 (w_gtr (pk_ff q3 ?_))))
  refine c_dec (fun _ => rfl) (fun q4 => ?_)
  refine syms14 (i1.ex x1) fun vl h2 l x2 hl lc => ?_
  obtain ⟨l0, l7⟩ := small_choices l lc
  refine one15 hl (by omega) hs (i1.ex (x1.trans x2)) fun h3 vm m x3 mv ok ne => ?_
  refine boxA mv fun h4' h4 x4 bx l4 => ?_
  refine bx.rd fun v58 mv58 => ?_
  have hl4 := hl.ex (x3.trans x4)
  refine newM hl4 mv58 lc ok fun h5 f F x5 rf lowf => ?_
  refine ⟨idp x5 l4, ?_⟩
  refine (bx.ex x5).rd fun v61 mv61 => ?_
  refine newM (hl4.ex x5) mv61 lc ok fun h6 g G x6 rg lowg => ?_
  refine w_some rfl (gc_ff (gc_ff (w_some rfl (pk_f (c_f ?_)))))
  have f0 := fit_mk lc ok 4
  have lf := rf.lt
  have dfg : ∀ j, F j → ¬ G j := fun j h1 h2 => by have := lf j h1; have := lowg j h2; omega
  refine writeS (b := 10000) (rf.ex x6) (f0.mono (by omega)) rfl fun vb h7 F7 r7 c7 => ?_
  have f7 : Fit (FeedM.write (FeedM.new l m 4) raw) 10000 := Fit.write (f0.mono (by omega))
  have cl7 : (FeedM.write (FeedM.new l m 4) raw).closed = false := by rw [write_closed]; rfl
  obtain ⟨g7, d7⟩ := rg.other c7 dfg
  refine w_some rfl (w_some rfl (deep31 r7 (w_neq ?_)))
  generalize FeedM.write (FeedM.new l m 4) raw = st at *
  refine c_dec (fun q5 => ?_) (fun q5 => ?_)
  · refine writeS (b := 5000) r7 (f7.mono (by omega)) cl7 fun vb2 h8 F8 r8 c8 => ?_
    rw [write_err q5] at r8 ⊢
    obtain ⟨g8, d8⟩ := g7.other c8 d7
    refine w_some rfl (w_some rfl ?_)
    refine close24 r8 (f7.mono (c := 5000 + 2) (by omega)) cl7 fun h9 F9 c r9 c9 hc => ?_
    obtain ⟨g9, d9⟩ := g8.other c9 d8
    rw [shut_err q5] at r9 hc ⊢
    have hcf : c = false := by
      cases c with
      | false => rfl
      | true => exact (q5 (hc.1 rfl).1).elim
    subst hcf
    refine w_some rfl (w_some rfl (w_some rfl (w_neq ?_)))
    have zp : ¬ ¬ (st.place = st.place) := fun h => h rfl
    have ze : ¬ ¬ (st.e = st.e) := fun h => h rfl
    refine g_ff zp (g_ff zp (g_ff zp (w_neq (pk_ff zp ?_))))
    refine g_ff ze (pk_ff ze ?_)
    refine gc_ff (gc_ff (gc_ff (w_neq (pk_f ?_))))
    refine g_ff zp (g_ff zp (g_ff zp (w_neq (pk_ff zp ?_))))
    refine g_ff ze (g_ff ze (deep31 r9 (g_ff ze (g_ff ze (w_neq (pk_ff ze ?_))))))
    refine c_ff (fun h => h rfl) ?_
    exact endsTail r9 rfl g9 rfl (f0.mono (c := 5000 + 2) (by omega)) (fun j h1 h2 => d9 j h2 h1) (by omega) fun _ => rfl
  · refine close24 r7 (f7.mono (c := 5000 + 2) (by omega)) cl7 fun h9 F9 c r9 c9 hc => ?_
    obtain ⟨g9, d9⟩ := g7.other c9 d7
    exact endsTail r9 rfl g9 rfl (f0.mono (c := 5000 + 2) (by omega)) (fun j h1 h2 => d9 j h2 h1) (by omega) fun _ => rfl
end Go.Proofs.Ytebbjimmgblcpaa.W
