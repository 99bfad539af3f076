/- A new feed; a feed is closed: the walks. Conditions: none. -/
import Derived.Test.YtebbjimmgblcpaaQF12
namespace Go.Proofs.Ytebbjimmgblcpaa.W
open Go Go.AM FeedM
set_option linter.unusedVariables false
set_option maxRecDepth 100000

theorem hist_all {b : Array Nat} {j : Nat} {xs : List Nat} {K : Prop} (k : K) : ∀ {H : HT}, (∀ t ∈ H, ∀ x ∈ xs, t.2.1[x]? = t.2.2[x]?) → histC b j xs H K
  | [], _ => k
  | t :: H, hall => by
    unfold histC
    split
    · exact ⟨hall t (by simp), hist_all k fun u hu => hall u (by simp [hu])⟩
    · exact hist_all k fun u hu => hall u (by simp [hu])
theorem read_all {b : Array Nat} {j : Nat} {hb ha : AH} {K : Prop} (k : K) : ∀ {S : ST}, (∀ t ∈ S, ∀ x ∈ t.2, hb[x]? = ha[x]?) → readC b j hb ha S K
  | [], _ => k
  | t :: S, hall => by
    unfold readC
    split
    · exact ⟨hall t (by simp), read_all k fun u hu => hall u (by simp [hu])⟩
    · exact read_all k fun u hu => hall u (by simp [hu])

theorem shuttail {h : AH} {f : Nat} {st : FS} {F : Nat → Prop} {b1 b2 : Array Nat} {b3 : Array Nat} {K : Value → AH → Prop} (r : FR h f st F) (hb : st.m.final.length < room40)
    (kk : ∀ h' b, FR h' f { st with closed := true } F → Chg F h F h' → (b = true ↔ st.e = 0 ∧ isFinal st) → K (.tuple #[.bool b, .int .i64 st.place, .int .i64 st.e]) h') :
    optW (pNilCheck (.pointer (some ⟨f, 0, none⟩))) fun v31 => optW (pOff 18 v31) fun v32 => optW (pStore 1 v32 (.bool true) h) fun h_3 =>
    optW (pNilCheck (.pointer (some ⟨f, 0, none⟩))) fun v34 => optW (pOff 16 v34) fun v35 => optW (rdRow false 1 v35 h_3) fun v36 => optW (pBin Try.prog .eql 42 v36 (.int .i64 0)) fun v37 =>
    gopD (gB v37 true) (fun k => k (.pointer (some ⟨f, 0, none⟩)) h_3 [] ((3, (idOf v35)) :: [])) h_3 [] ((3, (idOf v35)) :: []) fun v39 h_4 H S =>
    gopD (gB v37 true) (fun k_1 => optW (pNilCheck v39) fun v40_1 => k_1 v40_1 h_4 H S) h_4 H S fun v40 h_5 H_1 S_1 =>
    gopD (gB v37 true) (fun k_2 => optW (pOff 0 v40) fun v41_1 => k_2 v41_1 h_5 H_1 S_1) h_5 H_1 S_1 fun v41 h_6 H_2 S_2 =>
    gopD (gB v37 true) (fun k_3 => callW Try.prog 49 [v41] h_6 fun v42_1 h_8 => readC b1 9 h_6 h_8 S_2 (k_3 v42_1 h_8 ((9, h_6, h_8) :: H_2) S_2)) h_6 H_2 S_2 fun v42 h_7 H_3 S_3 =>
    optW (pPick v37 v42 (.bool false)) fun v43 =>
    optW (pNilCheck (.pointer (some ⟨f, 0, none⟩))) fun v45 => optW (pOff 17 v45) fun v46 =>
    histC b2 14 (idOf v46) H_3 (
      optW (rdRow false 1 v46 h_7) fun v47 =>
      optW (pNilCheck (.pointer (some ⟨f, 0, none⟩))) fun v49 => optW (pOff 16 v49) fun v50 =>
      histC b3 18 (idOf v50) H_3 (
        optW (rdRow false 1 v50 h_7) fun v51 => K (.tuple #[v43, v47, v51]) h_7)) := by
  obtain ⟨V, hr, bb⟩ := r
  have hlt := lt_of_get hr
  refine w_nilc (w_offP ?_)
  refine w_stP hr (by simp [rowOf]) rfl rfl ?_
  have r1 : FR (h.set f (.row ((rowOf V st).set (0 + 18) (.bool true)) true)) f { st with closed := true } F :=
    ⟨V, by rw [get_set _ hlt]; rfl, (bb.setf _).to rfl rfl rfl rfl rfl rfl⟩
  have c1 : Chg F h F (h.set f (.row ((rowOf V st).set (0 + 18) (.bool true)) true)) := Chg.setf bb.ff _
  generalize h.set f (.row ((rowOf V st).set (0 + 18) (.bool true)) true) = h1 at *
  have r10 := r1
  obtain ⟨V1, hr1, bb1⟩ := r1
  have hlt1 := lt_of_get hr1
  refine w_nilc (w_offP (w_rdP hr1 (v := .int .i64 st.e) rfl (w_eql ?_)))
  by_cases q : st.e = 0
  · refine gd_tt q (gd_tt q (w_nilc (gd_tt q (w_offP (gd_tt q ?_)))))
    refine final49 r10 hb fun h2 b x2 hbf => ?_
    refine read_all ?_ fun t ht x hx => ?_
    · refine pk_tt q ?_
      refine w_nilc (w_offP (hist_all ?_ fun t ht x hx => ?_))
      · refine w_rdP (x2.some hr1) (v := .int .i64 st.place) rfl ?_
        refine w_nilc (w_offP (hist_all ?_ fun t ht x hx => ?_))
        · refine w_rdP (x2.some hr1) (v := .int .i64 st.e) rfl ?_
          exact kk _ _ (r10.ex x2) (c1.trans (Chg.ex x2)) ⟨fun h => ⟨q, hbf.1 h⟩, fun h => hbf.2 h.2⟩
        · obtain rfl := List.mem_singleton.1 ht
          have : x = f := by simpa [idOf] using hx
          rw [this]
          exact (x2.get f hlt1).symm
      · obtain rfl := List.mem_singleton.1 ht
        have : x = f := by simpa [idOf] using hx
        rw [this]
        exact (x2.get f hlt1).symm
    · obtain rfl := List.mem_singleton.1 ht
      have : x = f := by simpa [idOf] using hx
      rw [this]
      exact (x2.get f hlt1).symm
  · refine gd_tf q (gd_tf q (gd_tf q (gd_tf q (pk_ff q ?_))))
    refine w_nilc (w_offP (hist_nil ?_))
    refine w_rdP hr1 (v := .int .i64 st.place) rfl ?_
    refine w_nilc (w_offP (hist_nil ?_))
    refine w_rdP hr1 (v := .int .i64 st.e) rfl ?_
    exact kk _ _ r10 c1 ⟨fun h => (by cases h), fun h => (q h.1).elim⟩

theorem close24 {h : AH} {f : Nat} {st : FS} {F : Nat → Prop} {b : Nat} {K : Value → AH → Prop} (r : FR h f st F) (ft : Fit st (b + 2)) (hcl : st.closed = false)
    (kk : ∀ h' F' c, FR h' f (FeedM.shut st) F' → Chg F h F' h' → (c = true ↔ (FeedM.shut st).e = 0 ∧ isFinal (FeedM.shut st)) → K (.tuple #[.bool c, .int .i64 (FeedM.shut st).place, .int .i64 (FeedM.shut st).e]) h') :
    callW Try.prog 24 [.pointer (some ⟨f, 0, none⟩)] h K := by
  have r0 := r
  obtain ⟨V, hr, bb⟩ := r
  refine c24 ?_
  unfold s24
  refine w_nilc (w_offP (w_rdP hr (v := .bool st.closed) rfl ?_))
  rw [hcl]
  refine c_f ?_
  refine w_nilc (w_offP (w_rdP hr (v := .int .i64 st.e) rfl (w_eql ?_)))
  have fin2 : ∀ h1 F1 st1, FR h1 f st1 F1 → Chg F h F1 h1 → Fit st1 b → FeedM.shut1 st = st1 → ∀ V1, h1[f]? = some (.row (rowOf V1 st1) true) → FRB h1 f V1 st1 F1 →
      (∀ h2, FR h2 f (FeedM.shut2 st1) F1 → Chg F h F1 h2 → (FeedM.shut2 st1).m.final.length < room40 ∧ ∀ h' c, FR h' f { FeedM.shut2 st1 with closed := true } F1 → Chg F1 h2 F1 h' → (c = true ↔ (FeedM.shut2 st1).e = 0 ∧ isFinal (FeedM.shut2 st1)) →
        K (.tuple #[.bool c, .int .i64 (FeedM.shut2 st1).place, .int .i64 (FeedM.shut2 st1).e]) h') := by
    intro h1 F1 st1 r1 c1 t1 hs1 V1 hr1 bb1 h2 r2 c2
    subst hs1
    have t2 : Fit (FeedM.shut2 (FeedM.shut1 st)) b := by
      unfold FeedM.shut2
      split
      · exact t1
      · exact t1.wrong
    refine ⟨t2.fin, fun h' c r' c' hc => kk _ _ _ r' (c2.trans c') hc⟩
  refine c_dec (fun q => ?_) (fun q => ?_)
  · refine ended47 r0 ft fun h1 F1 r1 c1 => ?_
    have hs1 : FeedM.shut1 st = FeedM.ended st := by unfold FeedM.shut1; rw [if_pos q]
    have r10 := r1
    obtain ⟨V1, hr1, bb1⟩ := r1
    have key := fin2 h1 F1 _ r10 c1 ft.ended hs1 V1 hr1 bb1
    refine w_nilc (w_offP (w_offP (w_rdP hr1 (v := V1.vs) rfl ?_)))
    refine w_len bb1.s.sl (w_gtr ?_)
    refine c_dec (fun q1 => ?_) (fun q1 => ?_)
    · refine w_nilc (w_offP (w_offP (w_rdP hr1 (v := .int .i64 (FeedM.ended st).at_) rfl ?_)))
      have e2 : FeedM.shut2 (FeedM.ended st) = FeedM.wrong (FeedM.ended st) 12 (FeedM.ended st).at_ := by
        unfold FeedM.shut2
        split
        · rename_i h; rw [h] at q1; simp at q1
        · rfl
      refine wrong48 r10 fun h2 r2 c2 => ?_
      rw [← e2] at r2
      obtain ⟨k1, k2⟩ := key h2 r2 (c1.trans c2)
      exact shuttail r2 k1 fun h' b r' c' hb => k2 _ _ r' c' hb
    · have e2 : FeedM.shut2 (FeedM.ended st) = FeedM.ended st := by
        unfold FeedM.shut2
        split
        · rfl
        · rename_i h; rw [h] at q1; simp only [List.length_cons] at q1; omega
      rw [e2] at key
      obtain ⟨k1, k2⟩ := key h1 r10 c1
      exact shuttail r10 k1 fun h' b r' c' hb => k2 _ _ r' c' hb
  · have hs1 : FeedM.shut1 st = st := by unfold FeedM.shut1; rw [if_neg q]
    have key := fin2 h F _ r0 (Chg.refl _ _) (ft.mono (by omega)) hs1 V hr bb
    refine w_nilc (w_offP (w_offP (w_rdP hr (v := V.vs) rfl ?_)))
    refine w_len bb.s.sl (w_gtr ?_)
    refine c_dec (fun q1 => ?_) (fun q1 => ?_)
    · refine w_nilc (w_offP (w_offP (w_rdP hr (v := .int .i64 st.at_) rfl ?_)))
      have e2 : FeedM.shut2 st = FeedM.wrong st 12 st.at_ := by
        unfold FeedM.shut2
        split
        · rename_i h; rw [h] at q1; simp at q1
        · rfl
      refine wrong48 r0 fun h2 r2 c2 => ?_
      rw [← e2] at r2
      obtain ⟨k1, k2⟩ := key h2 r2 c2
      exact shuttail r2 k1 fun h' b r' c' hb => k2 _ _ r' c' hb
    · have e2 : FeedM.shut2 st = st := by
        unfold FeedM.shut2
        split
        · rfl
        · rename_i h; rw [h] at q1; simp only [List.length_cons] at q1; omega
      rw [e2] at key
      obtain ⟨k1, k2⟩ := key h r0 (Chg.refl _ _)
      exact shuttail r0 k1 fun h' b r' c' hb => k2 _ _ r' c' hb

theorem close24c {h : AH} {f : Nat} {st : FS} {F : Nat → Prop} {K : Value → AH → Prop} (r : FR h f st F) (hcl : st.closed = true)
    (kk : K (.tuple #[.bool false, .int .i64 0, .int .i64 14]) h) : callW Try.prog 24 [.pointer (some ⟨f, 0, none⟩)] h K := by
  obtain ⟨V, hr, bb⟩ := r
  refine c24 ?_
  unfold s24
  refine w_nilc (w_offP (w_rdP hr (v := .bool st.closed) rfl ?_))
  rw [hcl]
  exact c_t kk
end Go.Proofs.Ytebbjimmgblcpaa.W
