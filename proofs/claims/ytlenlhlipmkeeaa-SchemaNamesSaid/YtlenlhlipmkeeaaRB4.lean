/- Parts of a proof, joined by a program. Conditions: none. -/
import Derived.Test.YtlenlhlipmkeeaaRB3
import Derived.Test.YtlenlhlipmkeeaaRA0
import Derived.Test.YtlenlhlipmkeeaaRB1
import Derived.Test.YtlenlhlipmkeeaaRB2
import Derived.Test.YtlenlhlipmkeeaaRS0

section
/- Schema's laws: the document's Parse: how a schema is read. Conditions: none. -/
namespace Go.Proofs.Ytlenlhlipmkeeaa.W
open Go Go.AM SchM
set_option linter.unusedVariables false
set_option maxRecDepth 100000
theorem sgn_ne {s : W} {q : Nat} (h : q < s.length) : sgn s q ≠ ([], 0) := by
  unfold sgn
  by_cases hw : wordAt s q ≠ []
  · rw [if_pos hw]
    intro e
    injection e with e1 _
    exact hw e1
  · rw [if_neg hw]
    obtain ⟨c, hc⟩ := getElem?_of_lt h
    rw [hc]
    dsimp only
    split
    · intro e; injection e with e1 _; exact absurd e1 (by decide)
    · rename_i h0
      intro e; injection e with _ e2; exact h0 e2
theorem elems_r {s : W} {n q : Nat} {l : List (W × Mdl)} (h : q < s.length) : elems s (n + 1) q l = match relem s (l.map (·.1)) q with
      | .bad e a => .bad e a
      | .ok x q => elems s n q (l ++ [x]) := by
  unfold relem
  by_cases hs : sgn s q = (wElement, 0)
  · rw [elems_step hs, if_pos hs]
    cases elem s (l.map (·.1)) (adv s q) <;> rfl
  · rw [elems_bad hs (sgn_ne h), if_neg hs]
theorem relem_ok {s : W} {l : List W} {p q : Nat} {x : W × Mdl} (hp : p ≤ s.length) (h : relem s l p = .ok x q) : p < q ∧ q ≤ s.length ∧ l.length < 8 ∧ sz x.2 ≤ s.length := by
  unfold relem at h
  split at h
  · rename_i h1
    have a1 := adv_gt hp (by rw [h1]; decide)
    have u := elem_up (adv_le s p hp) h
    exact ⟨by omega, u.2, elem_lt h, elem_sm (adv_le s p hp) h⟩
  · cases h
theorem res27' (e : Env) (h : AH) : resList Try.prog e h Try.f18.results.toList = (rdRow true 2 (e 2) h).map fun v => [v, e 3, e 4] := by
  have h1 : Try.f18.results.toList = [.cell 2 27, .tmp 3, .tmp 4] := by kernel_rfl
  have h2 : ∀ x, pLoad Try.prog 27 x h = rdRow true 2 x h := fun x => by kernel_rfl
  rw [h1]
  show (match pLoad Try.prog 27 (e 2) h with
    | some v => match resList Try.prog e h [.tmp 3, .tmp 4] with
      | some vs => some (v :: vs)
      | none => none
    | none => none) = _
  rw [h2]
  cases rdRow true 2 (e 2) h <;> rfl
theorem endR {E : Env} {r : Nat} {h h0 : AH} {w : W} {a : Option Addr} {l c : Nat} {x y : Value} {K : Value → AH → Prop} (hE : E 2 = .pointer (some ⟨r, 0, none⟩)) (h3 : E 3 = x) (h4 : E 4 = y) (e : h = h0.set r (.row [.string (bs w), .slice a l c] true)) (hr : r < h0.length) (k : K (.tuple #[.agg #[.string (bs w), .slice a l c], x, y]) h) :
    optW (resList Try.prog E h Try.f18.results.toList) fun vs => K (resOf vs) h := by
  have g2 : h[r]? = some (.row [.string (bs w), .slice a l c] true) := by rw [e]; exact get_set _ hr _
  rw [res27', hE, h3, h4]
  refine w_some (v := [Value.agg #[.string (bs w), .slice a l c], x, y]) ?_ (show K (.tuple #[.agg #[.string (bs w), .slice a l c], x, y]) _ from k)
  have e := hopt (o := rdRow true 2 (.pointer (some ⟨r, 0, none⟩)) _) (w_rdPA g2 (Nat.le_refl 2) rfl)
  rw [e]
  rfl
def ERr (h4 : AH) (T X O : Nat) (s : W) (h : AH) : Prop := ∃ er a w vl, RE h X s 0 er a ∧ BS h4 T X O h (At X) w vl ∧ parse s = .bad er a
theorem ERr.ex {h4 h h' : AH} {T X O : Nat} {s : W} (r : ERr h4 T X O s h) (x : Ex h h') : ERr h4 T X O s h' := by
  obtain ⟨er, a, w, vl, r, b, hp⟩ := r
  exact ⟨er, a, w, vl, r.ex x, b.ex x, hp⟩
theorem errEndR {h0 h4 h : AH} {T X O : Nat} {s : W} {E : Value → Value → Value → Value → Value → Value → Value → Env} {K : Value → AH → Prop} (b4 : B4 h0 h4 T X O) (r : ERr h4 T X O s h) (e2 : ∀ a b c d e f g, E a b c d e f g 2 = .pointer (some ⟨T, 0, none⟩)) (e3 : ∀ a b c d e f g, E a b c d e f g 3 = d) (e4 : ∀ a b c d e f g, E a b c d e f g 4 = g) (k : ∀ h' v, Ex h0 h' → PR h0 h' (parse s) v → K v h') :
    optW (bld [(.string (bs [])), (.slice none 0 0)] [(0, 1), (1, 1)] []) fun v75 => optW (pNilCheck (.pointer (some ⟨X, 0, none⟩))) fun v77 => optW (pOff 3 v77) fun v78 => optW (rdRow false 1 v78 h) fun v79 => optW (pNilCheck (.pointer (some ⟨X, 0, none⟩))) fun v81 => optW (pOff 2 v81) fun v82 => optW (rdRow false 1 v82 h) fun v83 => optW (pStore 2 (.pointer (some ⟨T, 0, none⟩)) v75 h) fun h_17 =>
      (∀ x ∈ (idOf v82), (h : AH)[x]? = (h_17 : AH)[x]?) ∧ (∀ x ∈ (idOf v78), (h : AH)[x]? = (h_17 : AH)[x]?) ∧ optW (resList Try.prog (E v75 v77 v78 v79 v81 v82 v83) h_17 Try.f18.results.toList) fun vs => K (resOf vs) h_17 := by
  obtain ⟨er, a, w, vl, r, b, hp⟩ := r
  obtain ⟨P, gE, _⟩ := r.g
  refine w_some (v := .agg #[.string (bs []), .slice none 0 0]) rfl ?_
  refine w_nilc (w_offP (w_rdP gE (v := .int .i64 a) rfl (w_nilc (w_offP (w_rdP gE (v := .int .i64 er) rfl ?_)))))
  have gT := b.t b4
  refine w_stPA gT rfl (Nat.le_refl 2) rfl ?_
  refine ⟨ptr_id (get_ne b4.tX _), ptr_id (get_ne b4.tX _), ?_⟩
  refine endR (r := T) (h0 := h) (w := []) (a := none) (l := 0) (c := 0) (e2 _ _ _ _ _ _ _) (e3 _ _ _ _ _ _ _) (e4 _ _ _ _ _ _ _) rfl (lt_of_get gT) ?_
  refine k _ _ ((b.toEx b4).set b4.bT _) ?_
  rw [hp]
  rfl
structure LR (b : Nat) (h : AH) (v : Value) (l : List (W × Mdl)) : Prop where
  ex : ∃ cs, Sl 4 h v l.length cs ∧ (∀ j, onId v j → b ≤ j ∧ j < h.length) ∧ EL h (fun j => b ≤ j ∧ j < h.length) l cs
theorem LR.keep {b : Nat} {h h' : AH} {v : Value} {l : List (W × Mdl)} (x : LR b h v l) (hl : h.length ≤ h'.length) (hh : ∀ j, b ≤ j → j < h.length → h'[j]? = h[j]?) : LR b h' v l := by
  obtain ⟨cs, s, o, e⟩ := x.ex
  exact ⟨⟨cs, Sl.keepOn s fun j hj => hh j (o j hj).1 (o j hj).2, fun j hj => ⟨(o j hj).1, Nat.lt_of_lt_of_le (o j hj).2 hl⟩, EL.mono (fun j hj => ⟨hh j hj.1 hj.2, hj.1, Nat.lt_of_lt_of_le hj.2 hl⟩) l cs e⟩⟩
theorem LR.chg {b X : Nat} {h h' : AH} {v : Value} {l : List (W × Mdl)} (x : LR b h v l) (hX : X < b) (c : Chg (At X) h (At X) h') : LR b h' v l :=
  x.keep c.len fun j hj hl => c.get j hl fun e => by have : j = X := e; omega
theorem LR.nm {b : Nat} {h : AH} {v : Value} {l : List (W × Mdl)} (x : LR b h v l) : Nm h v (l.map (·.1)) := by
  obtain ⟨cs, s, o, r⟩ := x.ex
  refine ⟨⟨cs, by rw [List.length_map]; exact s, fun i w hw => ?_⟩⟩
  rw [List.getElem?_map] at hw
  cases hl : l[i]? with
  | none => rw [hl] at hw; cases hw
  | some e =>
    rw [hl] at hw
    cases hw
    obtain ⟨k, n, a, ll, c, h1, _⟩ := EL.get l cs r i e hl
    exact ⟨k, n, a, ll, c, h1⟩
theorem PtrTo.idlt {h : AH} {p : Value} {cs : List Value} (hp : PtrTo h p cs) : ∀ x ∈ idOf p, x < h.length := by
  obtain ⟨id, off, c, w, rfl, h1, h2, h3⟩ := hp
  intro x hx
  have : x = id := by simpa [idOf] using hx
  rw [this]
  exact lt_of_get h1
set_option maxHeartbeats 1000000 in
theorem parse18 {h : AH} {s : W} {K : Value → AH → Prop} (hl : s.length < 1000000000) (k : ∀ h' v, Ex h h' → PR h h' (parse s) v → K v h') : callW Try.prog 18 [.string (bs s)] h K := by
  refine c18 ?_
  unfold s18
  refine n_rowv fun h1 x1 l1 g1 => ?_
  refine w_lenStr (w_gtr (c_dec (fun q => ?_) (fun q => ?_)))
  · refine w_some (v := .agg #[.string (bs []), .slice none 0 0]) rfl ?_
    refine w_stPA g1 rfl (Nat.le_refl 2) rfl ?_
    refine endR (r := h.length) (h0 := h1) (w := []) (a := none) (l := 0) (c := 0) rfl rfl rfl rfl (by omega) ?_
    refine k _ _ (x1.set (Nat.le_refl _) _) ?_
    unfold parse
    rw [if_pos (by omega)]
    rfl
  have hs : s.length ≤ 2000 := by omega
  refine w_some (v := .agg #[.string (bs s), .int .i64 0, .int .i64 0, .int .i64 0, .int .i64 0]) rfl ?_
  refine n_boxv rfl fun h3 x3 l3 g3 => ?_
  refine n_rowv fun h4 x4 l4 g4 => ?_
  have gX : h4[h1.length]? = some (.row (rrow s ((0 : Nat) : Int) 0 0 ((0 : Nat) : Int)) true) := x4.some g3
  have b4 : B4 h h4 h.length h1.length h3.length := ⟨(x1.trans x3).trans x4, (x3.trans x4).some g1, by omega, by omega, by omega, by omega, by omega, Nat.le_refl _, by omega, by omega⟩
  have sB : BS h4 h.length h1.length h3.length h4 (At h1.length) [] (.slice none 0 0) := ⟨Chg.refl _ _, fun e => b4.xO e.symm, g4⟩
  clear g1 g3 g4 l1 l3 l4
  generalize h.length = T at *
  generalize h1.length = X at *
  generalize h3.length = O at *
  have r4 : RO h4 X s 0 0 := ⟨gX, Nat.zero_le _⟩
  generalize hp0 : skip s 0 = p0
  have hp0l : p0 ≤ s.length := by rw [← hp0]; exact (skip_le s 0 (Nat.zero_le _)).2
  have parseO : sgn s p0 = (wRoot, 0) → isName (sgn s (adv s p0)).1 = true → sgn s (adv s (adv s p0)) = ([], 59) → parse s = finish (sgn s (adv s p0)).1 (elems s (s.length + 1) (adv s (adv s (adv s p0))) []) := fun a b c => by
    unfold parse
    rw [if_neg (by omega), hp0, if_pos a, if_pos b, if_pos c]
  have hm : callW Try.prog 40 [.pointer (some ⟨X, 0, none⟩), .string (bs wRoot)] h4 fun v h5 => (∃ P, RO h5 X s P 0 ∧ skip s P = adv s p0 ∧ BS h4 T X O h5 (At X) [] (.slice none 0 0) ∧ sgn s p0 = (wRoot, 0)) ∨ ERr h4 T X O s h5 := by
    refine take40 tkR (by omega) (by decide) r4 (fun q5 h5 c5 r5 => ?_) (fun q5 h5 c5 r5 => ?_)
    · rw [hp0] at q5 r5
      exact .inl ⟨_, r5, rfl, sB.chg c5, q5⟩
    · rw [hp0] at q5 r5
      refine .inr ⟨1, p0, _, _, r5, sB.chg c5, ?_⟩
      unfold parse
      rw [if_neg (by omega), hp0, if_neg q5]
  refine callK hm ?_
  clear hm r4 sB gX
  intro v5 h5 inv
  refine joinE_intro (fun e h6 => e 0 = .string (bs s) ∧ e 2 = .pointer (some ⟨T, 0, none⟩) ∧ e 5 = .pointer (some ⟨X, 0, none⟩) ∧ e 6 = .pointer (some ⟨O, 0, none⟩) ∧ ((∃ P, RO h6 X s P 0 ∧ skip s P = adv s (adv s p0) ∧ BS h4 T X O h6 (At X) (sgn s (adv s p0)).1 (.slice none 0 0) ∧ sgn s p0 = (wRoot, 0) ∧ isName (sgn s (adv s p0)).1 = true) ∨ ERr h4 T X O s h6)) ?_ ?_
  rotate_left
  · intro J hJ
    rcases inv with ⟨P, r5, hP, s5, q5⟩ | er
    · refine w_nilc (w_offP (w_rdP r5.g (v := .int .i64 0) rfl (w_eql (c_tt rfl ?_))))
      refine name41 (by omega) r5 (fun hn h6 c6 r6 => ?_) (fun hn h6 c6 r6 => ?_)
      · rw [hP] at hn r6 ⊢
        have s6 := s5.chg c6
        have hXO := b4.xO
        refine w_offP (w_stP s6.o (by show 0 + 0 < 2; decide) rfl rfl ?_)
        exact hJ _ _ ⟨rfl, rfl, rfl, rfl, .inl ⟨_, ⟨(get_ne (Ne.symm hXO) _).trans r6.g, r6.p⟩, rfl, s6.setO _ _, q5, hn⟩⟩
      · rw [hP] at hn r6
        have s6 := s5.chg c6
        have hXO := b4.xO
        obtain ⟨P6, g6, hP6⟩ := r6.g
        refine w_offP (w_stP s6.o (by show 0 + 0 < 2; decide) rfl rfl ?_)
        refine hJ _ _ ⟨rfl, rfl, rfl, rfl, .inr ⟨1, adv s p0, _, _, ⟨⟨P6, (get_ne (Ne.symm hXO) _).trans g6, hP6⟩, by decide⟩, s6.setO _ _, ?_⟩⟩
        unfold parse
        rw [if_neg (by omega), hp0, if_pos q5, if_neg (by rw [hn]; decide)]
    · have er' := er
      obtain ⟨er, a, w, vl, r, b, hp⟩ := er
      obtain ⟨P, gE, _⟩ := r.g
      refine w_nilc (w_offP (w_rdP gE (v := .int .i64 er) rfl (w_eql (c_ff r.e ?_))))
      exact hJ _ _ ⟨rfl, rfl, rfl, rfl, .inr er'⟩
  clear inv h5
  rintro e h6 ⟨e0, e2, e5, e6, inv⟩
  rw [e5]
  refine joinE_intro (fun e h7 => e 0 = .string (bs s) ∧ e 2 = .pointer (some ⟨T, 0, none⟩) ∧ e 5 = .pointer (some ⟨X, 0, none⟩) ∧ e 6 = .pointer (some ⟨O, 0, none⟩) ∧ ((∃ P, RO h7 X s P 0 ∧ skip s P = adv s (adv s (adv s p0)) ∧ BS h4 T X O h7 (At X) (sgn s (adv s p0)).1 (.slice none 0 0) ∧ sgn s p0 = (wRoot, 0) ∧ isName (sgn s (adv s p0)).1 = true ∧ sgn s (adv s (adv s p0)) = ([], 59)) ∨ ERr h4 T X O s h7)) ?_ ?_
  rotate_left
  · intro J hJ
    rcases inv with ⟨P, r6, hP, s6, q5, hn⟩ | er
    · refine w_nilc (w_offP (w_rdP r6.g (v := .int .i64 0) rfl (w_eql (c_tt rfl ?_))))
      refine take40 (w := [59]) (tkC (by decide) (by decide)) (by omega) (by decide) r6 (fun q7 h7 c7 r7 => ?_) (fun q7 h7 c7 r7 => ?_)
      · rw [hP] at q7 r7
        exact hJ _ _ ⟨e0, e2, e5, e6, .inl ⟨_, r7, rfl, s6.chg c7, q5, hn, q7⟩⟩
      · rw [hP] at q7 r7
        refine hJ _ _ ⟨e0, e2, e5, e6, .inr ⟨1, adv s (adv s p0), _, _, r7, s6.chg c7, ?_⟩⟩
        unfold parse
        rw [if_neg (by omega), hp0, if_pos q5, if_pos hn, if_neg q7]
    · have er' := er
      obtain ⟨er, a, w, vl, r, b, hp⟩ := er
      obtain ⟨P, gE, _⟩ := r.g
      refine w_nilc (w_offP (w_rdP gE (v := .int .i64 er) rfl (w_eql (c_ff r.e ?_))))
      exact hJ _ _ ⟨e0, e2, e5, e6, .inr er'⟩
  clear inv e0 e2 e5 e6
  clear e h6
  rintro e h7 ⟨e0, e2, e5, e6, inv⟩
  rw [e5]
  let IV : Nat → AH → Prop := fun mm h' => (∃ (k : Nat) (l : List (W × Mdl)) (q : Nat) (vl : Value), mm = k + 1 ∧ RO h' X s q 0 ∧ skip s q = q ∧ BS h4 T X O h' (At X) (sgn s (adv s p0)).1 vl ∧ LR h4.length h' vl l ∧ l.length ≤ q ∧ s.length < q + k ∧ l.length ≤ 8 ∧ (∀ e ∈ l, sz e.2 ≤ 2000) ∧
          parse s = finish (sgn s (adv s p0)).1 (elems s k q l)) ∨ (mm = 0 ∧ ERr h4 T X O s h')
  have hm : callW Try.prog 42 [.pointer (some ⟨X, 0, none⟩)] h7 fun v h8 => ∃ m0, IV m0 h8 := by
    rcases inv with ⟨P, r7, hP, s7, q5, hn, q7⟩ | er
    · refine blanks42 r7.g (by omega) r7.p fun h8 c8 g8 => ?_
      rw [hP] at g8
      refine ⟨s.length + 2, .inl ⟨s.length + 1, [], _, _, rfl, ⟨g8, ?_⟩, adv_skip s _, s7.chg c8, ⟨⟨[], ⟨rfl, .inl ⟨rfl, rfl⟩⟩, fun j hj => hj.elim, rfl⟩⟩, Nat.zero_le _, by omega, Nat.zero_le _, fun e he => (by cases he), parseO q5 hn q7⟩⟩
      exact adv_le s _ (adv_le s _ (adv_le s p0 hp0l))
    · obtain ⟨er, a, w, vl, r, b, hp⟩ := er
      obtain ⟨P, gE, hP⟩ := r.g
      exact blanks42 gE (by omega) hP fun h8 c8 g8 => ⟨0, .inr ⟨rfl, er, a, w, vl, ⟨⟨_, g8, (skip_le s P hP).2⟩, r.e⟩, b.chg c8, hp⟩⟩
  refine callK hm ?_
  clear hm inv
  rintro v8 h8 ⟨m0, hI⟩
  refine loopE_intro (fun mm e h' => e 0 = .string (bs s) ∧ e 2 = .pointer (some ⟨T, 0, none⟩) ∧ e 5 = .pointer (some ⟨X, 0, none⟩) ∧ e 6 = .pointer (some ⟨O, 0, none⟩) ∧ IV mm h') m0 ⟨e0, e2, e5, e6, hI⟩ ?_
  clear hI e0 e2 e5 e6
  clear e h7 h8 m0
  rintro I mm e h9 ⟨e0, e2, e5, e6, inv⟩ ih
  rw [e0, e2, e5, e6]
  have hXO := b4.xO
  have lX4 := b4.lX
  have lO4 := b4.lO
  have y0 : (0 : Int) = 0 := rfl
  rcases inv with ⟨k0, l, q0, vl, hmm, r9, hq0, s9, L9, hlq, hk, hl8, hsz, hparse⟩ | ⟨hmm, er⟩
  · have hql := r9.p
    refine w_nilc (w_offP (w_rdP r9.g (v := .int .i64 0) rfl (w_eql ?_)))
    refine g_tt y0 (g_tt y0 (w_nilc (g_tt y0 (w_offP (g_tt y0 (w_rdP r9.g (v := .int .i64 q0) rfl (g_tt y0 (g_tt y0 (w_lenStr (g_tt y0 (w_lss (pk_tt y0 ?_))))))))))))
    refine c_dec (fun qq => ?_) (fun qq => ?_)
    · -- an element
      obtain ⟨k1, rfl⟩ : ∃ k1, k0 = k1 + 1 := ⟨k0 - 1, by omega⟩
      have hq : q0 < s.length := by omega
      rw [elems_r hq] at hparse
      refine w_rdPA s9.o (Nat.le_refl 2) ?_
      have hvb : ∀ j, onId vl j → h4.length ≤ j ∧ j < h9.length := by
        obtain ⟨cs, _, o, _⟩ := L9.ex
        exact o
      have hvX : ¬ onId vl X := fun hon => by have := (hvb X hon).1; omega
      refine relem43 hs r9 hq0 L9.nm hvX (fun j hj => (hvb j hj).2) (by rw [List.length_map]; omega) (fun k' n' a' l' c' h13 w m q P' he c13 r13 hq13 m13 => ?_) (fun v h13 er a he c13 r13 m13 => ?_)
      · obtain ⟨u1, u2, u3, u4⟩ := relem_ok hql he
        rw [List.length_map] at u3
        rw [he] at hparse
        dsimp only at hparse
        have L13 := L9.chg lX4 c13
        have s13 := s9.chg c13
        refine n_rowv fun h14 x14 l14 g14 => ?_
        refine w_stPA g14 rfl (by decide) rfl ?_
        have g15 : (h14.set h13.length (.row (spliceL [(.string (bs [])), (.int .i64 0), (.string (bs [])), (.slice none 0 0)] 0 (cellsL (.agg #[.string (bs w), .int .i64 k', .string (bs n'), .slice a' l' c']))) true))[h13.length]? = some (.row [.string (bs w), .int .i64 k', .string (bs n'), .slice a' l' c'] true) := get_set _ (lt_of_get g14) _
        have x15 : Ex h13 (h14.set h13.length (.row (spliceL [(.string (bs [])), (.int .i64 0), (.string (bs [])), (.slice none 0 0)] 0 (cellsL (.agg #[.string (bs w), .int .i64 k', .string (bs n'), .slice a' l' c']))) true)) := x14.set (Nat.le_refl _) _
        generalize h14.set h13.length (.row (spliceL [(.string (bs [])), (.int .i64 0), (.string (bs [])), (.slice none 0 0)] 0 (cellsL (.agg #[.string (bs w), .int .i64 k', .string (bs n'), .slice a' l' c']))) true) = h15 at g15 x15 ⊢
        have s15 := s13.ex x15
        obtain ⟨cs, sl15, o15, e15⟩ := (L13.keep x15.len fun j _ hj => x15.get j hj).ex
        refine appTwo rfl s15.o g15 sl15 (by omega) fun _ _ _ _ _ _ _ _ v61 h19 x19 sl19 on19 => ?_
        have s19 := s15.ex x19
        have x139 := x15.trans x19
        have r19 := r13.ex x139
        obtain ⟨va, vc, rfl⟩ := sl19.shape
        refine w_offP (w_stP s19.o (by show 0 + 1 < 2; decide) rfl rfl ?_)
        have s20 : BS h4 T X O (h19.set O (.row ([Value.string (bs (sgn s (adv s p0)).1), vl].set (0 + 1) (.slice va (l.length + 1) vc)) true)) (At X) (sgn s (adv s p0)).1 (.slice va (l.length + 1) vc) := s19.setO _ _
        have n20 : ∀ j, j ≠ O → (h19.set O (.row ([Value.string (bs (sgn s (adv s p0)).1), vl].set (0 + 1) (.slice va (l.length + 1) vc)) true))[j]? = h19[j]? := fun j hj => get_ne (Ne.symm hj) _
        have l20 : (h19.set O (.row ([Value.string (bs (sgn s (adv s p0)).1), vl].set (0 + 1) (.slice va (l.length + 1) vc)) true)).length = h19.length := List.length_set
        generalize h19.set O (.row ([Value.string (bs (sgn s (adv s p0)).1), vl].set (0 + 1) (.slice va (l.length + 1) vc)) true) = h20 at s20 n20 l20 ⊢
        have r20 : RO h20 X s P' 0 := ⟨(n20 X hXO).trans r19.g, r19.p⟩
        have l49 := s9.c.len
        have l913 := c13.len
        have L20 : LR h4.length h20 (.slice va (l.length + 1) vc) (l ++ [(w, m)]) := by
          have elm : (l ++ [(w, m)]).length = l.length + 1 := by simp
          have l15 := x15.len
          refine ⟨⟨cs ++ [.string (bs w), .int .i64 k', .string (bs n'), .slice a' l' c'], ?_, fun j hj => ⟨by have := (on19 j hj).1; omega, by have := (on19 j hj).2; omega⟩, ?_⟩⟩
          · rw [elm]
            exact Sl.keepOn sl19 fun j hj => n20 j (by have := (on19 j hj).1; omega)
          · refine EL.snoc (e := (w, m)) (MH.mono (fun j gj => ⟨(n20 j (by have := gj.1; omega)).trans (x139.get j gj.2.1), by have := gj.1; omega, by have := x139.lt gj.2.1; omega⟩) m _ m13) l cs (EL.mono (fun j hj => ⟨(n20 j (by omega)).trans (x19.get j hj.2), hj.1, by have := x19.lt hj.2; omega⟩) l cs e15)
        refine blanks42 r20.g (by omega) r20.p fun h21 c21 g21 => ?_
        rw [hq13] at g21
        refine ih (k1 + 1) _ _ (by omega) ⟨e0, e2, e5, e6, .inl ⟨k1, l ++ [(w, m)], q, _, rfl, ⟨g21, u2⟩, by rw [← hq13]; exact skip_skip s P', s20.chg c21, L20.chg lX4 c21, by simp; omega, by omega, by simp; omega, fun e he => ?_, hparse⟩⟩
        rcases List.mem_append.1 he with he | he
        · exact hsz e he
        · have : e = (w, m) := by simpa using he
          rw [this]
          exact Nat.le_trans u4 hs
      · rw [he] at hparse
        have hparse' : parse s = .bad er a := hparse
        obtain ⟨w, k', n', a', l', c', ev⟩ := m13
        subst ev
        have L13 := L9.chg lX4 c13
        have s13 := s9.chg c13
        refine n_rowv fun h14 x14 l14 g14 => ?_
        refine w_stPA g14 rfl (by decide) rfl ?_
        have g15 : (h14.set h13.length (.row (spliceL [(.string (bs [])), (.int .i64 0), (.string (bs [])), (.slice none 0 0)] 0 (cellsL (.agg #[.string (bs w), .int .i64 k', .string (bs n'), .slice a' l' c']))) true))[h13.length]? = some (.row [.string (bs w), .int .i64 k', .string (bs n'), .slice a' l' c'] true) := get_set _ (lt_of_get g14) _
        have x15 : Ex h13 (h14.set h13.length (.row (spliceL [(.string (bs [])), (.int .i64 0), (.string (bs [])), (.slice none 0 0)] 0 (cellsL (.agg #[.string (bs w), .int .i64 k', .string (bs n'), .slice a' l' c']))) true)) := x14.set (Nat.le_refl _) _
        generalize h14.set h13.length (.row (spliceL [(.string (bs [])), (.int .i64 0), (.string (bs [])), (.slice none 0 0)] 0 (cellsL (.agg #[.string (bs w), .int .i64 k', .string (bs n'), .slice a' l' c']))) true) = h15 at g15 x15 ⊢
        have s15 := s13.ex x15
        obtain ⟨cs, sl15, o15, e15⟩ := (L13.keep x15.len fun j _ hj => x15.get j hj).ex
        refine appTwo rfl s15.o g15 sl15 (by omega) fun _ _ _ _ _ _ _ _ v61 h19 x19 sl19 on19 => ?_
        have s19 := s15.ex x19
        have r19 := r13.ex (x15.trans x19)
        obtain ⟨P19, g19, hP19⟩ := r19.g
        obtain ⟨va, vc, rfl⟩ := sl19.shape
        refine w_offP (w_stP s19.o (by show 0 + 1 < 2; decide) rfl rfl ?_)
        have s20 : BS h4 T X O (h19.set O (.row ([Value.string (bs (sgn s (adv s p0)).1), vl].set (0 + 1) (.slice va (l.length + 1) vc)) true)) (At X) (sgn s (adv s p0)).1 (.slice va (l.length + 1) vc) := s19.setO _ _
        have g20 : (h19.set O (.row ([Value.string (bs (sgn s (adv s p0)).1), vl].set (0 + 1) (.slice va (l.length + 1) vc)) true))[X]? = some (.row (rrow s P19 er a 0) true) := (get_ne (Ne.symm hXO) _).trans g19
        generalize h19.set O (.row ([Value.string (bs (sgn s (adv s p0)).1), vl].set (0 + 1) (.slice va (l.length + 1) vc)) true) = h20 at s20 g20 ⊢
        refine blanks42 g20 (by omega) hP19 fun h21 c21 g21 => ?_
        exact ih 0 _ _ (by omega) ⟨e0, e2, e5, e6, .inr ⟨rfl, er, a, _, _, ⟨⟨_, g21, (skip_le s P19 hP19).2⟩, r19.e⟩, s20.chg c21, hparse'⟩⟩
    · -- the end
      clear ih
      have hend : s.length ≤ q0 := by omega
      have hse := sgn_end hend
      rw [elems_end (by rw [hse]; decide) hse] at hparse
      have nz : ¬ ¬ (0 : Int) = 0 := fun h => h rfl
      refine w_nilc (w_offP (w_rdP r9.g (v := .int .i64 0) rfl (w_neq (c_ff nz ?_))))
      refine w_rdPA s9.o (Nat.le_refl 2) (w_offP (w_rdP s9.o (v := .string (bs (sgn s (adv s p0)).1)) rfl ?_))
      have hnl : (l.map (·.1)).length ≤ 100000 := by rw [List.length_map]; omega
      refine find44 L9.nm hnl fun h10 i x10 hi => w_geq ?_
      have hb0 : (decide (0 ≤ i) = true ↔ (sgn s (adv s p0)).1 ∈ l.map (·.1) ∧ ∀ w ∈ nmsE (l.take 0), w ∈ l.map (·.1)) := by
        rw [decide_eq_true_eq, hi]
        exact ⟨fun h => ⟨h, fun w hw => by cases hw⟩, fun h => h.1⟩
      generalize decide (0 ≤ i) = b0 at hb0
      refine loopE_intro (fun mm e h' => ∃ (j : Nat) (b : Bool), j ≤ l.length ∧ mm = l.length - j ∧ e 2 = .pointer (some ⟨T, 0, none⟩) ∧ e 6 = .pointer (some ⟨O, 0, none⟩) ∧ e 8 = .bool b ∧ e 9 = .int .i64 (j : Nat) ∧ Ex h9 h' ∧ (b = true ↔ (sgn s (adv s p0)).1 ∈ l.map (·.1) ∧ ∀ w ∈ nmsE (l.take j), w ∈ l.map (·.1))) l.length
        ⟨0, b0, Nat.zero_le _, rfl, e2, e6, rfl, rfl, x10, hb0⟩ ?_
      clear e0 e2 e5 e6 hmm hb0
      clear e mm I
      rintro I mm e h28 ⟨j, b, hj, hmm, e2, e6, e8, e9, x28, hb⟩ ih
      rw [e2, e6, e8, e9]
      have s28 := s9.ex x28
      obtain ⟨cs, sl, on, el⟩ := (L9.keep x28.len fun j _ hj => x28.get j hj).ex
      obtain ⟨va, vc, ev⟩ := sl.shape
      have so := s28.o
      rw [ev] at so sl
      refine w_offP (w_rdP so (v := .slice va l.length vc) rfl (w_lenSl (w_lss (c_dec (fun q => ?_) (fun q => ?_)))))
      · obtain ⟨x, hx⟩ := getElem?_of_lt (l := l) (i := j) (by omega)
        have et : l.take (j + 1) = l.take j ++ [x] := by rw [List.take_add_one, hx]; rfl
        have en : nmsE (l.take (j + 1)) = nmsE (l.take j) ++ nms x.2 := by rw [et, nmsE_append]; simp [nmsE]
        cases b with
        | true =>
          obtain ⟨k', n', a', ll, c', hc, mh⟩ := EL.get l cs el j x hx
          refine gdc_tt (w_rdPA so (Nat.le_refl 2) (gdc_tt (w_offP (gdc_tt (hist_nil (w_rdP so (v := .slice va l.length vc) rfl (gdc_tt (gdc_tt (w_idx sl (by omega) (by omega) fun p hp => ?_)))))))))
          rw [Int.toNat_natCast, hc] at hp
          refine gdc_tt (w_off hp (by show 1 ≤ 4; decide) fun p' hp' => gdc_tt (hist_nil (w_rdA hp' rfl (gdc_tt ?_))))
          have nm28 : Nm h28 (.slice va l.length vc) (l.map (·.1)) := by
            have := (L9.keep x28.len fun j _ hj => x28.get j hj).nm
            rw [ev] at this
            exact this
          refine named45 hnl 2000 x.2 h28 (.agg #[.int .i64 k', .string (bs n'), .slice a' ll c']) _ (hsz x (List.mem_of_getElem? hx)) (by decide) (MH.mono (fun j hj => ⟨rfl, hj.2⟩) x.2 _ mh) nm28 fun h37 b' x37 hb' => ?_
          have lO := lt_of_get so
          refine read_all ?_ fun t ht y hy => ?_
          · refine pk_t (w_add (by omega) (by omega) ?_)
            refine ih (l.length - (j + 1)) _ _ (by omega) ⟨j + 1, b', by omega, rfl, e2, e6, rfl, rfl, x28.trans x37, ?_⟩
            rw [hb', en]
            constructor
            · intro hh
              have := hb.1 rfl
              exact ⟨this.1, fun w hw => (List.mem_append.1 hw).elim (this.2 w) (hh w)⟩
            · intro hh w hw
              exact hh.2 w (List.mem_append.2 (.inr hw))
          · refine (x37.get y ?_).symm
            simp only [List.mem_cons, List.not_mem_nil, or_false] at ht
            rcases ht with rfl | rfl | rfl
            · exact PtrTo.idlt hp' y hy
            · have : y = O := by simpa [idOf] using hy
              rw [this]; exact lO
            · have : y = O := by simpa [idOf] using hy
              rw [this]; exact lO
        | false =>
          refine gdc_tf (gdc_tf (gdc_tf (gdc_tf (gdc_tf (gdc_tf (gdc_tf (gdc_tf (pk_f ?_))))))))
          refine w_add (by omega) (by omega) ?_
          refine ih (l.length - (j + 1)) _ _ (by omega) ⟨j + 1, false, by omega, rfl, e2, e6, rfl, rfl, x28, ⟨fun h => (by cases h), fun hh => ?_⟩⟩
          exact hb.2 ⟨hh.1, fun w hw => hh.2 w (by rw [en]; exact List.mem_append.2 (.inl hw))⟩
      · have hja : l.take j = l := List.take_of_length_le (by omega)
        rw [hja] at hb
        have gT := s28.t b4
        refine w_notb ?_
        cases b with
        | true =>
          have hk : known (sgn s (adv s p0)).1 l = true := by
            unfold known
            rw [List.all_eq_true]
            intro w hw
            rcases List.mem_cons.1 hw with rfl | hw
            · exact decide_eq_true (hb.1 rfl).1
            · exact decide_eq_true ((hb.1 rfl).2 w hw)
          have hp : parse s = .ok ((sgn s (adv s p0)).1, l) 0 := by
            rw [hparse]
            unfold finish
            dsimp only
            rw [if_pos hk]
          refine c_f ?_
          refine w_rdPA so (Nat.le_refl 2) ?_
          refine w_stPA gT rfl (Nat.le_refl 2) rfl ?_
          refine endR (r := T) (h0 := h28) (w := (sgn s (adv s p0)).1) (a := va) (l := l.length) (c := vc) e2 rfl rfl rfl (lt_of_get gT) ?_
          refine k _ _ ((s28.toEx b4).set b4.bT _) ?_
          rw [hp]
          have lT := lt_of_get b4.t
          have l4 := b4.x.len
          rw [ev] at on
          refine ⟨va, vc, cs, rfl, Sl.keepOn sl fun j hj => get_ne (by have := (on j hj).1; omega) _, EL.mono (fun j hj => ⟨get_ne (by have := hj.1; omega) _, by omega, by rw [List.length_set]; exact hj.2⟩) l cs el⟩
        | false =>
          have hk : known (sgn s (adv s p0)).1 l = false := by
            cases hkk : known (sgn s (adv s p0)).1 l with
            | false => rfl
            | true =>
              unfold known at hkk
              rw [List.all_eq_true] at hkk
              have := hb.2 ⟨of_decide_eq_true (hkk _ (List.mem_cons_self ..)), fun w hw => of_decide_eq_true (hkk w (List.mem_cons_of_mem _ hw))⟩
              cases this
          have hp : parse s = .bad 6 0 := by
            rw [hparse]
            unfold finish
            dsimp only
            rw [if_neg (by rw [hk]; decide)]
          refine c_t ?_
          refine w_some (v := .agg #[.string (bs []), .slice none 0 0]) rfl ?_
          refine w_stPA gT rfl (Nat.le_refl 2) rfl ?_
          refine endR (r := T) (h0 := h28) (w := []) (a := none) (l := 0) (c := 0) e2 rfl rfl rfl (lt_of_get gT) ?_
          refine k _ _ ((s28.toEx b4).set b4.bT _) ?_
          rw [hp]
          rfl
  · -- an error
    have er' := er
    obtain ⟨er, a, w, vl, r, b, hp⟩ := er
    obtain ⟨P, gE, _⟩ := r.g
    refine w_nilc (w_offP (w_rdP gE (v := .int .i64 er) rfl (w_eql ?_)))
    refine g_tf r.e (g_tf r.e (g_tf r.e (g_tf r.e (g_tf r.e (g_tf r.e (g_tf r.e (pk_ff r.e (c_f ?_))))))))
    refine w_nilc (w_offP (w_rdP gE (v := .int .i64 er) rfl (w_neq (c_tt r.e ?_))))
    exact errEndR b4 er' (fun _ _ _ _ _ _ _ => e2) (fun _ _ _ _ _ _ _ => rfl) (fun _ _ _ _ _ _ _ => rfl) k
end Go.Proofs.Ytlenlhlipmkeeaa.W
end

section
/- SchemaNames: the walk. Conditions: none. -/
namespace Go.Proofs.Ytlenlhlipmkeeaa.W
open Go Go.AM SchM
set_option linter.unusedVariables false
set_option maxRecDepth 100000
def erOf {α : Type} : R α → Int
  | .ok _ _ => 0
  | .bad e _ => e
def atOf {α : Type} : R α → Nat
  | .ok _ _ => 0
  | .bad _ a => a
theorem PR.shape {h0 h' : AH} {r : R (W × List (W × Mdl))} {v : Value} (p : PR h0 h' r v) : ∃ root a l c, v = .tuple #[.agg #[.string (bs root), .slice a l c], .int .i64 (atOf r : Nat), .int .i64 (erOf r)] ∧ ∀ x q, r = .ok x q → root = x.1 := by
  cases r with
  | bad e a => exact ⟨[], none, 0, 0, p, fun x q h => by cases h⟩
  | ok x q =>
    obtain ⟨a, c, cs, rfl, _⟩ := p
    exact ⟨x.1, a, x.2.length, c, rfl, fun y q h => by cases h; rfl⟩
theorem w_orS {b : Bool} {w k : W} {h : AH} {Q : Value → Value → Value → AH → Prop} (q : ∀ v61 v62, Q v61 v62 (.bool (b || decide (w = k))) h) :
    gopW (gB (.bool b) false) (fun k_14 => k_14 (.string (bs w)) h) h fun v61 h_20 => gopW (gB (.bool b) false) (fun k_15 => optW (pBin Try.prog .eql 9 v61 (.string (bs k))) fun v62_1 => k_15 v62_1 h_20) h_20 fun v62 h_21 => optW (pPick (.bool b) (.bool true) v62) fun v63 => Q v61 v62 v63 h_21 := by
  cases b with
  | true => exact gc_ft (gc_ft (pk_t (q _ _)))
  | false => exact gc_ff (gc_ff (w_seql (pk_f (q _ _))))
theorem names_tail {h : AH} {w : W} {b : Bool} {K : Value → AH → Prop} (hw : w.length ≤ 100) (hb : b = true → isName w = true ∧ ∀ c ∈ w, low c = true) (k : ∀ h', K (.bool true) h') :
            optW (pBin Try.prog .add 9 (.string (bs [114, 111, 111, 116, 32])) (.string (bs w))) fun v77_1 =>
            optW (pBin Try.prog .add 9 v77_1 (.string (bs [59, 32, 101, 108, 101, 109, 101, 110, 116, 32]))) fun v78_1 =>
            optW (pBin Try.prog .add 9 v78_1 (.string (bs w))) fun v80_1 =>
            optW (pBin Try.prog .add 9 v80_1 (.string (bs [32, 61, 32, 101, 109, 112, 116, 121, 59]))) fun v81_1 =>
            callW Try.prog 17 [v81_1] h fun v84_1 h_49 =>
            optW (pExtract v84_1 0) fun v85_1 =>
            optW (pExtract v84_1 1) fun v86_1 =>
            optW (pExtract v84_1 2) fun v87_1 =>
            newR none [(.string (bs [])), (.slice none 0 0)] h_49 fun v9_1 h_50 =>
            optW (pStore 2 v9_1 v85_1 h_50) fun h_51 =>
            callW Try.prog 18 [v81_1] h_51 fun v90_1 h_52 =>
            optW (pExtract v90_1 0) fun v91_1 =>
            optW (pExtract v90_1 1) fun v92_1 =>
            optW (pExtract v90_1 2) fun v93_1 =>
            newR none [(.string (bs [])), (.slice none 0 0)] h_52 fun v12_1 h_53 =>
            optW (pStore 2 v12_1 v91_1 h_53) fun h_54 =>
            optW (pBin Try.prog .eql 3 v87_1 v93_1) fun v96_1 =>
            gopW (gB v96_1 true) (fun k_37 =>
              k_37 v86_1 h_54) h_54 fun v98_1 h_55 =>
            gopW (gB v96_1 true) (fun k_38 =>
              k_38 v92_1 h_55) h_55 fun v99_1 h_56 =>
            gopW (gB v96_1 true) (fun k_39 =>
              optW (pBin Try.prog .eql 3 v98_1 v99_1) fun v100_3 =>
              k_39 v100_3 h_56) h_56 fun v100_2 h_57 =>
            optW (pPick v96_1 v100_2 (.bool false)) fun v101_1 =>
            gopW (gB v101_1 true) (fun k_40 =>
              k_40 (.bool b) h_57) h_57 fun v103_1 h_58 =>
            gopW (gB v101_1 true) (fun k_41 =>
              optW (pUn .not v103_1) fun v104_3 =>
              k_41 v104_3 h_58) h_58 fun v104_2 h_59 =>
            gopW (gB v101_1 true) (fun k_42 =>
              k_42 v104_2 h_59) h_59 fun v105_1 h_60 =>
            gopW (gB v105_1 false) (fun k_43 =>
              k_43 v87_1 h_60) h_60 fun v106_1 h_61 =>
            gopW (gB v105_1 false) (fun k_44 =>
              optW (pBin Try.prog .eql 32 v106_1 (.int .i64 0)) fun v107_3 =>
              k_44 v107_3 h_61) h_61 fun v107_2 h_62 =>
            gopW (gB v105_1 false) (fun k_45 =>
              k_45 v107_2 h_62) h_62 fun v108_1 h_63 =>
            gopW (gB v108_1 true) (fun k_46 =>
              optW (pOff 0 v9_1) fun v109_3 =>
              k_46 v109_3 h_63) h_63 fun v109_2 h_64 =>
            gopW (gB v108_1 true) (fun k_47 =>
              optW (rdRow false 1 v109_2 h_64) fun v110_3 =>
              k_47 v110_3 h_64) h_64 fun v110_2 h_65 =>
            gopW (gB v108_1 true) (fun k_48 =>
              k_48 (.string (bs w)) h_65) h_65 fun v111_1 h_66 =>
            gopW (gB v108_1 true) (fun k_49 =>
              optW (pBin Try.prog .eql 9 v110_2 v111_1) fun v112_3 =>
              k_49 v112_3 h_66) h_66 fun v112_2 h_67 =>
            gopW (gB v105_1 false) (fun k_50 =>
              optW (pPick v108_1 v112_2 (.bool false)) fun v113_3 =>
              k_50 v113_3 h_67) h_67 fun v113_2 h_68 =>
            gopW (gB v101_1 true) (fun k_51 =>
              optW (pPick v105_1 (.bool true) v113_2) fun v114_3 =>
              k_51 v114_3 h_68) h_68 fun v114_2 h_69 =>
            optW (pPick v101_1 v114_2 (.bool false)) fun v115_1 =>
            K v115_1 h_69 := by
  have e1 : (((([114, 111, 111, 116, 32] ++ w) ++ [59, 32, 101, 108, 101, 109, 101, 110, 116, 32]) ++ w) ++ [32, 61, 32, 101, 109, 112, 116, 121, 59] : W) = oneT w := by
    simp [oneT, wRoot, wElement, wEmpty]
  have e2 : (oneT w).length < 1000000000 := by
    simp [oneT, wRoot, wElement, wEmpty]
    omega
  refine w_cat (by simp; omega) (w_cat (by simp; omega) (w_cat (by simp; omega) (w_cat (by simp; omega) ?_)))
  rw [e1]
  refine parse17 e2 fun h1 v1 x1 r1 => ?_
  obtain ⟨root, a, l, c, rfl, hr⟩ := r1.shape
  refine w_some rfl (w_some rfl (w_some rfl ?_))
  refine n_rowv fun h2 x2 l2 g2 => w_stPA g2 rfl (Nat.le_refl 2) rfl ?_
  have g3 : (h2.set h1.length (.row (spliceL [.string (bs []), .slice none 0 0] 0 (cellsL (.agg #[.string (bs root), .slice a l c]))) true))[h1.length]? = some (.row [.string (bs root), .slice a l c] true) := get_set _ (lt_of_get g2) _
  generalize h2.set h1.length _ = h3 at *
  refine parse18 e2 fun h4 v4 x4 r4 => ?_
  obtain ⟨root', a', l', c', rfl, hr'⟩ := r4.shape
  refine w_some rfl (w_some rfl (w_some rfl ?_))
  refine n_rowv fun h5 x5 l5 g5 => w_stPA g5 rfl (Nat.le_refl 2) rfl ?_
  have ne : h4.length ≠ h1.length := by have := lt_of_get (x4.some g3); omega
  have g6 : (h5.set h4.length (.row (spliceL [.string (bs []), .slice none 0 0] 0 (cellsL (.agg #[.string (bs root'), .slice a' l' c']))) true))[h1.length]? = some (.row [.string (bs root), .slice a l c] true) := by
    rw [get_ne ne]
    exact (x4.trans x5).some g3
  generalize h5.set h4.length _ = h6 at *
  refine w_eql (g_tt rfl (g_tt rfl (g_tt rfl (w_eql (pk_tt rfl ?_)))))
  refine g_tt rfl (g_tt rfl (w_notb (g_tt rfl ?_)))
  cases b with
  | false =>
    refine gc_ft (gc_ft (gc_ft (gwu (gwu (gwu (gwu (gc_ft (g_tt rfl (pk_t (pk_tt rfl ?_))))))))))
    exact k _
  | true =>
    obtain ⟨hn, hl⟩ := hb rfl
    have hp := one_ok hn hl
    have he : erOf (parse (oneT w)) = 0 := by rw [hp]; rfl
    have hro := hr _ _ hp
    refine gc_ff (gc_ff (w_eql (gc_ff ?_)))
    refine g_tt he (w_offP (g_tt he (w_rdP g6 (v := .string (bs root)) rfl (g_tt he (g_tt he (w_seql (gc_ff (pk_tt he (g_tt rfl (pk_f (pk_tt rfl ?_)))))))))))
    have : decide (root = w) = true := decide_eq_true hro
    rw [this]
    exact k _
theorem names_loop {h : AH} {w : W} {K : Value → AH → Prop} {e0 : Env} {b0 : Bool} (f5 : e0 5 = .string (bs w)) (f6 : e0 6 = .bool b0) (f7 : e0 7 = .int .i64 0) (hw : w.length ≤ 100) (hb : b0 = true → w ≠ [] ∧ w.length ≤ 8) (k : ∀ h', K (.bool true) h') :
      loopE (fun I e h_11 =>
        optW (lenStr (e 5)) fun v41 =>
        optW (pBin Try.prog .lss 3 (e 7) v41) fun v42 =>
        condW v42 (
          gopW (gB (e 6) true) (fun k_6 =>
            k_6 (e 5) h_11) h_11 fun v47 h_12 =>
          gopW (gB (e 6) true) (fun k_7 =>
            k_7 (e 7) h_12) h_12 fun v48 h_13 =>
          gopW (gB (e 6) true) (fun k_8 =>
            optW (pIdxStr v47 v48) fun v49_1 =>
            k_8 v49_1 h_13) h_13 fun v49 h_14 =>
          gopW (gB (e 6) true) (fun k_9 =>
            optW (pBin Try.prog .geq 5 v49 (.int .u8 97)) fun v50_1 =>
            k_9 v50_1 h_14) h_14 fun v50 h_15 =>
          optW (pPick (e 6) v50 (.bool false)) fun v51 =>
          gopW (gB v51 true) (fun k_10 =>
            k_10 (e 5) h_15) h_15 fun v53 h_16 =>
          gopW (gB v51 true) (fun k_11 =>
            k_11 (e 7) h_16) h_16 fun v54 h_17 =>
          gopW (gB v51 true) (fun k_12 =>
            optW (pIdxStr v53 v54) fun v55_1 =>
            k_12 v55_1 h_17) h_17 fun v55 h_18 =>
          gopW (gB v51 true) (fun k_13 =>
            optW (pBin Try.prog .leq 5 v55 (.int .u8 122)) fun v56_1 =>
            k_13 v56_1 h_18) h_18 fun v56 h_19 =>
          optW (pPick v51 v56 (.bool false)) fun v57 =>
          optW (pBin Try.prog .add 3 (e 7) (.int .i64 1)) fun v44 =>
          I (pt (pt (pt (pt (pt (pt (pt (pt (pt (pt (pt (pt (pt (pt (pt (pt (pt (pt (pt (pt (pt e 39 (e 7)) 40 (e 5)) 41 v41) 42 v42) 45 (e 6)) 46 (e 6)) 47 v47) 48 v48) 49 v49) 50 v50) 51 v51) 52 v51) 53 v53) 54 v54) 55 v55) 56 v56) 57 v57) 6 v57) 43 (e 7)) 44 v44) 7 v44) h_19
        ) (
          optW (pBin Try.prog .eql 9 (e 5) (.string (bs [114, 111, 111, 116]))) fun v59 =>
          gopW (gB v59 false) (fun k_14 =>
            k_14 (e 5) h_11) h_11 fun v61 h_20 =>
          gopW (gB v59 false) (fun k_15 =>
            optW (pBin Try.prog .eql 9 v61 (.string (bs [101, 108, 101, 109, 101, 110, 116]))) fun v62_1 =>
            k_15 v62_1 h_20) h_20 fun v62 h_21 =>
          optW (pPick v59 (.bool true) v62) fun v63 =>
          gopW (gB v63 false) (fun k_16 =>
            k_16 (e 5) h_21) h_21 fun v65 h_22 =>
          gopW (gB v63 false) (fun k_17 =>
            optW (pBin Try.prog .eql 9 v65 (.string (bs [101, 109, 112, 116, 121]))) fun v66_1 =>
            k_17 v66_1 h_22) h_22 fun v66 h_23 =>
          optW (pPick v63 (.bool true) v66) fun v67 =>
          gopW (gB v67 false) (fun k_18 =>
            k_18 (e 5) h_23) h_23 fun v69 h_24 =>
          gopW (gB v67 false) (fun k_19 =>
            optW (pBin Try.prog .eql 9 v69 (.string (bs [97, 110, 121]))) fun v70_1 =>
            k_19 v70_1 h_24) h_24 fun v70 h_25 =>
          optW (pPick v67 (.bool true) v70) fun v71 =>
          gopW (gB v71 false) (fun k_20 =>
            k_20 (e 5) h_25) h_25 fun v73 h_26 =>
          gopW (gB v71 false) (fun k_21 =>
            optW (pBin Try.prog .eql 9 v73 (.string (bs [116, 101, 120, 116]))) fun v74_1 =>
            k_21 v74_1 h_26) h_26 fun v74 h_27 =>
          optW (pPick v71 (.bool true) v74) fun v75 =>
          condW v75 (
            optW (pBin Try.prog .add 9 (.string (bs [114, 111, 111, 116, 32])) (e 5)) fun v77 =>
            optW (pBin Try.prog .add 9 v77 (.string (bs [59, 32, 101, 108, 101, 109, 101, 110, 116, 32]))) fun v78 =>
            optW (pBin Try.prog .add 9 v78 (e 5)) fun v80 =>
            optW (pBin Try.prog .add 9 v80 (.string (bs [32, 61, 32, 101, 109, 112, 116, 121, 59]))) fun v81 =>
            callW Try.prog 17 [v81] h_27 fun v84 h_28 =>
            optW (pExtract v84 0) fun v85 =>
            optW (pExtract v84 1) fun v86 =>
            optW (pExtract v84 2) fun v87 =>
            newR none [(.string (bs [])), (.slice none 0 0)] h_28 fun v9 h_29 =>
            optW (pStore 2 v9 v85 h_29) fun h_30 =>
            callW Try.prog 18 [v81] h_30 fun v90 h_31 =>
            optW (pExtract v90 0) fun v91 =>
            optW (pExtract v90 1) fun v92 =>
            optW (pExtract v90 2) fun v93 =>
            newR none [(.string (bs [])), (.slice none 0 0)] h_31 fun v12 h_32 =>
            optW (pStore 2 v12 v91 h_32) fun h_33 =>
            optW (pBin Try.prog .eql 3 v87 v93) fun v96 =>
            gopW (gB v96 true) (fun k_22 =>
              k_22 v86 h_33) h_33 fun v98 h_34 =>
            gopW (gB v96 true) (fun k_23 =>
              k_23 v92 h_34) h_34 fun v99 h_35 =>
            gopW (gB v96 true) (fun k_24 =>
              optW (pBin Try.prog .eql 3 v98 v99) fun v100_1 =>
              k_24 v100_1 h_35) h_35 fun v100 h_36 =>
            optW (pPick v96 v100 (.bool false)) fun v101 =>
            gopW (gB v101 true) (fun k_25 =>
              k_25 (.bool false) h_36) h_36 fun v103 h_37 =>
            gopW (gB v101 true) (fun k_26 =>
              optW (pUn .not v103) fun v104_1 =>
              k_26 v104_1 h_37) h_37 fun v104 h_38 =>
            gopW (gB v101 true) (fun k_27 =>
              k_27 v104 h_38) h_38 fun v105 h_39 =>
            gopW (gB v105 false) (fun k_28 =>
              k_28 v87 h_39) h_39 fun v106 h_40 =>
            gopW (gB v105 false) (fun k_29 =>
              optW (pBin Try.prog .eql 32 v106 (.int .i64 0)) fun v107_1 =>
              k_29 v107_1 h_40) h_40 fun v107 h_41 =>
            gopW (gB v105 false) (fun k_30 =>
              k_30 v107 h_41) h_41 fun v108 h_42 =>
            gopW (gB v108 true) (fun k_31 =>
              optW (pOff 0 v9) fun v109_1 =>
              k_31 v109_1 h_42) h_42 fun v109 h_43 =>
            gopW (gB v108 true) (fun k_32 =>
              optW (rdRow false 1 v109 h_43) fun v110_1 =>
              k_32 v110_1 h_43) h_43 fun v110 h_44 =>
            gopW (gB v108 true) (fun k_33 =>
              k_33 (e 5) h_44) h_44 fun v111 h_45 =>
            gopW (gB v108 true) (fun k_34 =>
              optW (pBin Try.prog .eql 9 v110 v111) fun v112_1 =>
              k_34 v112_1 h_45) h_45 fun v112 h_46 =>
            gopW (gB v105 false) (fun k_35 =>
              optW (pPick v108 v112 (.bool false)) fun v113_1 =>
              k_35 v113_1 h_46) h_46 fun v113 h_47 =>
            gopW (gB v101 true) (fun k_36 =>
              optW (pPick v105 (.bool true) v113) fun v114_1 =>
              k_36 v114_1 h_47) h_47 fun v114 h_48 =>
            optW (pPick v101 v114 (.bool false)) fun v115 =>
            K v115 h_48
          ) (
            optW (pBin Try.prog .add 9 (.string (bs [114, 111, 111, 116, 32])) (e 5)) fun v77_1 =>
            optW (pBin Try.prog .add 9 v77_1 (.string (bs [59, 32, 101, 108, 101, 109, 101, 110, 116, 32]))) fun v78_1 =>
            optW (pBin Try.prog .add 9 v78_1 (e 5)) fun v80_1 =>
            optW (pBin Try.prog .add 9 v80_1 (.string (bs [32, 61, 32, 101, 109, 112, 116, 121, 59]))) fun v81_1 =>
            callW Try.prog 17 [v81_1] h_27 fun v84_1 h_49 =>
            optW (pExtract v84_1 0) fun v85_1 =>
            optW (pExtract v84_1 1) fun v86_1 =>
            optW (pExtract v84_1 2) fun v87_1 =>
            newR none [(.string (bs [])), (.slice none 0 0)] h_49 fun v9_1 h_50 =>
            optW (pStore 2 v9_1 v85_1 h_50) fun h_51 =>
            callW Try.prog 18 [v81_1] h_51 fun v90_1 h_52 =>
            optW (pExtract v90_1 0) fun v91_1 =>
            optW (pExtract v90_1 1) fun v92_1 =>
            optW (pExtract v90_1 2) fun v93_1 =>
            newR none [(.string (bs [])), (.slice none 0 0)] h_52 fun v12_1 h_53 =>
            optW (pStore 2 v12_1 v91_1 h_53) fun h_54 =>
            optW (pBin Try.prog .eql 3 v87_1 v93_1) fun v96_1 =>
            gopW (gB v96_1 true) (fun k_37 =>
              k_37 v86_1 h_54) h_54 fun v98_1 h_55 =>
            gopW (gB v96_1 true) (fun k_38 =>
              k_38 v92_1 h_55) h_55 fun v99_1 h_56 =>
            gopW (gB v96_1 true) (fun k_39 =>
              optW (pBin Try.prog .eql 3 v98_1 v99_1) fun v100_3 =>
              k_39 v100_3 h_56) h_56 fun v100_2 h_57 =>
            optW (pPick v96_1 v100_2 (.bool false)) fun v101_1 =>
            gopW (gB v101_1 true) (fun k_40 =>
              k_40 (e 6) h_57) h_57 fun v103_1 h_58 =>
            gopW (gB v101_1 true) (fun k_41 =>
              optW (pUn .not v103_1) fun v104_3 =>
              k_41 v104_3 h_58) h_58 fun v104_2 h_59 =>
            gopW (gB v101_1 true) (fun k_42 =>
              k_42 v104_2 h_59) h_59 fun v105_1 h_60 =>
            gopW (gB v105_1 false) (fun k_43 =>
              k_43 v87_1 h_60) h_60 fun v106_1 h_61 =>
            gopW (gB v105_1 false) (fun k_44 =>
              optW (pBin Try.prog .eql 32 v106_1 (.int .i64 0)) fun v107_3 =>
              k_44 v107_3 h_61) h_61 fun v107_2 h_62 =>
            gopW (gB v105_1 false) (fun k_45 =>
              k_45 v107_2 h_62) h_62 fun v108_1 h_63 =>
            gopW (gB v108_1 true) (fun k_46 =>
              optW (pOff 0 v9_1) fun v109_3 =>
              k_46 v109_3 h_63) h_63 fun v109_2 h_64 =>
            gopW (gB v108_1 true) (fun k_47 =>
              optW (rdRow false 1 v109_2 h_64) fun v110_3 =>
              k_47 v110_3 h_64) h_64 fun v110_2 h_65 =>
            gopW (gB v108_1 true) (fun k_48 =>
              k_48 (e 5) h_65) h_65 fun v111_1 h_66 =>
            gopW (gB v108_1 true) (fun k_49 =>
              optW (pBin Try.prog .eql 9 v110_2 v111_1) fun v112_3 =>
              k_49 v112_3 h_66) h_66 fun v112_2 h_67 =>
            gopW (gB v105_1 false) (fun k_50 =>
              optW (pPick v108_1 v112_2 (.bool false)) fun v113_3 =>
              k_50 v113_3 h_67) h_67 fun v113_2 h_68 =>
            gopW (gB v101_1 true) (fun k_51 =>
              optW (pPick v105_1 (.bool true) v113_2) fun v114_3 =>
              k_51 v114_3 h_68) h_68 fun v114_2 h_69 =>
            optW (pPick v101_1 v114_2 (.bool false)) fun v115_1 =>
            K v115_1 h_69)))
        e0 h := by
  refine loopE_intro (fun m e h' => ∃ (i : Nat) (b : Bool), i ≤ w.length ∧ m = w.length - i ∧ e 5 = .string (bs w) ∧ e 6 = .bool b ∧ e 7 = .int .i64 (i : Nat) ∧ h' = h ∧ (b = true → w ≠ [] ∧ w.length ≤ 8 ∧ ∀ c ∈ w.take i, low c = true)) w.length
    ⟨0, b0, Nat.zero_le _, rfl, f5, f6, f7, rfl, fun q => ⟨(hb q).1, (hb q).2, fun c hc => by simp at hc⟩⟩ ?_
  rintro I m e h' ⟨i, b, hi, hm, f5, f6, f7, rfl, hb⟩ ih
  rw [f5, f6, f7]
  refine w_lenStr (w_lss (c_dec (fun q => ?_) (fun q => ?_)))
  · obtain ⟨c, hc⟩ := getElem?_of_lt (l := w) (i := i) (by omega)
    have c0 : (0 : Int) ≤ (i : Nat) := Int.natCast_nonneg i
    have hc' : w[((i : Nat) : Int).toNat]? = some c := by rw [Int.toNat_natCast]; exact hc
    have et : w.take (i + 1) = w.take i ++ [c] := by rw [List.take_add_one, hc]; rfl
    cases b with
    | true =>
      obtain ⟨b1, b2, b3⟩ := hb rfl
      refine gc_tt (gc_tt (gc_tt (w_idxStr c0 hc' (gc_tt (w_geq (pk_t ?_))))))
      by_cases q1 : (97 : Int) ≤ (c.toNat : Nat)
      · refine g_tt q1 (g_tt q1 (g_tt q1 (w_idxStr c0 hc' (g_tt q1 (w_leq (pk_tt q1 ?_))))))
        refine w_add (by omega) (by omega) ?_
        refine ih (w.length - (i + 1)) _ _ (by omega) ⟨i + 1, _, by omega, rfl, f5, rfl, rfl, rfl, fun q2 => ⟨b1, b2, ?_⟩⟩
        intro x hx
        rw [et] at hx
        rcases List.mem_append.1 hx with hx | hx
        · exact b3 x hx
        · rw [List.mem_singleton.1 hx]
          have := of_decide_eq_true q2
          exact decide_eq_true ⟨by omega, by omega⟩
      · refine g_tf q1 (g_tf q1 (g_tf q1 (g_tf q1 (pk_ff q1 ?_))))
        refine w_add (by omega) (by omega) ?_
        exact ih (w.length - (i + 1)) _ _ (by omega) ⟨i + 1, false, by omega, rfl, f5, rfl, rfl, rfl, fun q2 => by cases q2⟩
    | false =>
      refine gc_tf (gc_tf (gc_tf (gc_tf (pk_f ?_))))
      refine gc_tf (gc_tf (gc_tf (gc_tf (pk_f ?_))))
      refine w_add (by omega) (by omega) ?_
      exact ih (w.length - (i + 1)) _ _ (by omega) ⟨i + 1, false, by omega, rfl, f5, rfl, rfl, rfl, fun q2 => by cases q2⟩
  · have et : w.take i = w := List.take_of_length_le (by omega)
    rw [et] at hb
    refine w_seql (w_orS fun _ _ => w_orS fun _ _ => w_orS fun _ _ => w_orS fun _ _ => ?_)
    refine c_b (fun q1 => ?_) (fun q1 => ?_)
    · exact names_tail (b := false) hw (fun q => by cases q) k
    · refine names_tail (b := b) hw (fun q2 => ?_) k
      obtain ⟨b1, b2, b3⟩ := hb q2
      simp only [Bool.or_eq_false_iff, decide_eq_false_iff_not] at q1
      refine ⟨decide_eq_true ⟨b1, b2, fun hk => ?_⟩, b3⟩
      simp only [keys, List.mem_cons, List.not_mem_nil, or_false] at hk
      obtain ⟨⟨⟨⟨n1, n2⟩, n3⟩, n4⟩, n5⟩ := q1
      rcases hk with hk | hk | hk | hk | hk
      · exact n1 hk
      · exact n2 hk
      · exact n3 hk
      · exact n4 hk
      · exact n5 hk
theorem bld10 (b0 b1 b2 b3 b4 b5 b6 b7 b8 b9 : W) : bldSl 1 [(.string (bs []))] 10 [(0, .string (bs b0)), (1, .string (bs b1)), (2, .string (bs b2)), (3, .string (bs b3)), (4, .string (bs b4)), (5, .string (bs b5)), (6, .string (bs b6)), (7, .string (bs b7)), (8, .string (bs b8)), (9, .string (bs b9))] = some (flat eS [b0, b1, b2, b3, b4, b5, b6, b7, b8, b9]) := by kernel_rfl
theorem optW_some' {α : Type} {v : α} {K : α → Prop} : optW (some v) K = K v := rfl
theorem strs_at {h : AH} {l : List W} {n i : Nat} (hg : h[i]? = some (.row (flat eS l) true)) (hn : n = l.length) (hl : l.length < 100) : SlT 1 eS h (.slice (some ⟨i, 0, none⟩) n n) l := by
  subst hn
  refine ⟨flat_length eS_len l, .inr ⟨i, 0, _, rfl, .inl ⟨?_, Nat.le_refl _⟩, .inr ⟨_, true, hg, ?_, ?_⟩⟩⟩
  · have : (100 : Nat) < openCap := by decide
    omega
  · rw [flat_length eS_len]; omega
  · rw [List.drop_zero, ← flat_length eS_len l, List.take_length]
theorem schemaNames_walk (h : AH) (raw : W) (_ : raw.length ≤ maxLen) (a : Int) (_ : -9223372036854775808 ≤ a ∧ a ≤ 9223372036854775807) (hh : h = []) : callW Try.prog 10 [.string (bs raw), .int .i64 a] h fun v _ => v = .bool true := by
  subst hh
  refine c10 ?_
  unfold s10
  refine known12 (.inl rfl) fun h1 x1 => w_notb (c_f ?_)
  refine w_lenStr (w_gtr (c_dec (fun _ => rfl) fun q => ?_))
  rw [bld10, optW_some']
  refine n_newv fun h2 x2 l2 g2 => ?_
  obtain ⟨ws, hws⟩ : ∃ ws : List W, ws = [[114, 111, 111, 116], [101, 108, 101, 109, 101, 110, 116], [101, 109, 112, 116, 121], [97, 110, 121], [116, 101, 120, 116], [114, 111, 111, 116, 115], [97], [97, 98, 99, 100, 101, 102, 103, 104], [97, 98, 99, 100, 101, 102, 103, 104, 105], raw] := ⟨_, rfl⟩
  rw [← hws] at g2
  have wl : ws.length = 10 := by rw [hws]; rfl
  have sl : SlT 1 eS h2 (.slice (some ⟨h1.length, 0, none⟩) 10 10) ws := strs_at g2 wl.symm (by omega)
  have hlen : ∀ w ∈ ws, w.length ≤ 100 := by
    intro w hw
    rw [hws] at hw
    simp only [List.mem_cons, List.not_mem_nil, or_false] at hw
    rcases hw with rfl | rfl | rfl | rfl | rfl | rfl | rfl | rfl | rfl | rfl
    all_goals first | omega | decide
  clear hws
  have k0 := Int.emod_nonneg a (show (10 : Int) ≠ 0 by decide)
  have k1 := Int.emod_lt_of_pos a (show (0 : Int) < 10 by decide)
  refine within15 _ _ _ _ (by decide) (by decide) ?_
  obtain ⟨w, hw⟩ := getElem?_of_lt (l := ws) (i := (a % 10).toNat) (by omega)
  have hwl := hlen w (List.mem_of_getElem? hw)
  refine w_idxT (enc := eS) eS_len sl k0 hw fun p hp => w_rd1 hp rfl ?_
  refine w_lenStr (w_gtr ?_)
  by_cases q1 : (0 : Int) < (w.length : Nat)
  · refine g_tt q1 (g_tt q1 (w_lenStr (g_tt q1 (w_leq (pk_tt q1 ?_)))))
    have hne : w ≠ [] := fun e => by rw [e] at q1; simp at q1
    by_cases q2 : ((w.length : Nat) : Int) ≤ 8
    · refine g_tt q2 (g_tt q2 (within15 _ _ _ _ (by decide) (by decide) (g_tt q2 (w_gtr (pk_tt q2 ?_)))))
      exact names_loop (b0 := _) rfl rfl rfl hwl (fun _ => ⟨hne, by omega⟩) fun _ => rfl
    · refine g_tf q2 (g_tf q2 (g_tf q2 (pk_ff q2 ?_)))
      exact names_loop (b0 := false) rfl rfl rfl hwl (fun q => by cases q) fun _ => rfl
  · refine g_tf q1 (g_tf q1 (g_tf q1 (pk_ff q1 ?_)))
    refine gc_tf (gc_tf (gc_tf (pk_f ?_)))
    exact names_loop (b0 := false) rfl rfl rfl hwl (fun q => by cases q) fun _ => rfl
end Go.Proofs.Ytlenlhlipmkeeaa.W
end
