/- Parts of a proof, joined by a program. Conditions: none. -/
import Derived.Test.YtlenlhlipmkeeaaRB3
import Derived.Test.YtlenlhlipmkeeaaRA2
import Derived.Test.YtlenlhlipmkeeaaRB1
import Derived.Test.YtlenlhlipmkeeaaRB0
import Derived.Test.YtlenlhlipmkeeaaRS0
import Derived.Test.YtlenlhlipmkeeaaRB2

section
/- Schema's laws: the document's Parse: how a schema is read. Conditions: none. -/
namespace Go.Proofs.Ytlenlhlipmkeeaa.W
open Go Go.AM SchM
set_option linter.unusedVariables false
set_option maxRecDepth 100000
theorem sgn_ne {s : W} {q : Nat} (h : q < s.length) : sgn s q ≠ ([], 0) := by
  unfold sgn
  by_cases hw : wordAt s q ≠ []
  · rw [if_pos hw]
    intro e
    injection e with e1 _
    exact hw e1
  · rw [if_neg hw]
    obtain ⟨c, hc⟩ := getElem?_of_lt h
    rw [hc]
    dsimp only
    split
    · intro e; injection e with e1 _; exact absurd e1 (by decide)
    · rename_i h0
      intro e; injection e with _ e2; exact h0 e2
theorem elems_r {s : W} {n q : Nat} {l : List (W × Mdl)} (h : q < s.length) : elems s (n + 1) q l = match relem s (l.map (·.1)) q with
      | .bad e a => .bad e a
      | .ok x q => elems s n q (l ++ [x]) := by
  unfold relem
  by_cases hs : sgn s q = (wElement, 0)
  · rw [elems_step hs, if_pos hs]
    cases elem s (l.map (·.1)) (adv s q) <;> rfl
  · rw [elems_bad hs (sgn_ne h), if_neg hs]
theorem relem_ok {s : W} {l : List W} {p q : Nat} {x : W × Mdl} (hp : p ≤ s.length) (h : relem s l p = .ok x q) : p < q ∧ q ≤ s.length ∧ l.length < 8 ∧ sz x.2 ≤ s.length := by
  unfold relem at h
  split at h
  · rename_i h1
    have a1 := adv_gt hp (by rw [h1]; decide)
    have u := elem_up (adv_le s p hp) h
    exact ⟨by omega, u.2, elem_lt h, elem_sm (adv_le s p hp) h⟩
  · cases h
theorem res27' (e : Env) (h : AH) : resList Try.prog e h Try.f18.results.toList = (rdRow true 2 (e 2) h).map fun v => [v, e 3, e 4] := by
  have h1 : Try.f18.results.toList = [.cell 2 27, .tmp 3, .tmp 4] := by kernel_rfl
  have h2 : ∀ x, pLoad Try.prog 27 x h = rdRow true 2 x h := fun x => by kernel_rfl
  rw [h1]
  show (match pLoad Try.prog 27 (e 2) h with
    | some v => match resList Try.prog e h [.tmp 3, .tmp 4] with
      | some vs => some (v :: vs)
      | none => none
    | none => none) = _
  rw [h2]
  cases rdRow true 2 (e 2) h <;> rfl
theorem endR {E : Env} {r : Nat} {h h0 : AH} {w : W} {a : Option Addr} {l c : Nat} {x y : Value} {K : Value → AH → Prop} (hE : E 2 = .pointer (some ⟨r, 0, none⟩)) (h3 : E 3 = x) (h4 : E 4 = y) (e : h = h0.set r (.row [.string (bs w), .slice a l c] true)) (hr : r < h0.length) (k : K (.tuple #[.agg #[.string (bs w), .slice a l c], x, y]) h) :
    optW (resList Try.prog E h Try.f18.results.toList) fun vs => K (resOf vs) h := by
  have g2 : h[r]? = some (.row [.string (bs w), .slice a l c] true) := by rw [e]; exact get_set _ hr _
  rw [res27', hE, h3, h4]
  refine w_some (v := [Value.agg #[.string (bs w), .slice a l c], x, y]) ?_ (show K (.tuple #[.agg #[.string (bs w), .slice a l c], x, y]) _ from k)
  have e := hopt (o := rdRow true 2 (.pointer (some ⟨r, 0, none⟩)) _) (w_rdPA g2 (Nat.le_refl 2) rfl)
  rw [e]
  rfl
def ERr (h4 : AH) (T X O : Nat) (s : W) (h : AH) : Prop := ∃ er a w vl, RE h X s 0 er a ∧ BS h4 T X O h (At X) w vl ∧ parse s = .bad er a
theorem ERr.ex {h4 h h' : AH} {T X O : Nat} {s : W} (r : ERr h4 T X O s h) (x : Ex h h') : ERr h4 T X O s h' := by
  obtain ⟨er, a, w, vl, r, b, hp⟩ := r
  exact ⟨er, a, w, vl, r.ex x, b.ex x, hp⟩
theorem errEndR {h0 h4 h : AH} {T X O : Nat} {s : W} {E : Value → Value → Value → Value → Value → Value → Value → Env} {K : Value → AH → Prop} (b4 : B4 h0 h4 T X O) (r : ERr h4 T X O s h) (e2 : ∀ a b c d e f g, E a b c d e f g 2 = .pointer (some ⟨T, 0, none⟩)) (e3 : ∀ a b c d e f g, E a b c d e f g 3 = d) (e4 : ∀ a b c d e f g, E a b c d e f g 4 = g) (k : ∀ h' v, Ex h0 h' → PR h0 h' (parse s) v → K v h') :
    optW (bld [(.string (bs [])), (.slice none 0 0)] [(0, 1), (1, 1)] []) fun v75 => optW (pNilCheck (.pointer (some ⟨X, 0, none⟩))) fun v77 => optW (pOff 3 v77) fun v78 => optW (rdRow false 1 v78 h) fun v79 => optW (pNilCheck (.pointer (some ⟨X, 0, none⟩))) fun v81 => optW (pOff 2 v81) fun v82 => optW (rdRow false 1 v82 h) fun v83 => optW (pStore 2 (.pointer (some ⟨T, 0, none⟩)) v75 h) fun h_17 =>
      (∀ x ∈ (ceOf 1 v82), vw x (h) = vw x (h_17)) ∧ (∀ x ∈ (ceOf 1 v78), vw x (h) = vw x (h_17)) ∧ optW (resList Try.prog (E v75 v77 v78 v79 v81 v82 v83) h_17 Try.f18.results.toList) fun vs => K (resOf vs) h_17 := by
  obtain ⟨er, a, w, vl, r, b, hp⟩ := r
  obtain ⟨P, gE, _⟩ := r.g
  refine w_some (v := .agg #[.string (bs []), .slice none 0 0]) rfl ?_
  refine w_nilc (w_offP (w_rdP gE (v := .int .i64 a) rfl (w_nilc (w_offP (w_rdP gE (v := .int .i64 er) rfl ?_)))))
  have gT := b.t b4
  refine w_stPA gT rfl (Nat.le_refl 2) rfl ?_
  refine ⟨ptr_id (get_ne b4.tX _), ptr_id (get_ne b4.tX _), ?_⟩
  refine endR (r := T) (h0 := h) (w := []) (a := none) (l := 0) (c := 0) (e2 _ _ _ _ _ _ _) (e3 _ _ _ _ _ _ _) (e4 _ _ _ _ _ _ _) rfl (lt_of_get gT) ?_
  refine k _ _ ((b.toEx b4).set b4.bT _) ?_
  rw [hp]
  rfl
structure LR (b : Nat) (h : AH) (v : Value) (l : List (W × Mdl)) : Prop where
  ex : ∃ cs, Sl 4 h v l.length cs ∧ (∀ j, onId v j → b ≤ j ∧ j < h.length) ∧ EL h (fun j => b ≤ j ∧ j < h.length) l cs
theorem LR.keep {b : Nat} {h h' : AH} {v : Value} {l : List (W × Mdl)} (x : LR b h v l) (hl : h.length ≤ h'.length) (hh : ∀ j, b ≤ j → j < h.length → h'[j]? = h[j]?) : LR b h' v l := by
  obtain ⟨cs, s, o, e⟩ := x.ex
  exact ⟨⟨cs, Sl.keepOn s fun j hj => hh j (o j hj).1 (o j hj).2, fun j hj => ⟨(o j hj).1, Nat.lt_of_lt_of_le (o j hj).2 hl⟩, EL.mono (fun j hj => ⟨hh j hj.1 hj.2, hj.1, Nat.lt_of_lt_of_le hj.2 hl⟩) l cs e⟩⟩
theorem LR.chg {b X : Nat} {h h' : AH} {v : Value} {l : List (W × Mdl)} (x : LR b h v l) (hX : X < b) (c : Chg (At X) h (At X) h') : LR b h' v l :=
  x.keep c.len fun j hj hl => c.get j hl fun e => by have : j = X := e; omega
theorem LR.nm {b : Nat} {h : AH} {v : Value} {l : List (W × Mdl)} (x : LR b h v l) : Nm h v (l.map (·.1)) := by
  obtain ⟨cs, s, o, r⟩ := x.ex
  refine ⟨⟨cs, by rw [List.length_map]; exact s, fun i w hw => ?_⟩⟩
  rw [List.getElem?_map] at hw
  cases hl : l[i]? with
  | none => rw [hl] at hw; cases hw
  | some e =>
    rw [hl] at hw
    cases hw
    obtain ⟨k, n, a, ll, c, h1, _⟩ := EL.get l cs r i e hl
    exact ⟨k, n, a, ll, c, h1⟩
theorem PtrTo.idlt {n : Nat} {h : AH} {p : Value} {cs : List Value} (hp : PtrTo h p cs) : ∀ x ∈ ceOf n p, x.id < h.length := by
  obtain ⟨id, off, c, w, rfl, h1, h2, h3⟩ := hp
  intro x hx
  rw [ce_id hx]
  exact lt_of_get h1
set_option maxHeartbeats 1000000 in
theorem parse18 {h : AH} {s : W} {K : Value → AH → Prop} (hl : s.length < 1000000000) (k : ∀ h' v, Ex h h' → PR h h' (parse s) v → K v h') : callW Try.prog 18 [.string (bs s)] h K := by
  refine c18 ?_
  unfold s18
  refine n_rowv fun h1 x1 l1 g1 => ?_
  refine w_lenStr (w_gtr (c_dec (fun q => ?_) (fun q => ?_)))
  · refine w_some (v := .agg #[.string (bs []), .slice none 0 0]) rfl ?_
    refine w_stPA g1 rfl (Nat.le_refl 2) rfl ?_
    refine endR (r := h.length) (h0 := h1) (w := []) (a := none) (l := 0) (c := 0) rfl rfl rfl rfl (by omega) ?_
    refine k _ _ (x1.set (Nat.le_refl _) _) ?_
    unfold parse
    rw [if_pos (by omega)]
    rfl
  have hs : s.length ≤ 2000 := by omega
  refine w_some (v := .agg #[.string (bs s), .int .i64 0, .int .i64 0, .int .i64 0, .int .i64 0]) rfl ?_
  refine n_boxv rfl fun h3 x3 l3 g3 => ?_
  refine n_rowv fun h4 x4 l4 g4 => ?_
  have gX : h4[h1.length]? = some (.row (rrow s ((0 : Nat) : Int) 0 0 ((0 : Nat) : Int)) true) := x4.some g3
  have b4 : B4 h h4 h.length h1.length h3.length := ⟨(x1.trans x3).trans x4, (x3.trans x4).some g1, by omega, by omega, by omega, by omega, by omega, Nat.le_refl _, by omega, by omega⟩
  have sB : BS h4 h.length h1.length h3.length h4 (At h1.length) [] (.slice none 0 0) := ⟨Chg.refl _ _, fun e => b4.xO e.symm, g4⟩
  clear g1 g3 g4 l1 l3 l4
  generalize h.length = T at *
  generalize h1.length = X at *
  generalize h3.length = O at *
  have r4 : RO h4 X s 0 0 := ⟨gX, Nat.zero_le _⟩
  generalize hp0 : skip s 0 = p0
  have hp0l : p0 ≤ s.length := by rw [← hp0]; exact (skip_le s 0 (Nat.zero_le _)).2
  have parseO : sgn s p0 = (wRoot, 0) → isName (sgn s (adv s p0)).1 = true → sgn s (adv s (adv s p0)) = ([], 59) → parse s = finish (sgn s (adv s p0)).1 (elems s (s.length + 1) (adv s (adv s (adv s p0))) []) := fun a b c => by
    unfold parse
    rw [if_neg (by omega), hp0, if_pos a, if_pos b, if_pos c]
  have hm : callW Try.prog 40 [.pointer (some ⟨X, 0, none⟩), .string (bs wRoot)] h4 fun v h5 => (∃ P, RO h5 X s P 0 ∧ skip s P = adv s p0 ∧ BS h4 T X O h5 (At X) [] (.slice none 0 0) ∧ sgn s p0 = (wRoot, 0)) ∨ ERr h4 T X O s h5 := by
    refine take40 tkR (by omega) (by decide) r4 (fun q5 h5 c5 r5 => ?_) (fun q5 h5 c5 r5 => ?_)
    · rw [hp0] at q5 r5
      exact .inl ⟨_, r5, rfl, sB.chg c5, q5⟩
    · rw [hp0] at q5 r5
      refine .inr ⟨1, p0, _, _, r5, sB.chg c5, ?_⟩
      unfold parse
      rw [if_neg (by omega), hp0, if_neg q5]
  refine callK hm ?_
  clear hm r4 sB gX
  intro v5 h5 inv
  refine joinE_intro (fun e h6 => e 0 = .string (bs s) ∧ e 2 = .pointer (some ⟨T, 0, none⟩) ∧ e 5 = .pointer (some ⟨X, 0, none⟩) ∧ e 6 = .pointer (some ⟨O, 0, none⟩) ∧ ((∃ P, RO h6 X s P 0 ∧ skip s P = adv s (adv s p0) ∧ BS h4 T X O h6 (At X) (sgn s (adv s p0)).1 (.slice none 0 0) ∧ sgn s p0 = (wRoot, 0) ∧ isName (sgn s (adv s p0)).1 = true) ∨ ERr h4 T X O s h6)) ?_ ?_
  rotate_left
  · intro J hJ
    rcases inv with ⟨P, r5, hP, s5, q5⟩ | er
    · refine w_nilc (w_offP (w_rdP r5.g (v := .int .i64 0) rfl (w_eql (c_tt rfl ?_))))
      refine name41 (by omega) r5 (fun hn h6 c6 r6 => ?_) (fun hn h6 c6 r6 => ?_)
      · rw [hP] at hn r6 ⊢
        have s6 := s5.chg c6
        have hXO := b4.xO
        refine w_offP (w_stP s6.o (by show 0 + 0 < 2; decide) rfl rfl ?_)
        exact hJ _ _ ⟨rfl, rfl, rfl, rfl, .inl ⟨_, ⟨(get_ne (Ne.symm hXO) _).trans r6.g, r6.p⟩, rfl, s6.setO _ _, q5, hn⟩⟩
      · rw [hP] at hn r6
        have s6 := s5.chg c6
        have hXO := b4.xO
        obtain ⟨P6, g6, hP6⟩ := r6.g
        refine w_offP (w_stP s6.o (by show 0 + 0 < 2; decide) rfl rfl ?_)
        refine hJ _ _ ⟨rfl, rfl, rfl, rfl, .inr ⟨1, adv s p0, _, _, ⟨⟨P6, (get_ne (Ne.symm hXO) _).trans g6, hP6⟩, by decide⟩, s6.setO _ _, ?_⟩⟩
        unfold parse
        rw [if_neg (by omega), hp0, if_pos q5, if_neg (by rw [hn]; decide)]
    · have er' := er
      obtain ⟨er, a, w, vl, r, b, hp⟩ := er
      obtain ⟨P, gE, _⟩ := r.g
      refine w_nilc (w_offP (w_rdP gE (v := .int .i64 er) rfl (w_eql (c_ff r.e ?_))))
      exact hJ _ _ ⟨rfl, rfl, rfl, rfl, .inr er'⟩
  clear inv h5
  rintro e h6 ⟨e0, e2, e5, e6, inv⟩
  rw [e5]
  refine joinE_intro (fun e h7 => e 0 = .string (bs s) ∧ e 2 = .pointer (some ⟨T, 0, none⟩) ∧ e 5 = .pointer (some ⟨X, 0, none⟩) ∧ e 6 = .pointer (some ⟨O, 0, none⟩) ∧ ((∃ P, RO h7 X s P 0 ∧ skip s P = adv s (adv s (adv s p0)) ∧ BS h4 T X O h7 (At X) (sgn s (adv s p0)).1 (.slice none 0 0) ∧ sgn s p0 = (wRoot, 0) ∧ isName (sgn s (adv s p0)).1 = true ∧ sgn s (adv s (adv s p0)) = ([], 59)) ∨ ERr h4 T X O s h7)) ?_ ?_
  rotate_left
  · intro J hJ
    rcases inv with ⟨P, r6, hP, s6, q5, hn⟩ | er
    · refine w_nilc (w_offP (w_rdP r6.g (v := .int .i64 0) rfl (w_eql (c_tt rfl ?_))))
      refine take40 (w := [59]) (tkC (by decide) (by decide)) (by omega) (by decide) r6 (fun q7 h7 c7 r7 => ?_) (fun q7 h7 c7 r7 => ?_)
      · rw [hP] at q7 r7
        exact hJ _ _ ⟨e0, e2, e5, e6, .inl ⟨_, r7, rfl, s6.chg c7, q5, hn, q7⟩⟩
      · rw [hP] at q7 r7
        refine hJ _ _ ⟨e0, e2, e5, e6, .inr ⟨1, adv s (adv s p0), _, _, r7, s6.chg c7, ?_⟩⟩
        unfold parse
        rw [if_neg (by omega), hp0, if_pos q5, if_pos hn, if_neg q7]
    · have er' := er
      obtain ⟨er, a, w, vl, r, b, hp⟩ := er
      obtain ⟨P, gE, _⟩ := r.g
      refine w_nilc (w_offP (w_rdP gE (v := .int .i64 er) rfl (w_eql (c_ff r.e ?_))))
      exact hJ _ _ ⟨e0, e2, e5, e6, .inr er'⟩
  clear inv e0 e2 e5 e6
  clear e h6
  rintro e h7 ⟨e0, e2, e5, e6, inv⟩
  rw [e5]
  let IV : Nat → AH → Prop := fun mm h' => (∃ (k : Nat) (l : List (W × Mdl)) (q : Nat) (vl : Value), mm = k + 1 ∧ RO h' X s q 0 ∧ skip s q = q ∧ BS h4 T X O h' (At X) (sgn s (adv s p0)).1 vl ∧ LR h4.length h' vl l ∧ l.length ≤ q ∧ s.length < q + k ∧ l.length ≤ 8 ∧ (∀ e ∈ l, sz e.2 ≤ 2000) ∧
          parse s = finish (sgn s (adv s p0)).1 (elems s k q l)) ∨ (mm = 0 ∧ ERr h4 T X O s h')
  have hm : callW Try.prog 42 [.pointer (some ⟨X, 0, none⟩)] h7 fun v h8 => ∃ m0, IV m0 h8 := by
    rcases inv with ⟨P, r7, hP, s7, q5, hn, q7⟩ | er
    · refine blanks42 r7.g (by omega) r7.p fun h8 c8 g8 => ?_
      rw [hP] at g8
      refine ⟨s.length + 2, .inl ⟨s.length + 1, [], _, _, rfl, ⟨g8, ?_⟩, adv_skip s _, s7.chg c8, ⟨⟨[], ⟨rfl, .inl ⟨rfl, rfl⟩⟩, fun j hj => hj.elim, rfl⟩⟩, Nat.zero_le _, by omega, Nat.zero_le _, fun e he => (by cases he), parseO q5 hn q7⟩⟩
      exact adv_le s _ (adv_le s _ (adv_le s p0 hp0l))
    · obtain ⟨er, a, w, vl, r, b, hp⟩ := er
      obtain ⟨P, gE, hP⟩ := r.g
      exact blanks42 gE (by omega) hP fun h8 c8 g8 => ⟨0, .inr ⟨rfl, er, a, w, vl, ⟨⟨_, g8, (skip_le s P hP).2⟩, r.e⟩, b.chg c8, hp⟩⟩
  refine callK hm ?_
  clear hm inv
  rintro v8 h8 ⟨m0, hI⟩
  refine loopE_intro (fun mm e h' => e 0 = .string (bs s) ∧ e 2 = .pointer (some ⟨T, 0, none⟩) ∧ e 5 = .pointer (some ⟨X, 0, none⟩) ∧ e 6 = .pointer (some ⟨O, 0, none⟩) ∧ IV mm h') m0 ⟨e0, e2, e5, e6, hI⟩ ?_
  clear hI e0 e2 e5 e6
  clear e h7 h8 m0
  rintro I mm e h9 ⟨e0, e2, e5, e6, inv⟩ ih
  rw [e0, e2, e5, e6]
  have hXO := b4.xO
  have lX4 := b4.lX
  have lO4 := b4.lO
  have y0 : (0 : Int) = 0 := rfl
  rcases inv with ⟨k0, l, q0, vl, hmm, r9, hq0, s9, L9, hlq, hk, hl8, hsz, hparse⟩ | ⟨hmm, er⟩
  · have hql := r9.p
    refine w_nilc (w_offP (w_rdP r9.g (v := .int .i64 0) rfl (w_eql ?_)))
    refine g_tt y0 (g_tt y0 (w_nilc (g_tt y0 (w_offP (g_tt y0 (w_rdP r9.g (v := .int .i64 q0) rfl (g_tt y0 (g_tt y0 (w_lenStr (g_tt y0 (w_lss (pk_tt y0 ?_))))))))))))
    refine c_dec (fun qq => ?_) (fun qq => ?_)
    · -- an element
      obtain ⟨k1, rfl⟩ : ∃ k1, k0 = k1 + 1 := ⟨k0 - 1, by omega⟩
      have hq : q0 < s.length := by omega
      rw [elems_r hq] at hparse
      refine w_rdPA s9.o (Nat.le_refl 2) ?_
      have hvb : ∀ j, onId vl j → h4.length ≤ j ∧ j < h9.length := by
        obtain ⟨cs, _, o, _⟩ := L9.ex
        exact o
      have hvX : ¬ onId vl X := fun hon => by have := (hvb X hon).1; omega
      refine relem43 hs r9 hq0 L9.nm hvX (fun j hj => (hvb j hj).2) (by rw [List.length_map]; omega) (fun k' n' a' l' c' h13 w m q P' he c13 r13 hq13 m13 => ?_) (fun v h13 er a he c13 r13 m13 => ?_)
      · obtain ⟨u1, u2, u3, u4⟩ := relem_ok hql he
        rw [List.length_map] at u3
        rw [he] at hparse
        dsimp only at hparse
        have L13 := L9.chg lX4 c13
        have s13 := s9.chg c13
        refine n_rowv fun h14 x14 l14 g14 => ?_
        refine w_stPA g14 rfl (by decide) rfl ?_
        have g15 : (h14.set h13.length (.row (spliceL [(.string (bs [])), (.int .i64 0), (.string (bs [])), (.slice none 0 0)] 0 (cellsL (.agg #[.string (bs w), .int .i64 k', .string (bs n'), .slice a' l' c']))) true))[h13.length]? = some (.row [.string (bs w), .int .i64 k', .string (bs n'), .slice a' l' c'] true) := get_set _ (lt_of_get g14) _
        have x15 : Ex h13 (h14.set h13.length (.row (spliceL [(.string (bs [])), (.int .i64 0), (.string (bs [])), (.slice none 0 0)] 0 (cellsL (.agg #[.string (bs w), .int .i64 k', .string (bs n'), .slice a' l' c']))) true)) := x14.set (Nat.le_refl _) _
        generalize h14.set h13.length (.row (spliceL [(.string (bs [])), (.int .i64 0), (.string (bs [])), (.slice none 0 0)] 0 (cellsL (.agg #[.string (bs w), .int .i64 k', .string (bs n'), .slice a' l' c']))) true) = h15 at g15 x15 ⊢
        have s15 := s13.ex x15
        obtain ⟨cs, sl15, o15, e15⟩ := (L13.keep x15.len fun j _ hj => x15.get j hj).ex
        refine appTwo rfl s15.o g15 sl15 (by omega) fun _ _ _ _ _ _ _ _ v61 h19 x19 sl19 on19 => ?_
        have s19 := s15.ex x19
        have x139 := x15.trans x19
        have r19 := r13.ex x139
        obtain ⟨va, vc, rfl⟩ := sl19.shape
        refine w_offP (w_stP s19.o (by show 0 + 1 < 2; decide) rfl rfl ?_)
        have s20 : BS h4 T X O (h19.set O (.row ([Value.string (bs (sgn s (adv s p0)).1), vl].set (0 + 1) (.slice va (l.length + 1) vc)) true)) (At X) (sgn s (adv s p0)).1 (.slice va (l.length + 1) vc) := s19.setO _ _
        have n20 : ∀ j, j ≠ O → (h19.set O (.row ([Value.string (bs (sgn s (adv s p0)).1), vl].set (0 + 1) (.slice va (l.length + 1) vc)) true))[j]? = h19[j]? := fun j hj => get_ne (Ne.symm hj) _
        have l20 : (h19.set O (.row ([Value.string (bs (sgn s (adv s p0)).1), vl].set (0 + 1) (.slice va (l.length + 1) vc)) true)).length = h19.length := List.length_set
        generalize h19.set O (.row ([Value.string (bs (sgn s (adv s p0)).1), vl].set (0 + 1) (.slice va (l.length + 1) vc)) true) = h20 at s20 n20 l20 ⊢
        have r20 : RO h20 X s P' 0 := ⟨(n20 X hXO).trans r19.g, r19.p⟩
        have l49 := s9.c.len
        have l913 := c13.len
        have L20 : LR h4.length h20 (.slice va (l.length + 1) vc) (l ++ [(w, m)]) := by
          have elm : (l ++ [(w, m)]).length = l.length + 1 := by simp
          have l15 := x15.len
          refine ⟨⟨cs ++ [.string (bs w), .int .i64 k', .string (bs n'), .slice a' l' c'], ?_, fun j hj => ⟨by have := (on19 j hj).1; omega, by have := (on19 j hj).2; omega⟩, ?_⟩⟩
          · rw [elm]
            exact Sl.keepOn sl19 fun j hj => n20 j (by have := (on19 j hj).1; omega)
          · refine EL.snoc (e := (w, m)) (MH.mono (fun j gj => ⟨(n20 j (by have := gj.1; omega)).trans (x139.get j gj.2.1), by have := gj.1; omega, by have := x139.lt gj.2.1; omega⟩) m _ m13) l cs (EL.mono (fun j hj => ⟨(n20 j (by omega)).trans (x19.get j hj.2), hj.1, by have := x19.lt hj.2; omega⟩) l cs e15)
        refine blanks42 r20.g (by omega) r20.p fun h21 c21 g21 => ?_
        rw [hq13] at g21
        refine ih (k1 + 1) _ _ (by omega) ⟨e0, e2, e5, e6, .inl ⟨k1, l ++ [(w, m)], q, _, rfl, ⟨g21, u2⟩, by rw [← hq13]; exact skip_skip s P', s20.chg c21, L20.chg lX4 c21, by simp; omega, by omega, by simp; omega, fun e he => ?_, hparse⟩⟩
        rcases List.mem_append.1 he with he | he
        · exact hsz e he
        · have : e = (w, m) := by simpa using he
          rw [this]
          exact Nat.le_trans u4 hs
      · rw [he] at hparse
        have hparse' : parse s = .bad er a := hparse
        obtain ⟨w, k', n', a', l', c', ev⟩ := m13
        subst ev
        have L13 := L9.chg lX4 c13
        have s13 := s9.chg c13
        refine n_rowv fun h14 x14 l14 g14 => ?_
        refine w_stPA g14 rfl (by decide) rfl ?_
        have g15 : (h14.set h13.length (.row (spliceL [(.string (bs [])), (.int .i64 0), (.string (bs [])), (.slice none 0 0)] 0 (cellsL (.agg #[.string (bs w), .int .i64 k', .string (bs n'), .slice a' l' c']))) true))[h13.length]? = some (.row [.string (bs w), .int .i64 k', .string (bs n'), .slice a' l' c'] true) := get_set _ (lt_of_get g14) _
        have x15 : Ex h13 (h14.set h13.length (.row (spliceL [(.string (bs [])), (.int .i64 0), (.string (bs [])), (.slice none 0 0)] 0 (cellsL (.agg #[.string (bs w), .int .i64 k', .string (bs n'), .slice a' l' c']))) true)) := x14.set (Nat.le_refl _) _
        generalize h14.set h13.length (.row (spliceL [(.string (bs [])), (.int .i64 0), (.string (bs [])), (.slice none 0 0)] 0 (cellsL (.agg #[.string (bs w), .int .i64 k', .string (bs n'), .slice a' l' c']))) true) = h15 at g15 x15 ⊢
        have s15 := s13.ex x15
        obtain ⟨cs, sl15, o15, e15⟩ := (L13.keep x15.len fun j _ hj => x15.get j hj).ex
        refine appTwo rfl s15.o g15 sl15 (by omega) fun _ _ _ _ _ _ _ _ v61 h19 x19 sl19 on19 => ?_
        have s19 := s15.ex x19
        have r19 := r13.ex (x15.trans x19)
        obtain ⟨P19, g19, hP19⟩ := r19.g
        obtain ⟨va, vc, rfl⟩ := sl19.shape
        refine w_offP (w_stP s19.o (by show 0 + 1 < 2; decide) rfl rfl ?_)
        have s20 : BS h4 T X O (h19.set O (.row ([Value.string (bs (sgn s (adv s p0)).1), vl].set (0 + 1) (.slice va (l.length + 1) vc)) true)) (At X) (sgn s (adv s p0)).1 (.slice va (l.length + 1) vc) := s19.setO _ _
        have g20 : (h19.set O (.row ([Value.string (bs (sgn s (adv s p0)).1), vl].set (0 + 1) (.slice va (l.length + 1) vc)) true))[X]? = some (.row (rrow s P19 er a 0) true) := (get_ne (Ne.symm hXO) _).trans g19
        generalize h19.set O (.row ([Value.string (bs (sgn s (adv s p0)).1), vl].set (0 + 1) (.slice va (l.length + 1) vc)) true) = h20 at s20 g20 ⊢
        refine blanks42 g20 (by omega) hP19 fun h21 c21 g21 => ?_
        exact ih 0 _ _ (by omega) ⟨e0, e2, e5, e6, .inr ⟨rfl, er, a, _, _, ⟨⟨_, g21, (skip_le s P19 hP19).2⟩, r19.e⟩, s20.chg c21, hparse'⟩⟩
    · -- the end
      clear ih
      have hend : s.length ≤ q0 := by omega
      have hse := sgn_end hend
      rw [elems_end (by rw [hse]; decide) hse] at hparse
      have nz : ¬ ¬ (0 : Int) = 0 := fun h => h rfl
      refine w_nilc (w_offP (w_rdP r9.g (v := .int .i64 0) rfl (w_neq (c_ff nz ?_))))
      refine w_rdPA s9.o (Nat.le_refl 2) (w_offP (w_rdP s9.o (v := .string (bs (sgn s (adv s p0)).1)) rfl ?_))
      have hnl : (l.map (·.1)).length ≤ 100000 := by rw [List.length_map]; omega
      refine find44 L9.nm hnl fun h10 i x10 hi => w_geq ?_
      have hb0 : (decide (0 ≤ i) = true ↔ (sgn s (adv s p0)).1 ∈ l.map (·.1) ∧ ∀ w ∈ nmsE (l.take 0), w ∈ l.map (·.1)) := by
        rw [decide_eq_true_eq, hi]
        exact ⟨fun h => ⟨h, fun w hw => by cases hw⟩, fun h => h.1⟩
      generalize decide (0 ≤ i) = b0 at hb0
      refine loopE_intro (fun mm e h' => ∃ (j : Nat) (b : Bool), j ≤ l.length ∧ mm = l.length - j ∧ e 2 = .pointer (some ⟨T, 0, none⟩) ∧ e 6 = .pointer (some ⟨O, 0, none⟩) ∧ e 8 = .bool b ∧ e 9 = .int .i64 (j : Nat) ∧ Ex h9 h' ∧ (b = true ↔ (sgn s (adv s p0)).1 ∈ l.map (·.1) ∧ ∀ w ∈ nmsE (l.take j), w ∈ l.map (·.1))) l.length
        ⟨0, b0, Nat.zero_le _, rfl, e2, e6, rfl, rfl, x10, hb0⟩ ?_
      clear e0 e2 e5 e6 hmm hb0
      clear e mm I
      rintro I mm e h28 ⟨j, b, hj, hmm, e2, e6, e8, e9, x28, hb⟩ ih
      rw [e2, e6, e8, e9]
      have s28 := s9.ex x28
      obtain ⟨cs, sl, on, el⟩ := (L9.keep x28.len fun j _ hj => x28.get j hj).ex
      obtain ⟨va, vc, ev⟩ := sl.shape
      have so := s28.o
      rw [ev] at so sl
      refine w_offP (w_rdP so (v := .slice va l.length vc) rfl (w_lenSl (w_lss (c_dec (fun q => ?_) (fun q => ?_)))))
      · obtain ⟨x, hx⟩ := getElem?_of_lt (l := l) (i := j) (by omega)
        have et : l.take (j + 1) = l.take j ++ [x] := by rw [List.take_add_one, hx]; rfl
        have en : nmsE (l.take (j + 1)) = nmsE (l.take j) ++ nms x.2 := by rw [et, nmsE_append]; simp [nmsE]
        cases b with
        | true =>
          obtain ⟨k', n', a', ll, c', hc, mh⟩ := EL.get l cs el j x hx
          refine gdc_tt (w_rdPA so (Nat.le_refl 2) (gdc_tt (w_offP (gdc_tt (hist_nil (w_rdP so (v := .slice va l.length vc) rfl (gdc_tt (gdc_tt (w_idx sl (by omega) (by omega) fun p hp => ?_)))))))))
          rw [Int.toNat_natCast, hc] at hp
          refine gdc_tt (w_off hp (by show 1 ≤ 4; decide) fun p' hp' => gdc_tt (hist_nil (w_rdA hp' rfl (gdc_tt ?_))))
          have nm28 : Nm h28 (.slice va l.length vc) (l.map (·.1)) := by
            have := (L9.keep x28.len fun j _ hj => x28.get j hj).nm
            rw [ev] at this
            exact this
          refine named45 hnl 2000 x.2 h28 (.agg #[.int .i64 k', .string (bs n'), .slice a' ll c']) _ (hsz x (List.mem_of_getElem? hx)) (by decide) (MH.mono (fun j hj => ⟨rfl, hj.2⟩) x.2 _ mh) nm28 fun h37 b' x37 hb' => ?_
          have lO := lt_of_get so
          refine read_all ?_ fun t ht y hy => ?_
          · refine pk_t (w_add (by omega) (by omega) ?_)
            refine ih (l.length - (j + 1)) _ _ (by omega) ⟨j + 1, b', by omega, rfl, e2, e6, rfl, rfl, x28.trans x37, ?_⟩
            rw [hb', en]
            constructor
            · intro hh
              have := hb.1 rfl
              exact ⟨this.1, fun w hw => (List.mem_append.1 hw).elim (this.2 w) (hh w)⟩
            · intro hh w hw
              exact hh.2 w (List.mem_append.2 (.inr hw))
          · refine vw_eq (x37.get y.id ?_).symm
            simp only [List.mem_cons, List.not_mem_nil, or_false] at ht
            rcases ht with rfl | rfl | rfl
            · exact PtrTo.idlt hp' y hy
            · rw [ce_id hy]; exact lO
            · rw [ce_id hy]; exact lO
        | false =>
          refine gdc_tf (gdc_tf (gdc_tf (gdc_tf (gdc_tf (gdc_tf (gdc_tf (gdc_tf (pk_f ?_))))))))
          refine w_add (by omega) (by omega) ?_
          refine ih (l.length - (j + 1)) _ _ (by omega) ⟨j + 1, false, by omega, rfl, e2, e6, rfl, rfl, x28, ⟨fun h => (by cases h), fun hh => ?_⟩⟩
          exact hb.2 ⟨hh.1, fun w hw => hh.2 w (by rw [en]; exact List.mem_append.2 (.inl hw))⟩
      · have hja : l.take j = l := List.take_of_length_le (by omega)
        rw [hja] at hb
        have gT := s28.t b4
        refine w_notb ?_
        cases b with
        | true =>
          have hk : known (sgn s (adv s p0)).1 l = true := by
            unfold known
            rw [List.all_eq_true]
            intro w hw
            rcases List.mem_cons.1 hw with rfl | hw
            · exact decide_eq_true (hb.1 rfl).1
            · exact decide_eq_true ((hb.1 rfl).2 w hw)
          have hp : parse s = .ok ((sgn s (adv s p0)).1, l) 0 := by
            rw [hparse]
            unfold finish
            dsimp only
            rw [if_pos hk]
          refine c_f ?_
          refine w_rdPA so (Nat.le_refl 2) ?_
          refine w_stPA gT rfl (Nat.le_refl 2) rfl ?_
          refine endR (r := T) (h0 := h28) (w := (sgn s (adv s p0)).1) (a := va) (l := l.length) (c := vc) e2 rfl rfl rfl (lt_of_get gT) ?_
          refine k _ _ ((s28.toEx b4).set b4.bT _) ?_
          rw [hp]
          have lT := lt_of_get b4.t
          have l4 := b4.x.len
          rw [ev] at on
          refine ⟨va, vc, cs, rfl, Sl.keepOn sl fun j hj => get_ne (by have := (on j hj).1; omega) _, EL.mono (fun j hj => ⟨get_ne (by have := hj.1; omega) _, by omega, by rw [List.length_set]; exact hj.2⟩) l cs el⟩
        | false =>
          have hk : known (sgn s (adv s p0)).1 l = false := by
            cases hkk : known (sgn s (adv s p0)).1 l with
            | false => rfl
            | true =>
              unfold known at hkk
              rw [List.all_eq_true] at hkk
              have := hb.2 ⟨of_decide_eq_true (hkk _ (List.mem_cons_self ..)), fun w hw => of_decide_eq_true (hkk w (List.mem_cons_of_mem _ hw))⟩
              cases this
          have hp : parse s = .bad 6 0 := by
            rw [hparse]
            unfold finish
            dsimp only
            rw [if_neg (by rw [hk]; decide)]
          refine c_t ?_
          refine w_some (v := .agg #[.string (bs []), .slice none 0 0]) rfl ?_
          refine w_stPA gT rfl (Nat.le_refl 2) rfl ?_
          refine endR (r := T) (h0 := h28) (w := []) (a := none) (l := 0) (c := 0) e2 rfl rfl rfl (lt_of_get gT) ?_
          refine k _ _ ((s28.toEx b4).set b4.bT _) ?_
          rw [hp]
          rfl
  · -- an error
    have er' := er
    obtain ⟨er, a, w, vl, r, b, hp⟩ := er
    obtain ⟨P, gE, _⟩ := r.g
    refine w_nilc (w_offP (w_rdP gE (v := .int .i64 er) rfl (w_eql ?_)))
    refine g_tf r.e (g_tf r.e (g_tf r.e (g_tf r.e (g_tf r.e (g_tf r.e (g_tf r.e (pk_ff r.e (c_f ?_))))))))
    refine w_nilc (w_offP (w_rdP gE (v := .int .i64 er) rfl (w_neq (c_tt r.e ?_))))
    exact errEndR b4 er' (fun _ _ _ _ _ _ _ => e2) (fun _ _ _ _ _ _ _ => rfl) (fun _ _ _ _ _ _ _ => rfl) k
end Go.Proofs.Ytlenlhlipmkeeaa.W
end

section
/- SchemaNames: the walk. Conditions: none. -/
namespace Go.Proofs.Ytlenlhlipmkeeaa.W
open Go Go.AM SchM
set_option linter.unusedVariables false
set_option maxRecDepth 100000
def erOf {α : Type} : R α → Int
  | .ok _ _ => 0
  | .bad e _ => e
def atOf {α : Type} : R α → Nat
  | .ok _ _ => 0
  | .bad _ a => a
theorem PR.shape {h0 h' : AH} {r : R (W × List (W × Mdl))} {v : Value} (p : PR h0 h' r v) : ∃ root a l c, v = .tuple #[.agg #[.string (bs root), .slice a l c], .int .i64 (atOf r : Nat), .int .i64 (erOf r)] ∧ ∀ x q, r = .ok x q → root = x.1 := by
  cases r with
  | bad e a => exact ⟨[], none, 0, 0, p, fun x q h => by cases h⟩
  | ok x q =>
    obtain ⟨a, c, cs, rfl, _⟩ := p
    exact ⟨x.1, a, x.2.length, c, rfl, fun y q h => by cases h; rfl⟩
end Go.Proofs.Ytlenlhlipmkeeaa.W
end

section
/- Schema's laws: models made of numbers. Conditions: none. -/
namespace Go.Proofs.Ytlenlhlipmkeeaa.W
open Go Go.AM SchM
set_option linter.unusedVariables false
set_option maxRecDepth 100000
abbrev ptr (X : Nat) : Value := .pointer (some ⟨X, 0, none⟩)
structure MkH (hb h : AH) (X : Nat) (nm : List W) (ns : List Int) (v0 v1 : Value) (a : Nat) : Prop where
  row : h[X]? = some (.row [v0, v1, .int .i64 a] true)
  n0 : SlT 1 eS hb v0 nm
  n1 : Ints hb v1 ns
  x : Ex hb h
  X : hb.length ≤ X
theorem MkH.ex {hb h h' : AH} {X : Nat} {nm : List W} {ns : List Int} {v0 v1 : Value} {a : Nat} (m : MkH hb h X nm ns v0 v1 a) (x : Ex h h') : MkH hb h' X nm ns v0 v1 a := ⟨x.some m.row, m.n0, m.n1, m.x.trans x, m.X⟩
theorem MkH.lt {hb h : AH} {X : Nat} {nm : List W} {ns : List Int} {v0 v1 : Value} {a : Nat} (m : MkH hb h X nm ns v0 v1 a) : X < h.length := lt_of_get m.row
theorem MkH.setNew {hb h : AH} {X i : Nat} {nm : List W} {ns : List Int} {v0 v1 : Value} {a : Nat} (m : MkH hb h X nm ns v0 v1 a) (hi : X < i) (o : AObj) : MkH hb (h.set i o) X nm ns v0 v1 a :=
  ⟨(get_ne (by omega) _).trans m.row, m.n0, m.n1, m.x.set (by have := m.X; omega) _, m.X⟩
theorem nx30 {hb h : AH} {X : Nat} {nm : List W} {ns : List Int} {v0 v1 : Value} {a : Nat} {n : Int} {K : Value → AH → Prop} (m : MkH hb h X nm ns v0 v1 a) (ha : a ≤ 10000000) (hn : 0 < n ∧ n ≤ 1000000)
    (k : ∀ h', Chg (At X) h (At X) h' → h'.length = h.length → MkH hb h' X nm ns v0 v1 (nxA ns a) → K (.int .i64 (nx ns a n)) h') : callW Try.prog 30 [.pointer (some ⟨X, 0, none⟩), .int .i64 n] h K := by
  refine c30 ?_
  unfold s30
  have g := m.row
  have lt := m.lt
  refine w_nilc (w_offP (w_rdP g (v := .int .i64 a) rfl (w_nilc (w_offP (w_rdP g (v := v1) rfl (w_len (m.n1.ex m.x) (w_geq ?_)))))))
  refine c_dec (fun q => ?_) (fun q => ?_)
  · have e1 : nx ns a n = 0 := by unfold nx; rw [List.getElem?_eq_none (by omega)]
    have e2 : nxA ns a = a := by unfold nxA; rw [if_neg (by omega)]
    have := k h (Chg.refl _ _) rfl (by rw [e2]; exact m)
    rw [e1] at this
    exact this
  · refine w_nilc (w_offP (w_rdP g (v := .int .i64 a) rfl (w_add (by omega) (by omega) (w_nilc (w_offP (w_stP g (by show 0 + 2 < 3; decide) rfl rfl ?_))))))
    have g1 : (h.set X (.row ([v0, v1, .int .i64 a].set (0 + 2) (.int .i64 ((a : Int) + 1))) true))[X]? = some (.row [v0, v1, .int .i64 ((a : Int) + 1)] true) := get_set _ lt _
    have c1 : Chg (At X) h (At X) (h.set X (.row ([v0, v1, .int .i64 a].set (0 + 2) (.int .i64 ((a : Int) + 1))) true)) := ⟨by rw [List.length_set]; exact Nat.le_refl _, fun j _ hj => get_ne (fun e => hj e.symm) _, fun j hj => .inl hj⟩
    have l1 : (h.set X (.row ([v0, v1, .int .i64 a].set (0 + 2) (.int .i64 ((a : Int) + 1))) true)).length = h.length := List.length_set ..
    have x1 : Ex hb (h.set X (.row ([v0, v1, .int .i64 a].set (0 + 2) (.int .i64 ((a : Int) + 1))) true)) := m.x.set m.X _
    generalize h.set X _ = h1 at *
    refine w_nilc (w_offP (w_rdP g1 (v := v1) rfl (w_nilc (w_offP (w_rdP g1 (v := .int .i64 ((a : Int) + 1)) rfl (w_sub (by omega) (by omega) ?_))))))
    have ea : ((a : Int) + 1 - 1) = (a : Nat) := by omega
    rw [ea]
    obtain ⟨z, hz⟩ := getElem?_of_lt (l := ns) (i := a) (by omega)
    refine w_idxN (enc := eI) eI_len (m.n1.ex x1) hz fun pp hpp => w_rd1 hpp rfl ?_
    refine within15 _ _ _ _ hn.1 (by omega) ?_
    have e1 : nx ns a n = z % n := by unfold nx; rw [hz]
    have e2 : nxA ns a = a + 1 := by unfold nxA; rw [if_pos (by omega)]
    have := k h1 c1 l1 (by rw [e2]; exact ⟨g1, m.n0, m.n1, x1, m.X⟩)
    rw [e1] at this
    exact this
theorem MH.rowN {h : AH} {G : Nat → Prop} {k : Int} {l : List Mdl} {cs : List Value} {i cap : Nat} (hml : ML h G l cs) (gi : h[i]? = some (.row cs true)) (Gi : G i) (hc : cap < openCap ∧ l.length ≤ cap ∨ cap = openCap + 3) : MH h G (.mk k [] l) (.agg #[.int .i64 k, .string (bs []), .slice (some ⟨i, 0, none⟩) l.length cap]) := by
  have hl := ML.len l cs hml
  unfold MH
  refine ⟨some ⟨i, 0, none⟩, cap, cs, rfl, ⟨hl, .inr ⟨i, 0, cap, rfl, hc, .inr ⟨cs, true, gi, by omega, by rw [List.drop_zero, ← hl, List.take_length]⟩⟩⟩, fun j hj => by have : i = j := hj; rw [← this]; exact Gi, hml⟩
theorem bld32 (k1 k2 : Int) (n1 n2 : W) (a1 a2 : Option Addr) (l1 l2 c1 c2 : Nat) : bldSl 3 [(.int .i64 0), (.string (bs [])), (.slice none 0 0)] 2 [(0, .agg #[.int .i64 k1, .string (bs n1), .slice a1 l1 c1]), (1, .agg #[.int .i64 k2, .string (bs n2), .slice a2 l2 c2])] = some [.int .i64 k1, .string (bs n1), .slice a1 l1 c1, .int .i64 k2, .string (bs n2), .slice a2 l2 c2] := by kernel_rfl
set_option maxHeartbeats 1000000 in
theorem mk31 {hb : AH} {X : Nat} {nm : List W} {ns : List Int} {v0 v1 : Value} (hnm : 0 < nm.length ∧ nm.length ≤ 100) : ∀ (d : Nat) (h : AH) (a : Nat) (K : Value → AH → Prop), MkH hb h X nm ns v0 v1 a → a + 4 ^ (d + 1) ≤ 1000000 → d ≤ 100 →
    (∀ v h', Chg (At X) h (At X) h' → MkH hb h' X nm ns v0 v1 (gen nm ns d a).2 → MG h.length h' (At X) (gen nm ns d a).1 v → K v h') → callW Try.prog 31 [.pointer (some ⟨X, 0, none⟩), .int .i64 (d : Nat)] h K := by
  intro d
  induction d using Nat.strongRecOn with
  | ind d ih =>
  intro h a K m ha hd k
  refine c31 ?_
  unfold s31
  have p4 : 4 ≤ 4 ^ (d + 1) := by
    have := Nat.pow_le_pow_right (n := 4) (by decide) (show 1 ≤ d + 1 by omega)
    simpa using this
  refine n_rowv fun h1 x1 l1 g1 => ?_
  have ltX := m.lt
  have a0 := nxA_le ns a
  have k14 := nx_in ns a (show (0 : Int) < 14 by decide)
  refine nx30 (m.ex x1) (by omega) (by decide) fun h2 c2 l2 m2 => ?_
  obtain ⟨kk, hkk⟩ : ∃ kk : Int, kk = if d = 0 then nx ns a 14 % 6 else nx ns a 14 := ⟨_, rfl⟩
  have kk0 : 0 ≤ kk ∧ kk < 14 := by
    rw [hkk]
    split <;> omega
  have glow : kk < 6 → gen nm ns d a = leaf nm ns kk (nxA ns a) := by
    intro q
    cases d with
    | zero => rw [hkk, if_pos rfl]; rfl
    | succ d =>
      rw [if_neg (by omega)] at hkk
      rw [hkk] at q ⊢
      rw [gen, if_neg (by omega), if_neg (by omega)]
  have fin : ∀ (E : Env) (h' : AH) (v : Value) (m' : Mdl) (a' : Nat), E 4 = .pointer (some ⟨h.length, 0, none⟩) → Chg (At X) h1 (At X) h' → MkH hb h' X nm ns v0 v1 a' → MG h1.length h' (At X) m' v → gen nm ns d a = (m', a') →
      optW (pStore 3 (.pointer (some ⟨h.length, 0, none⟩)) v h') fun h'' => optW (resList Try.prog E h'' Try.f31.results.toList) fun vs => K (resOf vs) h'' := fun E h' v m' a' hE c mk mv hg => by
    have g' : h'[h.length]? = some (.row [(.int .i64 0), (.string (bs [])), (.slice none 0 0)] true) := (c.get _ (by omega) (fun e => by have : h.length = X := e; omega)).trans g1
    refine endM (n := 4) (by kernel_rfl) hE g' rfl mv.shape fun o => ?_
    refine k v _ (((Chg.ex x1).trans c).setNew (Nat.le_refl _) o) ?_ ?_
    · rw [hg]; exact mk.setNew ltX o
    · rw [hg]; exact (mv.setNew (fun hg => by have := hg.1; omega) o).low (by omega)
  have fin2 : ∀ (E : Env) (kd : Int) (w : W) (a' : Nat) (h' : AH), E 4 = .pointer (some ⟨h.length, 0, none⟩) → Chg (At X) h1 (At X) h' → MkH hb h' X nm ns v0 v1 a' → gen nm ns d a = (.mk kd w [], a') →
      optW (pStore 3 (.pointer (some ⟨h.length, 0, none⟩)) (.agg #[.int .i64 kd, .string (bs w), .slice none 0 0]) h') fun h'' => optW (resList Try.prog E h'' Try.f31.results.toList) fun vs => K (resOf vs) h'' := fun E kd w a' h' hE c mk hg => fin E h' _ _ a' hE c mk (MH.leaf _ _ kd w) hg
  refine joinE_intro (fun e h' => e 0 = .pointer (some ⟨X, 0, none⟩) ∧ e 1 = .int .i64 (d : Nat) ∧ e 4 = .pointer (some ⟨h.length, 0, none⟩) ∧ e 5 = .int .i64 kk ∧ h2 = h') ?_ ?_
  case refine_2 =>
    intro J hJ
    refine w_leq (c_dec (fun q => ?_) (fun q => ?_))
    · refine w_rem (by decide) k14.1 (hJ _ _ ⟨rfl, rfl, rfl, ?_, rfl⟩)
      rw [hkk, if_pos (by omega)]
      rfl
    · refine hJ _ _ ⟨rfl, rfl, rfl, ?_, rfl⟩
      rw [hkk, if_neg (by omega)]
      rfl
  rintro e h' ⟨e0, e1, e4, e5, rfl⟩
  refine joinE_intro (fun e h' => e 0 = .pointer (some ⟨X, 0, none⟩) ∧ e 4 = .pointer (some ⟨h.length, 0, none⟩) ∧ h2 = h' ∧ gen nm ns d a = (.mk 4 (nm.getD (nx ns (nxA ns a) nm.length).toNat []) [], nxA ns (nxA ns a))) ?_ ?_
  case refine_1 =>
    rintro e h' ⟨e0, e4, rfl, hg⟩
    rw [e0, e4]
    have n0 := m2.n0.ex m2.x
    refine w_nilc (w_offP (w_rdP m2.row (v := v0) rfl (w_nilc (w_offP (w_rdP m2.row (v := v0) rfl (w_len n0 ?_))))))
    refine nx30 m2 (by omega) (by omega) fun h5 c5 l5 m5 => ?_
    refine ⟨idcell m2.row m5.row rfl rfl, ?_⟩
    have ni := nx_in ns (nxA ns a) (show (0 : Int) < (nm.length : Nat) by omega)
    obtain ⟨w, hw⟩ := getElem?_of_lt (l := nm) (i := (nx ns (nxA ns a) nm.length).toNat) (by omega)
    have hwd : nm.getD (nx ns (nxA ns a) nm.length).toNat [] = w := by rw [List.getD_eq_getElem?_getD, hw]; rfl
    rw [hwd] at hg
    refine w_idxT (enc := eS) eS_len (m2.n0.ex m5.x) ni.1 hw fun pp hpp => w_rd1 hpp rfl ?_
    refine w_some (v := .agg #[.int .i64 4, .string (bs w), .slice none 0 0]) rfl ?_
    exact fin2 _ 4 w _ h5 e4 (c2.trans c5) m5 hg
  intro J1 hJ1
  rw [e5]
  refine w_eql (c_dec (fun q0 => ?_) (fun q0 => ?_))
  · refine w_some (v := .agg #[.int .i64 1, .string (bs []), .slice none 0 0]) rfl ?_
    rw [e4]
    refine fin2 _ 1 [] _ h2 e4 c2 m2 ?_
    rw [glow (by omega), q0]
    rfl
  refine w_eql (c_dec (fun q1 => ?_) (fun q1 => ?_))
  · refine w_some (v := .agg #[.int .i64 2, .string (bs []), .slice none 0 0]) rfl ?_
    rw [e4]
    refine fin2 _ 2 [] _ h2 e4 c2 m2 ?_
    rw [glow (by omega), q1]
    rfl
  refine w_eql (c_dec (fun q2 => ?_) (fun q2 => ?_))
  · refine w_some (v := .agg #[.int .i64 3, .string (bs []), .slice none 0 0]) rfl ?_
    rw [e4]
    refine fin2 _ 3 [] _ h2 e4 c2 m2 ?_
    rw [glow (by omega), q2]
    rfl
  refine joinE_intro (fun e h' => e 0 = .pointer (some ⟨X, 0, none⟩) ∧ e 1 = .int .i64 (d : Nat) ∧ e 4 = .pointer (some ⟨h.length, 0, none⟩) ∧ e 5 = .int .i64 kk ∧ e 13 = .int .i64 kk ∧ e 23 = .bool (decide (6 ≤ kk ∧ kk ≤ 10)) ∧ h2 = h') ?_ ?_
  case refine_2 =>
    intro J hJ
    refine w_eql (c_dec (fun q6 => hJ _ _ ⟨e0, e1, e4, e5, rfl, congrArg Value.bool (decide_eq_decide.2 ⟨fun _ => by omega, fun _ => by omega⟩), rfl⟩) (fun q6 => ?_))
    refine w_eql (c_dec (fun q7 => hJ _ _ ⟨e0, e1, e4, e5, rfl, congrArg Value.bool (decide_eq_decide.2 ⟨fun _ => by omega, fun _ => by omega⟩), rfl⟩) (fun q7 => ?_))
    refine w_eql (c_dec (fun q8 => hJ _ _ ⟨e0, e1, e4, e5, rfl, congrArg Value.bool (decide_eq_decide.2 ⟨fun _ => by omega, fun _ => by omega⟩), rfl⟩) (fun q8 => ?_))
    refine w_eql (c_dec (fun q9 => hJ _ _ ⟨e0, e1, e4, e5, rfl, congrArg Value.bool (decide_eq_decide.2 ⟨fun _ => by omega, fun _ => by omega⟩), rfl⟩) (fun q9 => ?_))
    exact w_eql (hJ _ _ ⟨e0, e1, e4, e5, rfl, congrArg Value.bool (decide_eq_decide.2 ⟨fun _ => by omega, fun _ => by omega⟩), rfl⟩)
  clear e0 e1 e4 e5 e
  rintro e h' ⟨e0, e1, e4, e5, e13, e23, rfl⟩
  rw [e23]
  have dd : 6 ≤ kk → ∃ d', d = d' + 1 := by
    intro q
    cases d with
    | zero => rw [hkk, if_pos rfl] at q; omega
    | succ d => exact ⟨d, rfl⟩
  refine c_dec (fun q => ?_) (fun q => ?_)
  · obtain ⟨d, rfl⟩ := dd q.1
    rw [if_neg (by omega)] at hkk
    have pw : 4 ^ (d + 1 + 1) = 4 * 4 ^ (d + 1) := by rw [Nat.pow_succ]; omega
    have p5 : 4 ≤ 4 ^ (d + 1) := by
      have := Nat.pow_le_pow_right (n := 4) (by decide) (show 1 ≤ d + 1 by omega)
      simpa using this
    have ed : ((d + 1 : Nat) : Int) - 1 = (d : Nat) := by omega
    have s1 := gen_le nm ns d (nxA ns a)
    have s2 := gen_le nm ns d (gen nm ns d (nxA ns a)).2
    have s3 := nxA_le ns (gen nm ns d (gen nm ns d (nxA ns a)).2).2
    rw [e0, e1, e4, e5]
    refine w_sub (by omega) (by omega) ?_
    rw [ed]
    refine ih d (by omega) _ _ _ m2 (by omega) (by omega) fun v32 h11 c11 m11 g11 => ?_
    refine w_sub (by omega) (by omega) ?_
    rw [ed]
    refine ih d (by omega) _ _ _ m11 (by omega) (by omega) fun v36 h12 c12 m12 g12 => ?_
    have hgen : gen nm ns (d + 1) a = if nx ns (gen nm ns d (gen nm ns d (nxA ns a)).2).2 3 = 0 then
        (.mk (5 + kk % 2) [] [(gen nm ns d (nxA ns a)).1, (gen nm ns d (gen nm ns d (nxA ns a)).2).1, (gen nm ns d (nxA ns (gen nm ns d (gen nm ns d (nxA ns a)).2).2)).1],
          (gen nm ns d (nxA ns (gen nm ns d (gen nm ns d (nxA ns a)).2).2)).2)
      else (.mk (5 + kk % 2) [] [(gen nm ns d (nxA ns a)).1, (gen nm ns d (gen nm ns d (nxA ns a)).2).1], nxA ns (gen nm ns d (gen nm ns d (nxA ns a)).2).2) := by
      rw [hkk] at q ⊢
      rw [gen, if_pos q]
    generalize gen nm ns d (nxA ns a) = A1 at *
    generalize gen nm ns d A1.2 = A2 at *
    obtain ⟨k1, n1, a1, l1', c1, rfl⟩ := g11.shape
    obtain ⟨k2, n2, a2, l2', c2', rfl⟩ := g12.shape
    refine w_some (bld32 k1 k2 n1 n2 a1 a2 l1' l2' c1 c2') ?_
    refine n_newv fun h13 x13 l13 g13 => ?_
    refine nx30 (m12.ex x13) (by omega) (by decide) fun h14 c14 l14 m14 => ?_
    have cA := ((c2.trans c11).trans c12).trans ((Chg.ex x13).trans c14)
    have lA := c2.len
    have lB := c11.len
    have lC := c12.len
    have G1 : MG h1.length h14 (At X) A1.1 _ := (((g11.chg c12).ex x13).chg c14).low (by omega)
    have G2 : MG h1.length h14 (At X) A2.1 _ := ((g12.ex x13).chg c14).low (by omega)
    have g14 := (c14.get h12.length (by omega) (fun e => by have : h12.length = X := e; omega)).trans g13
    refine w_eql (c_dec (fun q3 => ?_) (fun q3 => ?_))
    · rw [if_pos q3] at hgen
      have s4 := gen_le nm ns d (nxA ns A2.2)
      refine w_sub (by omega) (by omega) ?_
      rw [ed]
      refine ih d (by omega) _ _ _ m14 (by omega) (by omega) fun v45 h15 c15 m15 g15 => ?_
      generalize gen nm ns d (nxA ns A2.2) = A3 at *
      obtain ⟨k3, n3, a3, l3', c3', rfl⟩ := g15.shape
      refine w_some (bldSl_one (v := .agg #[.int .i64 k3, .string (bs n3), .slice a3 l3' c3']) rfl (by decide) rfl rfl) ?_
      refine n_newv fun h16 x16 l16 g16 => ?_
      have lD := c15.len
      have g15' := x16.some ((c15.get h12.length (by omega) (fun e => by have : h12.length = X := e; omega)).trans g14)
      refine app_lit (n := 2) g15' rfl (by decide) (by decide) g16 rfl ?_
      refine w_rem (by decide) kk0.1 (w_add (by omega) (by omega) ?_)
      refine w_some (v := .agg #[.int .i64 (5 + kk % 2), .string (bs []), .slice (some ⟨h16.length, 0, none⟩) (2 + 1) (openCap + 3)]) rfl ?_
      refine fin _ _ _ _ _ e4 (cA.trans (c15.trans ((Chg.ex x16).trans (Chg.ex (.app _ _))))) ((m15.ex x16).ex (.app _ _)) ?_ hgen
      refine MH.rowN (l := [A1.1, A2.1, A3.1]) ?_ (get_new _ _) ⟨by omega, by simp, fun e => by have : h16.length = X := e; omega⟩ (.inr rfl)
      have G1' := ((G1.chg c15).ex x16).ex (.app _ [AObj.row ([.int .i64 k1, .string (bs n1), .slice a1 l1' c1, .int .i64 k2, .string (bs n2), .slice a2 l2' c2'] ++ [.int .i64 k3, .string (bs n3), .slice a3 l3' c3']) true])
      have G2' := ((G2.chg c15).ex x16).ex (.app _ [AObj.row ([.int .i64 k1, .string (bs n1), .slice a1 l1' c1, .int .i64 k2, .string (bs n2), .slice a2 l2' c2'] ++ [.int .i64 k3, .string (bs n3), .slice a3 l3' c3']) true])
      have G3' := ((g15.low (b := h1.length) (by omega)).ex x16).ex (.app _ [AObj.row ([.int .i64 k1, .string (bs n1), .slice a1 l1' c1, .int .i64 k2, .string (bs n2), .slice a2 l2' c2'] ++ [.int .i64 k3, .string (bs n3), .slice a3 l3' c3']) true])
      unfold ML
      refine ⟨_, _, _, _, rfl, G1', ?_⟩
      unfold ML
      refine ⟨_, _, _, _, rfl, G2', ?_⟩
      unfold ML
      refine ⟨_, _, _, _, rfl, G3', ?_⟩
      unfold ML
      rfl
    · rw [if_neg q3] at hgen
      refine w_rem (by decide) kk0.1 (w_add (by omega) (by omega) ?_)
      refine w_some (v := .agg #[.int .i64 (5 + kk % 2), .string (bs []), .slice (some ⟨h12.length, 0, none⟩) 2 2]) rfl ?_
      refine fin _ _ _ _ _ e4 cA m14 ?_ hgen
      refine MH.rowN (l := [A1.1, A2.1]) ?_ g14 ⟨by omega, by omega, fun e => by have : h12.length = X := e; omega⟩ (.inl ⟨by decide, Nat.le_refl _⟩)
      unfold ML
      refine ⟨_, _, _, _, rfl, G1, ?_⟩
      unfold ML
      refine ⟨_, _, _, _, rfl, G2, ?_⟩
      unfold ML
      rfl
  · have rp : ∀ (E : Value → Value → Value → Value → Nat → Value → Env), (∀ a b c d e f, E a b c d e f 4 = .pointer (some ⟨h.length, 0, none⟩)) → 11 ≤ kk →
        callW Try.prog 30 [.pointer (some ⟨X, 0, none⟩), (.int .i64 3)] h2 fun v58 h_20 =>
        optW (pBin Try.prog .add 3 (.int .i64 7) v58) fun v59 =>
        optW (pBin Try.prog .sub 3 (.int .i64 (d : Nat)) (.int .i64 1)) fun v62 =>
        callW Try.prog 31 [.pointer (some ⟨X, 0, none⟩), v62] h_20 fun v63 h_21 =>
        optW (bldSl 3 [(.int .i64 0), (.string (bs [])), (.slice none 0 0)] 1 [(0, v63)]) fun c_2 =>
        newW none (.row c_2 true) h_21 fun i_2 h_22 =>
        optW (bld [(.int .i64 0), (.string (bs [])), (.slice none 0 0)] [(0, 1), (1, 1), (2, 1)] [(0, v59), (2, (.slice (some ⟨i_2, 0, none⟩) 1 1))]) fun v65 =>
        optW (pStore 3 (.pointer (some ⟨h.length, 0, none⟩)) v65 h_22) fun h_23 =>
        optW (resList Try.prog (E v58 v59 v62 v63 i_2 v65) h_23 Try.f31.results.toList) fun vs => K (resOf vs) h_23 := by
      intro E hE q
      obtain ⟨d, rfl⟩ := dd (by omega)
      rw [if_neg (by omega)] at hkk
      have pw : 4 ^ (d + 1 + 1) = 4 * 4 ^ (d + 1) := by rw [Nat.pow_succ]; omega
      have p5 : 4 ≤ 4 ^ (d + 1) := by
        have := Nat.pow_le_pow_right (n := 4) (by decide) (show 1 ≤ d + 1 by omega)
        simpa using this
      have ed : ((d + 1 : Nat) : Int) - 1 = (d : Nat) := by omega
      have n3 := nx_in ns (nxA ns a) (show (0 : Int) < 3 by decide)
      have a1 := nxA_le ns (nxA ns a)
      refine nx30 m2 (by omega) (by decide) fun h20 c20 l20 m20 => ?_
      refine w_add (by omega) (by omega) (w_sub (by omega) (by omega) ?_)
      rw [ed]
      refine ih d (by omega) _ _ _ m20 (by omega) (by omega) fun v63 h21 c21 m21 g21 => ?_
      have hgen : gen nm ns (d + 1) a = (.mk (7 + nx ns (nxA ns a) 3) [] [(gen nm ns d (nxA ns (nxA ns a))).1], (gen nm ns d (nxA ns (nxA ns a))).2) := by
        rw [hkk] at q
        rw [gen, if_neg (by omega), if_pos q]
      generalize gen nm ns d (nxA ns (nxA ns a)) = A1 at *
      obtain ⟨k1, n1, a1', l1', c1, rfl⟩ := g21.shape
      refine w_some (bldSl_one (v := .agg #[.int .i64 k1, .string (bs n1), .slice a1' l1' c1]) rfl (by decide) rfl rfl) ?_
      refine n_newv fun h22 x22 l22 g22 => ?_
      refine w_some (v := .agg #[.int .i64 (7 + nx ns (nxA ns a) 3), .string (bs []), .slice (some ⟨h21.length, 0, none⟩) 1 1]) rfl ?_
      have lA := c2.len
      have lB := c20.len
      have lC := c21.len
      refine fin _ _ _ _ _ (hE _ _ _ _ _ _) (c2.trans (c20.trans (c21.trans (Chg.ex x22)))) (m21.ex x22) ?_ hgen
      exact MH.one ((g21.ex x22).low (by omega)) g22 ⟨by omega, by omega, fun e => by have : h21.length = X := e; omega⟩
    rw [e0, e1, e4, e13]
    refine w_eql (c_dec (fun r1 => c_tt r1 (rp _ (fun _ _ _ _ _ _ => e4) (by omega))) (fun r1 => ?_))
    refine w_eql (c_dec (fun r2 => c_tt r2 (rp _ (fun _ _ _ _ _ _ => e4) (by omega))) (fun r2 => ?_))
    refine w_eql (c_dec (fun r3 => rp _ (fun _ _ _ _ _ _ => e4) (by omega)) (fun r3 => ?_))
    refine hJ1 _ _ ⟨e0, e4, rfl, ?_⟩
    rw [glow (by omega)]
    unfold leaf
    rw [if_neg q0, if_neg q1, if_neg q2]
end Go.Proofs.Ytlenlhlipmkeeaa.W
end

section
/- Schema's laws: Make: a schema of numbers. Conditions: none. -/
namespace Go.Proofs.Ytlenlhlipmkeeaa.W
open Go Go.AM SchM
set_option linter.unusedVariables false
set_option maxRecDepth 100000
def SH (h : AH) (b : Nat) (x : W × List (W × Mdl)) (v : Value) : Prop :=
  ∃ a c cs, v = .agg #[.string (bs x.1), .slice a x.2.length c] ∧ Sl 4 h (.slice a x.2.length c) x.2.length cs ∧ (∀ j, onId (.slice a x.2.length c) j → b ≤ j ∧ j < h.length) ∧ EL h (fun j => b ≤ j ∧ j < h.length) x.2 cs
theorem SH.ex {h h' : AH} {b : Nat} {x : W × List (W × Mdl)} {v : Value} (s : SH h b x v) (e : Ex h h') : SH h' b x v := by
  obtain ⟨a, c, cs, ev, sl, on, el⟩ := s
  exact ⟨a, c, cs, ev, sl.ex e, fun j hj => ⟨(on j hj).1, e.lt (on j hj).2⟩, EL.mono (fun j hj => ⟨e.get j hj.2, hj.1, e.lt hj.2⟩) _ _ el⟩
theorem bld5 : bldSl 1 [(.string (bs []))] 5 [(0, (.string (bs [97]))), (1, (.string (bs [98, 98]))), (2, (.string (bs [99]))), (3, (.string (bs [122, 122, 122, 122, 122, 122, 122, 122]))), (4, (.string (bs [116, 101, 120, 116, 115])))] = some (flat eS five) := by kernel_rfl
theorem optW_so {α : Type} {v : α} {K : α → Prop} : optW (some v) K = K v := rfl
theorem strsAt {h : AH} {l : List W} {n i : Nat} (hg : h[i]? = some (.row (flat eS l) true)) (hn : n = l.length) (hl : l.length < 100) : SlT 1 eS h (.slice (some ⟨i, 0, none⟩) n n) l := by
  subst hn
  refine ⟨flat_length eS_len l, .inr ⟨i, 0, _, rfl, .inl ⟨?_, Nat.le_refl _⟩, .inr ⟨_, true, hg, ?_, ?_⟩⟩⟩
  · have : (100 : Nat) < openCap := by decide
    omega
  · rw [flat_length eS_len]; omega
  · rw [List.drop_zero, ← flat_length eS_len l, List.take_length]
theorem res14 (e : Env) (h : AH) : resList Try.prog e h Try.f14.results.toList = (rdRow true 2 (e 6) h).map fun v => [v] := by
  have h1 : Try.f14.results.toList = [.cell 6 27] := by kernel_rfl
  have h2 : ∀ x, pLoad Try.prog 27 x h = rdRow true 2 x h := fun x => by kernel_rfl
  rw [h1]
  show (match pLoad Try.prog 27 (e 6) h with
    | some v => match resList Try.prog e h [] with
      | some vs => some (v :: vs)
      | none => none
    | none => none) = _
  rw [h2]
  cases rdRow true 2 (e 6) h <;> rfl
set_option maxHeartbeats 1000000 in
theorem make14 {h : AH} {v1 : Value} {ns : List Int} {size : Int} {d : Nat} {K : Value → AH → Prop} (hns : Ints h v1 ns) (hd : d ≤ 6) (k : ∀ v h', Ex h h' → SH h' h.length (make size ns d) v → K v h') : callW Try.prog 14 [.int .i64 size, v1, .int .i64 (d : Nat)] h K := by
  refine c14 ?_
  unfold s14
  have z0 := Int.emod_nonneg size (show (5 : Int) ≠ 0 by decide)
  have z1 := Int.emod_lt_of_pos size (show (0 : Int) < 5 by decide)
  have nl := namesOf_len size
  refine n_rowv fun h1 x1 l1 g1 => ?_
  rw [bld5, optW_so]
  refine n_newv fun h2 x2 l2 g2 => ?_
  refine within15 _ _ _ _ (by decide) (by decide) ?_
  refine w_add (by omega) (by omega) ?_
  have ej : (1 : Int) + size % 5 = ((1 + (size % 5).toNat : Nat) : Int) := by omega
  rw [ej]
  refine w_sliceT (enc := eS) eS_len (i := 0) (j := 1 + (size % 5).toNat) (strsAt g2 rfl (by decide)) (by omega) (by show _ ≤ 5; omega) (.inl ⟨rfl, rfl⟩) (.inr ⟨_, rfl⟩) fun v14 s14 on14 => ?_
  have enm : (five.drop 0).take (1 + (size % 5).toNat - 0) = namesOf size := by rw [List.drop_zero, Nat.sub_zero]; rfl
  rw [enm] at s14
  have hns2 := hns.ex (x1.trans x2)
  obtain ⟨a14, n14, c14, rfl⟩ := s14.isSl
  obtain ⟨a1, n1, c1, rfl⟩ := hns2.isSl
  refine w_some (v := .agg #[.slice a14 n14 c14, .slice a1 n1 c1, .int .i64 0]) rfl ?_
  refine n_boxv rfl fun h4 x4 l4 g4 => ?_
  have g4' : h4[h2.length]? = some (.row [.slice a14 n14 c14, .slice a1 n1 c1, .int .i64 ((0 : Nat) : Int)] true) := g4
  obtain ⟨nm, hnm⟩ : ∃ nm, nm = namesOf size := ⟨_, rfl⟩
  rw [← hnm] at s14 nl
  have hnl : 0 < nm.length ∧ nm.length ≤ 100 := by omega
  have m4 : MkH h2 h4 h2.length nm ns (.slice a14 n14 c14) (.slice a1 n1 c1) 0 := ⟨g4', s14, hns2, x4, Nat.le_refl _⟩
  have xr := Ex.res h4
  have mr := m4.ex xr
  have ni := nx_in ns 0 (show (0 : Int) < (nm.length : Nat) by omega)
  refine w_nilc (w_offP (w_rdP mr.row (v := .slice a14 n14 c14) rfl (w_nilc (w_offP (w_rdP mr.row (v := .slice a14 n14 c14) rfl (w_len (s14.ex mr.x) ?_))))))
  refine nx30 mr (by omega) (by omega) fun h5 c5 l5 m5 => ?_
  refine ⟨idcell mr.row m5.row rfl rfl, ?_⟩
  obtain ⟨root, hro⟩ := getElem?_of_lt (l := nm) (i := (nx ns 0 nm.length).toNat) (by omega)
  refine w_idxT (enc := eS) eS_len (s14.ex m5.x) ni.1 hro fun pp hpp => w_rd1 hpp rfl ?_
  refine w_some (v := .agg #[.string (bs root), .slice none 0 0]) rfl ?_
  refine n_slot ?_
  have lr : (reserve 1 h4).length = h4.length + 1 := by rw [reserve_one]; simp
  have l5' : h5.length = h4.length + 1 := by rw [l5, lr]
  have m6 := m5.setNew (i := h4.length) (by omega) (.row [(.string (bs [])), (.slice none 0 0)] true)
  have g6 : (h5.set h4.length (.row [(.string (bs [])), (.slice none 0 0)] true))[h4.length]? = some (.row [(.string (bs [])), (.slice none 0 0)] true) := get_set _ (by omega) _
  have T6 : (h5.set h4.length (.row [(.string (bs [])), (.slice none 0 0)] true))[h.length]? = some (.row zS true) := by
    rw [get_ne (by omega)]
    exact (c5.get _ (by omega) (fun e => by have : h.length = h2.length := e; omega)).trans ((x2.trans (x4.trans xr)).some g1)
  have x6 : Ex h (h5.set h4.length (.row [(.string (bs [])), (.slice none 0 0)] true)) := (c5.toEx (x1.trans (x2.trans (x4.trans xr))) fun j hj => by have : j = h2.length := hj; omega).set (by omega) _
  have l6 : (h5.set h4.length (.row [(.string (bs [])), (.slice none 0 0)] true)).length = h4.length + 1 := by rw [List.length_set, l5']
  generalize h5.set h4.length (.row [(.string (bs [])), (.slice none 0 0)] true) = h6 at *
  refine w_stPA g6 rfl (Nat.le_refl 2) rfl ?_
  have g7 : (h6.set h4.length (.row (spliceL [(.string (bs [])), (.slice none 0 0)] 0 (cellsL (.agg #[.string (bs root), .slice none 0 0]))) true))[h4.length]? = some (.row [.string (bs root), .slice none 0 0] true) := get_set _ (lt_of_get g6) _
  have m7 := m6.setNew (i := h4.length) (by omega) (.row (spliceL [(.string (bs [])), (.slice none 0 0)] 0 (cellsL (.agg #[.string (bs root), .slice none 0 0]))) true)
  have T7 := (get_ne (h := h6) (i := h4.length) (j := h.length) (by omega) (.row (spliceL [(.string (bs [])), (.slice none 0 0)] 0 (cellsL (.agg #[.string (bs root), .slice none 0 0]))) true)).trans T6
  have x7 := x6.set (i := h4.length) (by omega) (.row (spliceL [(.string (bs [])), (.slice none 0 0)] 0 (cellsL (.agg #[.string (bs root), .slice none 0 0]))) true)
  have l7 : (h6.set h4.length (.row (spliceL [(.string (bs [])), (.slice none 0 0)] 0 (cellsL (.agg #[.string (bs root), .slice none 0 0]))) true)).length = h4.length + 1 := by rw [List.length_set, l6]
  generalize h6.set h4.length (.row (spliceL [(.string (bs [])), (.slice none 0 0)] 0 (cellsL (.agg #[.string (bs root), .slice none 0 0]))) true) = h7 at *
  clear g6 m6 T6 x6 l6 h6
  have hmake : make size ns d = (root, (genS nm ns d (nxA ns 0) nm.length).1) := by
    unfold make
    rw [← hnm, List.getD_eq_getElem?_getD, hro]
    rfl
  generalize ha0 : nxA ns 0 = a0 at *
  have ha0' : a0 ≤ 1 := by rw [← ha0]; exact (nxA_le ns 0).2
  have pw : 4 ^ (d + 1) ≤ 16384 := Nat.le_trans (Nat.pow_le_pow_right (by decide) (show d + 1 ≤ 7 by omega)) (by decide)
  have hLE : LE h7.length h7 (At h2.length) (.slice none 0 0) (genS nm ns d a0 0).1 := ⟨⟨[], OwnG.nil _ _ _, rfl⟩⟩
  have m7' : MkH h2 h7 h2.length nm ns (.slice a14 n14 c14) (.slice a1 n1 c1) (genS nm ns d a0 0).2 := m7
  refine loopE_intro (fun m e h' => ∃ (i : Nat) (vl : Value), i ≤ nm.length ∧ m = nm.length - i ∧ e 2 = .int .i64 (d : Nat) ∧ e 6 = .pointer (some ⟨h.length, 0, none⟩) ∧ e 7 = .pointer (some ⟨h2.length, 0, none⟩) ∧ e 8 = .pointer (some ⟨h4.length, 0, none⟩) ∧ e 9 = .int .i64 (i : Nat) ∧
      MkH h2 h' h2.length nm ns (.slice a14 n14 c14) (.slice a1 n1 c1) (genS nm ns d a0 i).2 ∧ h'[h.length]? = some (.row zS true) ∧ h'[h4.length]? = some (.row [.string (bs root), vl] true) ∧ LE h7.length h' (At h2.length) vl (genS nm ns d a0 i).1 ∧ Ex h h' ∧ h7.length ≤ h'.length) nm.length
    ⟨0, _, Nat.zero_le _, rfl, rfl, rfl, rfl, rfl, rfl, m7', T7, g7, hLE, x7, Nat.le_refl _⟩ ?_
  rintro I m e0 h' ⟨i, vl, hi, hm, e2, e6, e7, e8, e9, mk, T, g, L, x, hl⟩ ih
  rw [e2, e6, e7, e8, e9]
  refine w_nilc (w_offP (w_rdP mk.row (v := .slice a14 n14 c14) rfl (w_len (s14.ex mk.x) (w_lss ?_))))
  refine c_dec (fun q => ?_) (fun q => ?_)
  · obtain ⟨w, hw⟩ := getElem?_of_lt (l := nm) (i := i) (by omega)
    have xr := Ex.res h'
    have mr := mk.ex xr
    refine w_offP (w_rdP (xr.some g) (v := vl) rfl (w_nilc (w_offP (w_rdP mr.row (v := .slice a14 n14 c14) rfl ?_))))
    refine w_idxN (enc := eS) eS_len s14 hw fun pp hpp => w_rd1 (hpp.ex mr.x) rfl ?_
    have hle := genS_le nm ns d a0 i
    have hmul : i * 4 ^ (d + 1) ≤ 10 * 16384 := Nat.mul_le_mul (by omega) pw
    refine mk31 hnl d _ _ _ mr (by omega) (by omega) fun v52 h9 c9 m9 g9 => ?_
    have lS := lt_of_get g
    refine ⟨PtrTo.ids hpp mr.x m9.x, idcell mr.row m9.row rfl rfl, ptr_id (c9.get _ (xr.lt lS) (fun e => by have : h4.length = h2.length := e; omega)), ?_⟩
    obtain ⟨k', n', a', ll, cc, rfl⟩ := g9.shape
    refine w_some (v := .agg #[.string (bs w), .int .i64 k', .string (bs n'), .slice a' ll cc]) rfl ?_
    refine w_some (bldSl_one (v := .agg #[.string (bs w), .int .i64 k', .string (bs n'), .slice a' ll cc]) rfl (by decide) rfl rfl) ?_
    refine n_slot ?_
    have lr : (reserve 1 h').length = h'.length + 1 := by rw [reserve_one]; simp
    have l9 := c9.len
    have ltX := mk.lt
    have c10 := ((Chg.ex (F := At h2.length) xr).trans c9).setNew (i := h'.length) (Nat.le_refl _) (.row [.string (bs w), .int .i64 k', .string (bs n'), .slice a' ll cc] true)
    have m10 := m9.setNew (i := h'.length) (by omega) (.row [.string (bs w), .int .i64 k', .string (bs n'), .slice a' ll cc] true)
    have G10 := g9.setNew (i := h'.length) (fun hg => by have := hg.1; omega) (.row [.string (bs w), .int .i64 k', .string (bs n'), .slice a' ll cc] true)
    have g10 : (h9.set h'.length (.row [.string (bs w), .int .i64 k', .string (bs n'), .slice a' ll cc] true))[h'.length]? = some (.row [.string (bs w), .int .i64 k', .string (bs n'), .slice a' ll cc] true) := get_set _ (by omega) _
    have l10 : (h9.set h'.length (.row [.string (bs w), .int .i64 k', .string (bs n'), .slice a' ll cc] true)).length = h9.length := List.length_set ..
    show appSl 4 vl _ (h9.set h'.length (.row [.string (bs w), .int .i64 k', .string (bs n'), .slice a' ll cc] true)) _
    generalize h9.set h'.length (.row [.string (bs w), .int .i64 k', .string (bs n'), .slice a' ll cc] true) = h10 at *
    obtain ⟨cs, o10, el10⟩ := (L.chg c10).ex
    have lvl : ∀ j, onId vl j → h7.length ≤ j ∧ j < h'.length := fun j hj => ⟨(L.on hj).1, (L.on hj).2.1⟩
    have len1 := genS_len nm ns d a0 i
    refine appSl_of ?_
    refine app_g (by decide) o10 (srcL_new (n := 1) (s := 4) g10 (by decide) rfl) rfl (by have := bigR3; omega) fun v' h15 a1 a2 a3 a4 => ?_
    have nS : ¬ onId vl h4.length := fun hon => by have := lvl _ hon; omega
    have gS10 : h10[h4.length]? = some (.row [.string (bs root), vl] true) := (c10.get _ lS (fun e => by have : h4.length = h2.length := e; omega)).trans g
    have gS := (a3 _ (lt_of_get gS10) nS).trans gS10
    obtain ⟨sa, sn, sc, rfl⟩ := Sl.isSl a1.sl
    refine w_offP (w_stP gS (by show 0 + 1 < 2; decide) rfl rfl ?_)
    have l16 : (h15.set h4.length (.row ([Value.string (bs root), vl].set (0 + 1) (.slice sa sn sc)) true)).length = h15.length := List.length_set ..
    have n16 : ∀ j, j ≠ h4.length → (h15.set h4.length (.row ([Value.string (bs root), vl].set (0 + 1) (.slice sa sn sc)) true))[j]? = h15[j]? := fun j hj => get_ne (Ne.symm hj) _
    have g16 : (h15.set h4.length (.row ([Value.string (bs root), vl].set (0 + 1) (.slice sa sn sc)) true))[h4.length]? = some (.row [.string (bs root), .slice sa sn sc] true) := get_set _ (lt_of_get gS) _
    generalize h15.set h4.length (.row ([Value.string (bs root), vl].set (0 + 1) (.slice sa sn sc)) true) = h16 at *
    have same : ∀ j, j < h10.length → ¬ onId vl j → j ≠ h4.length → h16[j]? = h10[j]? := fun j hj hn hS => (n16 j hS).trans (a3 j hj hn)
    refine w_add (by omega) (by omega) ?_
    have c10l := c10.len
    have hwd : nm.getD i [] = w := by rw [List.getD_eq_getElem?_getD, hw]; rfl
    have eG : genS nm ns d a0 (i + 1) = ((genS nm ns d a0 i).1 ++ [(w, (gen nm ns d (genS nm ns d a0 i).2).1)], (gen nm ns d (genS nm ns d a0 i).2).2) := by
      show ((genS nm ns d a0 i).1 ++ [(nm.getD i [], _)], _) = _
      rw [hwd]
    have up : ∀ j, Gd h7.length h10 (At h2.length) j ∧ ¬ onId vl j → h16[j]? = h10[j]? ∧ Gd h7.length h16 (At h2.length) j ∧ ¬ onId (.slice sa sn sc) j := fun j hj => ⟨same j hj.1.2.1 hj.2 (fun e => by have := hj.1.1; omega), ⟨hj.1.1, by have := hj.1.2.1; omega, hj.1.2.2⟩, fun hon => (a4 j hon).elim hj.2 fun e => by have := hj.1.2.1; omega⟩
    refine ih (nm.length - (i + 1)) _ _ (by omega) ⟨i + 1, .slice sa sn sc, by omega, rfl, e2, e6, e7, e8, rfl, ?_, ?_, g16, ?_, ?_, by omega⟩
    · rw [eG]
      refine ⟨(same _ (by omega) (fun hon => by have := lvl _ hon; omega) (by omega)).trans m10.row, m10.n0, m10.n1, ⟨by have := m10.x.len; omega, fun j hj => ?_⟩, Nat.le_refl _⟩
      exact (same j (by omega) (fun hon => by have := lvl _ hon; omega) (by omega)).trans (m10.x.get j hj)
    · exact (same _ (by omega) (fun hon => by have := lvl _ hon; omega) (by omega)).trans ((c10.get _ (lt_of_get T) (fun e => by have : h.length = h2.length := e; omega)).trans T)
    · rw [eG]
      refine ⟨⟨cs ++ [.string (bs w), .int .i64 k', .string (bs n'), .slice a' ll cc], ?_, ?_⟩⟩
      · have elm : ((genS nm ns d a0 i).1 ++ [(w, (gen nm ns d (genS nm ns d a0 i).2).1)]).length = (genS nm ns d a0 i).1.length + 1 := by simp
        show OwnG 4 _ h16 (.slice sa sn sc) ((genS nm ns d a0 i).1 ++ [(w, (gen nm ns d (genS nm ns d a0 i).2).1)]).length _
        rw [elm]
        refine a1.mono (fun j hj hF => ?_) fun j hj hF => ?_
        · have hj' := (a1.on hj).2
          rcases hF with hF | rfl
          · exact ⟨hF.1, by omega, hF.2.2⟩
          · exact ⟨by omega, by omega, fun e => by have : h10.length = h2.length := e; omega⟩
        · refine n16 j fun e => ?_
          rcases hF with hF | rfl
          · have := hF.1; omega
          · omega
      · refine EL.snoc (e := (w, _)) (MH.mono (fun j gj => up j ⟨⟨?_, gj.2⟩, fun hon => ?_⟩) _ _ G10) _ cs (EL.mono up _ cs el10)
        · have := gj.1; omega
        · have := lvl j hon; have := gj.1; omega
    · refine ⟨by have := x.len; omega, fun j hj => ?_⟩
      have hx := x.len
      exact ((same j (by omega) (fun hon => by have := lvl _ hon; omega) (by omega)).trans (c10.get j (by omega) (fun e => by have : j = h2.length := e; omega))).trans (x.get j hj)
  · have ei : i = nm.length := by omega
    subst ei
    obtain ⟨cs, o, el⟩ := L.ex
    obtain ⟨sa', sc', rfl⟩ := Sl.shape o.sl
    refine w_rdPA g (Nat.le_refl 2) ?_
    refine w_stPA T rfl (Nat.le_refl 2) rfl ?_
    have gT : (h'.set h.length (.row (spliceL zS 0 (cellsL (.agg #[.string (bs root), .slice sa' (genS nm ns d a0 nm.length).1.length sc']))) true))[h.length]? = some (.row [.string (bs root), .slice sa' (genS nm ns d a0 nm.length).1.length sc'] true) := get_set _ (lt_of_get T) _
    rw [res14]
    refine w_some (v := [Value.agg #[.string (bs root), .slice sa' (genS nm ns d a0 nm.length).1.length sc']]) ?_ (show K (.agg #[.string (bs root), .slice sa' (genS nm ns d a0 nm.length).1.length sc']) _ from ?_)
    · have e := hopt (o := rdRow true 2 (.pointer (some ⟨h.length, 0, none⟩)) _) (w_rdPA gT (Nat.le_refl 2) rfl)
      show (rdRow true 2 (e0 6) _).map _ = _
      rw [e6]
      exact congrArg (Option.map fun v => [v]) e
    · refine k _ _ (x.set (Nat.le_refl _) _) ?_
      rw [hmake]
      have hon : ∀ j, onId (.slice sa' (genS nm ns d a0 nm.length).1.length sc') j → h7.length ≤ j ∧ j < h'.length := fun j hj => ⟨(L.on hj).1, (L.on hj).2.1⟩
      refine ⟨sa', sc', cs, rfl, Sl.keepOn o.sl fun j hj => get_ne (by have := hon j hj; omega) _, fun j hj => ?_, EL.mono (fun j hj => ⟨get_ne (by have := hj.1.1; omega) _, by have := hj.1.1; omega, by rw [List.length_set]; exact hj.1.2.1⟩) _ _ el⟩
      have := hon j hj
      rw [List.length_set]
      omega
end Go.Proofs.Ytlenlhlipmkeeaa.W
end

section
/- Schema's laws: the document's texts of models. Conditions: none. -/
namespace Go.Proofs.Ytlenlhlipmkeeaa.W
open Go Go.AM SchM
set_option linter.unusedVariables false
set_option maxRecDepth 100000
theorem par1 {h : AH} {r : Nat} {k : Int} {n a : Value} {Q : Value → AH → Prop} (g : h[r]? = some (.row [.int .i64 k, n, a] true)) (q : Q (.bool (decide (k = 7) || decide (k = 8) || decide (k = 9))) h) :
  gopD (gB (.bool (decide (k = 7))) false) (fun k_0 =>
    optW (pOff 0 (.pointer (some ⟨r, 0, none⟩))) fun v18_1 =>
    k_0 v18_1 h [] ((7, (ceOf 1 (.pointer (some ⟨r, 0 + 0, none⟩)))) :: ((4, (ceOf 1 (.pointer (some ⟨r, 0 + 0, none⟩)))) :: ((1, (ceOf 1 (.pointer (some ⟨r, 0 + 0, none⟩)))) :: [])))) h [] ((7, (ceOf 1 (.pointer (some ⟨r, 0 + 0, none⟩)))) :: ((4, (ceOf 1 (.pointer (some ⟨r, 0 + 0, none⟩)))) :: ((1, (ceOf 1 (.pointer (some ⟨r, 0 + 0, none⟩)))) :: []))) fun v18 h_2 H S =>
  gopD (gB (.bool (decide (k = 7))) false) (fun k_1 =>
    histC #[0, 1, 3, 0, 8, 24, 0, 64, 192, 448, 960, 1984, 4032, 8128, 16320, 32704, 65472, 131008, 262080, 32711, 557055, 2097151] 11 (ceOf 1 v18) H (
      optW (rdRow false 1 v18 h_2) fun v19_1 =>
      k_1 v19_1 h_2 H ((11, (ceOf 1 v18)) :: S))) h_2 H S fun v19 h_3 H_1 S_1 =>
  gopD (gB (.bool (decide (k = 7))) false) (fun k_2 =>
    optW (pBin Try.prog .eql 3 v19 (.int .i64 8)) fun v20_1 =>
    k_2 v20_1 h_3 H_1 S_1) h_3 H_1 S_1 fun v20 h_4 H_2 S_2 =>
  optW (pPick (.bool (decide (k = 7))) (.bool true) v20) fun v21 =>
  gopD (gB v21 false) (fun k_3 =>
    optW (pOff 0 (.pointer (some ⟨r, 0, none⟩))) fun v23_1 =>
    k_3 v23_1 h_4 H_2 S_2) h_4 H_2 S_2 fun v23 h_5 H_3 S_3 =>
  gopD (gB v21 false) (fun k_4 =>
    histC #[0, 1, 3, 0, 8, 24, 0, 64, 192, 448, 960, 1984, 4032, 8128, 16320, 32704, 65472, 131008, 262080, 32711, 557055, 2097151] 16 (ceOf 1 v23) H_3 (
      optW (rdRow false 1 v23 h_5) fun v24_1 =>
      k_4 v24_1 h_5 H_3 ((16, (ceOf 1 v23)) :: S_3))) h_5 H_3 S_3 fun v24 h_6 H_4 S_4 =>
  gopD (gB v21 false) (fun k_5 =>
    optW (pBin Try.prog .eql 3 v24 (.int .i64 9)) fun v25_1 =>
    k_5 v25_1 h_6 H_4 S_4) h_6 H_4 S_4 fun v25 h_7 H_5 S_5 =>
  optW (pPick v21 (.bool true) v25) fun v26 =>
  Q v26 h_7 := by
  by_cases q7 : k = 7
  · refine gd_ft q7 (gd_ft q7 (gd_ft q7 (pk_tt q7 (gdc_ft (gdc_ft (gdc_ft (pk_t ?_)))))))
    have e : (decide (k = 7) || decide (k = 8) || decide (k = 9)) = true := by simp [q7]
    rw [e] at q
    exact q
  · refine gd_ff q7 (w_offP (gd_ff q7 (hist_nil (w_rdP g (v := .int .i64 k) rfl (gd_ff q7 (w_eql (pk_ff q7 ?_)))))))
    by_cases q8 : k = 8
    · refine gd_ft q8 (gd_ft q8 (gd_ft q8 (pk_tt q8 ?_)))
      have e : (decide (k = 7) || decide (k = 8) || decide (k = 9)) = true := by simp [q8]
      rw [e] at q
      exact q
    · refine gd_ff q8 (w_offP (gd_ff q8 (hist_nil (w_rdP g (v := .int .i64 k) rfl (gd_ff q8 (w_eql (pk_ff q8 ?_)))))))
      have e : (decide (k = 7) || decide (k = 8) || decide (k = 9)) = decide (k = 9) := by simp [q7, q8]
      rw [e] at q
      exact q
theorem par2 {h : AH} {b10 b13 b26 : Bool} {inn : Int} {Q : Value → AH → Prop} (q : Q (.bool (b10 || (b13 && decide (¬ inn = 6)) || (b26 && decide (inn = 7)))) h) :
  gopW (gB (.bool b10) false) (fun k_6 =>
    k_6 (.bool b13) h) h fun v29 h_8 =>
  gopW (gB (.bool b10) false) (fun k_7 =>
    k_7 v29 h_8) h_8 fun v30 h_9 =>
  gopW (gB v30 true) (fun k_8 =>
    k_8 (.int .i64 inn) h_9) h_9 fun v31 h_10 =>
  gopW (gB v30 true) (fun k_9 =>
    optW (pBin Try.prog .neq 3 v31 (.int .i64 6)) fun v32_1 =>
    k_9 v32_1 h_10) h_10 fun v32 h_11 =>
  gopW (gB (.bool b10) false) (fun k_10 =>
    optW (pPick v30 v32 (.bool false)) fun v33_1 =>
    k_10 v33_1 h_11) h_11 fun v33 h_12 =>
  optW (pPick (.bool b10) (.bool true) v33) fun v34 =>
  gopW (gB v34 false) (fun k_11 =>
    k_11 (.bool b26) h_12) h_12 fun v36 h_13 =>
  gopW (gB v34 false) (fun k_12 =>
    k_12 v36 h_13) h_13 fun v37 h_14 =>
  gopW (gB v37 true) (fun k_13 =>
    k_13 (.int .i64 inn) h_14) h_14 fun v38 h_15 =>
  gopW (gB v37 true) (fun k_14 =>
    optW (pBin Try.prog .eql 3 v38 (.int .i64 7)) fun v39_1 =>
    k_14 v39_1 h_15) h_15 fun v39 h_16 =>
  gopW (gB v34 false) (fun k_15 =>
    optW (pPick v37 v39 (.bool false)) fun v40_1 =>
    k_15 v40_1 h_16) h_16 fun v40 h_17 =>
  optW (pPick v34 (.bool true) v40) fun v41 =>
  Q v41 h_17 := by
  have last : ∀ (K : Value → Prop), (K (.bool (b26 && decide (inn = 7)))) → (∀ (c : Bool), c = false → K (.bool (c || (b26 && decide (inn = 7))))) := fun K hk c hc => by
    rw [hc, Bool.false_or]
    exact hk
  cases b10 with
  | true =>
    refine gc_ft (gc_ft (gwu (gwu (gc_ft (pk_t (gc_ft (gc_ft (gwu (gwu (gc_ft (pk_t ?_)))))))))))
    have e : (true || (b13 && decide (¬ inn = 6)) || (b26 && decide (inn = 7))) = true := by simp
    rw [e] at q
    exact q
  | false =>
    cases b13 with
    | false =>
      have e : (false || (false && decide (¬ inn = 6)) || (b26 && decide (inn = 7))) = (b26 && decide (inn = 7)) := by simp
      rw [e] at q
      refine gc_ff (gc_ff (gc_tf (gc_tf (gc_ff (pk_f (pk_f ?_))))))
      cases b26 with
      | true =>
        refine gc_ff (gc_ff (gc_tt (gc_tt (w_eql (gc_ff (pk_t (pk_f ?_)))))))
        rw [Bool.true_and] at q
        exact q
      | false => exact gc_ff (gc_ff (gc_tf (gc_tf (gc_ff (pk_f (pk_f q))))))
    | true =>
      refine gc_ff (gc_ff (gc_tt (gc_tt (w_neq (gc_ff (pk_t (pk_f ?_)))))))
      by_cases q6 : ¬ inn = 6
      · have e : (false || (true && decide (¬ inn = 6)) || (b26 && decide (inn = 7))) = true := by simp [q6]
        rw [e] at q
        exact g_ft q6 (g_ft q6 (gwu (gwu (g_ft q6 (pk_tt q6 q)))))
      · have q6' := Decidable.not_not.1 q6
        have e : (false || (true && decide (¬ inn = 6)) || (b26 && decide (inn = 7))) = (b26 && decide (inn = 7)) := by simp [q6']
        rw [e] at q
        cases b26 with
        | true =>
          refine g_ff q6 (g_ff q6 (gc_tt (gc_tt (w_eql (g_ff q6 (pk_t (pk_ff q6 ?_)))))))
          rw [Bool.true_and] at q
          exact q
        | false => exact g_ff q6 (g_ff q6 (gc_tf (gc_tf (g_ff q6 (pk_f (pk_ff q6 q))))))
theorem held54 {h : AH} {m : Mdl} {inn : Int} {v : Value} {K : Value → AH → Prop} (hm : MH h (fun j => j < h.length) m v) (hl : (txt m).length ≤ 1000000)
    (hM : ∀ (h2 : AH) (K : Value → AH → Prop), Ex h h2 → (∀ h', Ex h2 h' → K (.string (bs (txt m))) h') → callW Try.prog 29 [v] h2 K)
    (k : ∀ h', Ex h h' → K (.string (bs (hw inn m))) h') : callW Try.prog 54 [v, .int .i64 inn] h K := by
  refine c54 ?_
  unfold s54
  obtain ⟨kk, n, l⟩ := m
  unfold MH at hm
  obtain ⟨a, c, cs, rfl, sl, _, ml⟩ := hm
  refine n_boxv rfl fun h1 x1 l1 g1 => ?_
  have g1' : h1[h.length]? = some (.row [.int .i64 kk, .string (bs n), .slice a l.length c] true) := g1
  refine w_offP (w_rdP g1' (v := .int .i64 kk) rfl (w_eql (w_offP (w_rdP g1' (v := .int .i64 kk) rfl (w_eql (w_offP (w_rdP g1' (v := .int .i64 kk) rfl (w_eql ?_))))))))
  refine par1 g1' ?_
  refine par2 ?_
  have ep : par (kd (.mk kk n l)) inn = (decide (kk = 6) || (decide (kk = 5) && decide (¬ inn = 6)) || ((decide (kk = 7) || decide (kk = 8) || decide (kk = 9)) && decide (inn = 7))) := rfl
  rw [← ep]
  refine c_b (fun q => ?_) (fun q => ?_)
  · refine w_rdPA g1' (Nat.le_refl 3) (hM _ _ x1 fun h2 x2 => ?_)
    refine w_cat (by simp; omega) (w_cat (by simp; omega) ?_)
    have := k h2 (x1.trans x2)
    unfold hw at this
    rw [if_pos q] at this
    exact this
  · refine w_rdPA g1' (Nat.le_refl 3) (hM _ _ x1 fun h2 x2 => ?_)
    have := k h2 (x1.trans x2)
    unfold hw at this
    rw [if_neg (by rw [q]; decide)] at this
    exact this
set_option maxHeartbeats 1000000 in
theorem model29 : ∀ (N : Nat) (m : Mdl) (h : AH) (v : Value) (K : Value → AH → Prop), sz m ≤ N → N ≤ 1000000 → MH h (fun j => j < h.length) m v → okT m = true → (txt m).length ≤ 1000000 → (∀ h', Ex h h' → K (.string (bs (txt m))) h') → callW Try.prog 29 [v] h K
  | 0, .mk k n l, h, v, K, hN, _, _, _, _, _ => by simp [sz] at hN
  | N + 1, .mk k n l, h, v, K, hN, hN2, hm, hok, hlen, kk => by
    have hN' : szL l ≤ N := by simp only [sz] at hN; omega
    have hll := szL_len l
    unfold okT at hok
    rw [Bool.and_eq_true] at hok
    obtain ⟨hok1, hok2⟩ := hok
    unfold MH at hm
    obtain ⟨a, c, cs, rfl, sl, _, ml⟩ := hm
    refine c29 ?_
    unfold s29
    refine n_boxv rfl fun h1 x1 l1 g1 => ?_
    have g1' : h1[h.length]? = some (.row [.int .i64 k, .string (bs n), .slice a l.length c] true) := g1
    have part : ∀ (i : Nat) (m' : Mdl) (h2 : AH) (K : Value → AH → Prop) (x y z : Value) (inn : Int), l[i]? = some m' → MH h (fun j => j < h.length) m' (.agg #[x, y, z]) → Ex h h2 → (hw inn m').length ≤ 1000000 → (∀ h', Ex h2 h' → K (.string (bs (hw inn m'))) h') → callW Try.prog 54 [.agg #[x, y, z], .int .i64 inn] h2 K := by
      intro i m' h2 K x y z inn hi mh x2 hlen k2
      have hsz := sz_get l i m' hi
      have hge := hw_ge inn m'
      refine held54 (MH.mono (fun j hj => ⟨x2.get j hj, x2.lt hj⟩) m' _ mh) (by omega) (fun h3 K x3 k3 => ?_) k2
      exact model29 N m' h3 _ K (by omega) (by omega) (MH.mono (fun j hj => ⟨(x2.trans x3).get j hj, (x2.trans x3).lt hj⟩) m' _ mh) (okTL_get l hok2 i m' hi) (by omega) k3
    have done : ∀ w : W, txt (.mk k n l) = w → K (.string (bs w)) h1 := fun w e => by
      have := kk h1 x1
      rw [e] at this
      exact this
    have rep : ∀ (b : UInt8) , (k = 7 ∨ k = 8 ∨ k = 9) → txt (.mk k n l) = (txtL 7 l).headD [] ++ [b] →
        optW (pOff 2 (.pointer (some ⟨h.length, 0, none⟩))) fun v20 => optW (rdRow false 1 v20 h1) fun v21 => optW (pIdxS 3 v21 (.int .i64 0)) fun v22 => optW (rdRow true 3 v22 h1) fun v23 => callW Try.prog 54 [v23, (.int .i64 7)] h1 fun v24 h_2 => optW (pBin Try.prog .add 9 v24 (.string (bs [b]))) fun v25 => K v25 h_2 := by
      intro b hk e
      have hpos : 0 < l.length := by
        have : (decide (k = 7) || decide (k = 8) || decide (k = 9)) = true := by rcases hk with rfl | rfl | rfl <;> rfl
        rw [this] at hok1
        exact of_decide_eq_true hok1
      obtain ⟨m', hm'⟩ := getElem?_of_lt (l := l) (i := 0) hpos
      obtain ⟨x, y, z, hc, mh⟩ := ML.get l cs ml 0 m' hm'
      have et : (txtL 7 l).headD [] = hw 7 m' := by
        cases l with
        | nil => simp at hpos
        | cons m0 l => cases hm'; rfl
      rw [et] at e
      rw [e] at hlen
      rw [List.length_append] at hlen
      refine w_offP (w_rdP g1' (v := .slice a l.length c) rfl (w_idx (sl.ex x1) (by decide) (by omega) fun p hp => ?_))
      have hp' : PtrTo h1 p [x, y, z] := by rw [← hc]; exact hp
      refine w_rdA hp' rfl (part 0 m' h1 _ x y z 7 hm' mh x1 (by omega) fun h2 x2 => w_cat (by simp; omega) ?_)
      have := kk h2 (x1.trans x2)
      rw [e] at this
      exact this
    refine w_offP (w_rdP g1' (v := .int .i64 k) rfl ?_)
    refine w_eql (c_dec (fun q1 => done _ (by rw [txt, if_pos q1]; rfl)) (fun q1 => ?_))
    refine w_eql (c_dec (fun q2 => done _ (by rw [txt, if_neg q1, if_pos q2]; rfl)) (fun q2 => ?_))
    refine w_eql (c_dec (fun q3 => done _ (by rw [txt, if_neg q1, if_neg q2, if_pos q3]; rfl)) (fun q3 => ?_))
    refine w_eql (c_dec (fun q4 => w_offP (w_rdP g1' (v := .string (bs n)) rfl (done _ (by rw [txt, if_neg q1, if_neg q2, if_neg q3, if_pos q4])))) (fun q4 => ?_))
    refine w_eql (c_dec (fun q7 => rep 42 (by omega) (by rw [txt, if_neg q1, if_neg q2, if_neg q3, if_neg q4, if_pos q7])) (fun q7 => ?_))
    refine w_eql (c_dec (fun q8 => rep 43 (by omega) (by rw [txt, if_neg q1, if_neg q2, if_neg q3, if_neg q4, if_neg q7, if_pos q8])) (fun q8 => ?_))
    refine w_eql (c_dec (fun q9 => rep 63 (by omega) (by rw [txt, if_neg q1, if_neg q2, if_neg q3, if_neg q4, if_neg q7, if_neg q8, if_pos q9])) (fun q9 => ?_))
    have etx : txt (.mk k n l) = joinW (if k = 6 then [32, 124, 32] else [44, 32]) (txtL k l) := by rw [txt, if_neg q1, if_neg q2, if_neg q3, if_neg q4, if_neg q7, if_neg q8, if_neg q9]
    have lp : ∀ (e0 : Env) (b : W), txt (.mk k n l) = joinW b (txtL k l) → e0 1 = .pointer (some ⟨h.length, 0, none⟩) → e0 3 = .string (bs []) → e0 4 = .string (bs b) → e0 5 = .int .i64 0 → b.length ≤ 10 →
                  loopE (fun I_1 e_1 h_8 =>
                    optW (pOff 2 (e_1 1)) fun v46_1 =>
                    optW (rdRow false 1 v46_1 h_8) fun v47_1 =>
                    optW (lenSl v47_1) fun v48_1 =>
                    optW (pBin Try.prog .lss 3 (e_1 5) v48_1) fun v49_1 =>
                    condW v49_1 (
                      optW (pBin Try.prog .gtr 3 (e_1 5) (.int .i64 0)) fun v53_1 =>
                      condW v53_1 (
                        optW (pBin Try.prog .add 9 (e_1 3) (e_1 4)) fun v56_1 =>
                        optW (pOff 2 (e_1 1)) fun v58_2 =>
                        optW (rdRow false 1 v58_2 h_8) fun v59_2 =>
                        optW (pIdxS 3 v59_2 (e_1 5)) fun v61_2 =>
                        optW (rdRow true 3 v61_2 h_8) fun v62_2 =>
                        optW (pOff 0 (e_1 1)) fun v63_2 =>
                        optW (rdRow false 1 v63_2 h_8) fun v64_2 =>
                        callW Try.prog 54 [v62_2, v64_2] h_8 fun v65_2 h_9 =>
                        optW (pBin Try.prog .add 9 v56_1 v65_2) fun v66_2 =>
                        optW (pBin Try.prog .add 3 (e_1 5) (.int .i64 1)) fun v51_2 =>
                        I_1 (pt (pt (pt (pt (pt (pt (pt (pt (pt (pt (pt (pt (pt (pt (pt (pt (pt (pt (pt (pt (pt (pt (pt (pt (pt e_1 45 (e_1 5)) 46 v46_1) 47 v47_1) 48 v48_1) 49 v49_1) 52 (e_1 5)) 53 v53_1) 54 (e_1 3)) 55 (e_1 4)) 56 v56_1) 3 v56_1) 57 v56_1) 58 v58_2) 59 v59_2) 60 (e_1 5)) 61 v61_2) 62 v62_2) 63 v63_2) 64 v64_2) 65 v65_2) 66 v66_2) 3 v66_2) 50 (e_1 5)) 51 v51_2) 5 v51_2) h_9
                      ) (
                        optW (pOff 2 (e_1 1)) fun v58_3 =>
                        optW (rdRow false 1 v58_3 h_8) fun v59_3 =>
                        optW (pIdxS 3 v59_3 (e_1 5)) fun v61_3 =>
                        optW (rdRow true 3 v61_3 h_8) fun v62_3 =>
                        optW (pOff 0 (e_1 1)) fun v63_3 =>
                        optW (rdRow false 1 v63_3 h_8) fun v64_3 =>
                        callW Try.prog 54 [v62_3, v64_3] h_8 fun v65_3 h_10 =>
                        optW (pBin Try.prog .add 9 (e_1 3) v65_3) fun v66_3 =>
                        optW (pBin Try.prog .add 3 (e_1 5) (.int .i64 1)) fun v51_3 =>
                        I_1 (pt (pt (pt (pt (pt (pt (pt (pt (pt (pt (pt (pt (pt (pt (pt (pt (pt (pt (pt (pt (pt e_1 45 (e_1 5)) 46 v46_1) 47 v47_1) 48 v48_1) 49 v49_1) 52 (e_1 5)) 53 v53_1) 57 (e_1 3)) 58 v58_3) 59 v59_3) 60 (e_1 5)) 61 v61_3) 62 v62_3) 63 v63_3) 64 v64_3) 65 v65_3) 66 v66_3) 3 v66_3) 50 (e_1 5)) 51 v51_3) 5 v51_3) h_10)
                    ) (
                      K (e_1 3) h_8))
        e0 h1 := by
      intro e0 b et f1 f3 f4 f5 hb
      rw [et] at hlen
      refine loopE_intro (fun mm e h' => ∃ i : Nat, i ≤ l.length ∧ mm = l.length - i ∧ e 1 = .pointer (some ⟨h.length, 0, none⟩) ∧ e 3 = .string (bs (joinW b ((txtL k l).take i))) ∧ e 4 = .string (bs b) ∧ e 5 = .int .i64 (i : Nat) ∧ Ex h1 h') l.length
        ⟨0, Nat.zero_le _, rfl, f1, by rw [f3]; rfl, f4, f5, Ex.refl _⟩ ?_
      clear f1 f3 f4 f5 e0
      rintro I mm e h' ⟨i, hi, hmm, f1, f3, f4, f5, x2⟩ ih
      rw [f1, f3, f4, f5]
      have g2 := x2.some g1'
      refine w_offP (w_rdP g2 (v := .slice a l.length c) rfl (w_lenSl (w_lss (c_dec (fun q => ?_) (fun q => ?_)))))
      · obtain ⟨m', hm'⟩ := getElem?_of_lt (l := l) (i := i) (by omega)
        obtain ⟨x, y, z, hc, mh⟩ := ML.get l cs ml i m' hm'
        have hx : (txtL k l)[i]? = some (hw k m') := by rw [txtL_map, List.getElem?_map, hm']; rfl
        have et1 : (txtL k l).take (i + 1) = (txtL k l).take i ++ [hw k m'] := by rw [List.take_add_one, hx]; rfl
        have len0 := joinW_le b (txtL k l) i
        have len1 := joinW_le b (txtL k l) (i + 1)
        have ll : ((txtL k l).take i).length = i := by rw [List.length_take, txtL_map, List.length_map]; omega
        rw [et1, joinW_snoc] at len1
        refine w_gtr (c_dec (fun qp => ?_) (fun qp => ?_))
        · have ne : (txtL k l).take i ≠ [] := fun e => by rw [e] at ll; simp at ll; omega
          rw [if_neg ne] at len1
          simp only [List.length_append] at len1
          refine w_cat (by omega) ?_
          refine w_offP (w_rdP g2 (v := .slice a l.length c) rfl (w_idx (sl.ex (x1.trans x2)) (by omega) (by omega) fun p hp => ?_))
          have hp' : PtrTo h' p [x, y, z] := by rw [← hc]; rw [Int.toNat_natCast] at hp; exact hp
          refine w_rdA hp' rfl (w_offP (w_rdP g2 (v := .int .i64 k) rfl (part i m' h' _ x y z k hm' mh (x1.trans x2) (by omega) fun h3 x3 => w_cat (by simp only [List.length_append]; omega) (w_add (by omega) (by omega) ?_))))
          refine ih (l.length - (i + 1)) _ _ (by omega) ⟨i + 1, by omega, rfl, f1, ?_, f4, rfl, x2.trans x3⟩
          rw [et1, joinW_snoc, if_neg ne]
          rfl
        · have e0 : (txtL k l).take i = [] := List.eq_nil_of_length_eq_zero (by omega)
          rw [if_pos e0] at len1
          rw [e0]
          refine w_offP (w_rdP g2 (v := .slice a l.length c) rfl (w_idx (sl.ex (x1.trans x2)) (by omega) (by omega) fun p hp => ?_))
          have hp' : PtrTo h' p [x, y, z] := by rw [← hc]; rw [Int.toNat_natCast] at hp; exact hp
          refine w_rdA hp' rfl (w_offP (w_rdP g2 (v := .int .i64 k) rfl (part i m' h' _ x y z k hm' mh (x1.trans x2) (by omega) fun h3 x3 => w_cat (by simp only [joinW, List.length_nil]; omega) (w_add (by omega) (by omega) ?_))))
          refine ih (l.length - (i + 1)) _ _ (by omega) ⟨i + 1, by omega, rfl, f1, ?_, f4, rfl, x2.trans x3⟩
          rw [et1, joinW_snoc, if_pos e0]
          rfl
      · have ei : (txtL k l).take i = txtL k l := List.take_of_length_le (by rw [txtL_map, List.length_map]; omega)
        rw [ei]
        have := kk h' (x1.trans x2)
        rw [et] at this
        exact this
    refine w_offP (w_rdP g1' (v := .int .i64 k) rfl (w_eql (c_dec (fun q6 => ?_) (fun q6 => ?_))))
    · rw [if_pos q6] at etx
      exact lp _ _ etx rfl rfl rfl rfl (by decide)
    · rw [if_neg q6] at etx
      exact lp _ _ etx rfl rfl rfl rfl (by decide)
end Go.Proofs.Ytlenlhlipmkeeaa.W
end

section
/- Schema's laws: the document's text of a schema; schemas that are the same. Conditions: none. -/
namespace Go.Proofs.Ytlenlhlipmkeeaa.W
open Go Go.AM SchM
set_option linter.unusedVariables false
set_option maxRecDepth 100000
theorem flat_le : ∀ (l : List W) (i : Nat), ((l.take i).flatten).length ≤ l.flatten.length
  | [], i => by simp
  | x :: l, 0 => by simp
  | x :: l, i + 1 => by
    have := flat_le l i
    simp only [List.take_succ_cons, List.flatten_cons, List.length_append]
    omega
theorem text13 {h : AH} {b : Nat} {x : W × List (W × Mdl)} {v : Value} {K : Value → AH → Prop} (s : SH h b x v) (hok : ∀ e ∈ x.2, okT e.2 = true ∧ sz e.2 ≤ 1000000) (hlen : (text x).length ≤ 1000000) (hl : x.2.length ≤ 1000)
    (k : ∀ h', Ex h h' → K (.string (bs (text x))) h') : callW Try.prog 13 [v] h K := by
  obtain ⟨root, l⟩ := x
  obtain ⟨a, c, cs, rfl, sl, on, el⟩ := s
  dsimp only at sl on el hok hl
  refine c13 ?_
  unfold s13
  refine n_boxv rfl fun h1 x1 l1 g1 => ?_
  have g1' : h1[h.length]? = some (.row [.string (bs root), .slice a l.length c] true) := g1
  have tl : (text (root, l)).length = 6 + root.length + ((l.map elT).flatten).length := by
    simp only [text, List.length_append, List.length_cons, List.length_nil]
    omega
  refine w_offP (w_rdP g1' (v := .string (bs root)) rfl (w_cat (by simp; omega) (w_cat (by simp; omega) ?_)))
  refine loopE_intro (fun mm e h' => ∃ i : Nat, i ≤ l.length ∧ mm = l.length - i ∧ e 1 = .pointer (some ⟨h.length, 0, none⟩) ∧ e 3 = .string (bs ([114, 111, 111, 116, 32] ++ root ++ [59] ++ ((l.map elT).take i).flatten)) ∧ e 4 = .int .i64 (i : Nat) ∧ Ex h1 h') l.length
    ⟨0, Nat.zero_le _, rfl, rfl, congrArg (fun w => Value.string (bs w)) (by simp), rfl, Ex.refl _⟩ ?_
  rintro I mm e h2 ⟨i, hi, hmm, f1, f3, f4, x2⟩ ih
  rw [f1, f3, f4]
  have g2 := x2.some g1'
  have len0 := flat_le (l.map elT) i
  have len1 := flat_le (l.map elT) (i + 1)
  refine w_offP (w_rdP g2 (v := .slice a l.length c) rfl (w_lenSl (w_lss (c_dec (fun q => ?_) (fun q => ?_)))))
  · obtain ⟨⟨w, m⟩, hm⟩ := getElem?_of_lt (l := l) (i := i) (by omega)
    obtain ⟨k', n', a', ll, cc, hc, mh⟩ := EL.get l cs el i _ hm
    have hmem := hok _ (List.mem_of_getElem? hm)
    have hx : (l.map elT)[i]? = some (elT (w, m)) := by rw [List.getElem?_map, hm]; rfl
    have et1 : (l.map elT).take (i + 1) = (l.map elT).take i ++ [elT (w, m)] := by rw [List.take_add_one, hx]; rfl
    rw [et1, List.flatten_append, List.length_append] at len1
    have el1 : [elT (w, m)].flatten.length = 9 + w.length + 3 + (txt m).length + 1 := by simp [elT]; omega
    rw [el1] at len1
    have ln : ([114, 111, 111, 116, 32] ++ root ++ [59] ++ ((l.map elT).take i).flatten : W).length = 6 + root.length + (((l.map elT).take i).flatten).length := by
      simp only [List.length_append, List.length_cons, List.length_nil]
      omega
    refine w_cat (by rw [ln]; simp only [List.length_cons, List.length_nil]; omega) ?_
    generalize hS : ([114, 111, 111, 116, 32] ++ root ++ [59] ++ ((l.map elT).take i).flatten : W) = S at ln ⊢
    refine w_offP (w_rdP g2 (v := .slice a l.length c) rfl (w_idx (sl.ex (x1.trans x2)) (by omega) (by omega) fun p hp => ?_))
    have hp' : PtrTo h2 p [.string (bs w), .int .i64 k', .string (bs n'), .slice a' ll cc] := by rw [Int.toNat_natCast, hc] at hp; exact hp
    refine w_off hp' (by show 0 ≤ 4; decide) fun p0 hp0 => w_rd1 hp0 rfl ?_
    refine w_cat (by simp only [List.length_append, List.length_cons, List.length_nil]; omega) (w_cat (by simp only [List.length_append, List.length_cons, List.length_nil]; omega) ?_)
    refine w_offP (w_rdP g2 (v := .slice a l.length c) rfl (w_idx (sl.ex (x1.trans x2)) (by omega) (by omega) fun p3 hp3 => ?_))
    have hp3' : PtrTo h2 p3 [.string (bs w), .int .i64 k', .string (bs n'), .slice a' ll cc] := by rw [Int.toNat_natCast, hc] at hp3; exact hp3
    refine w_off hp3' (by show 1 ≤ 4; decide) fun p4 hp4 => w_rdA hp4 rfl ?_
    refine model29 1000000 m h2 _ _ hmem.2 (Nat.le_refl _) (MH.mono (fun j hj => ⟨(x1.trans x2).get j hj.2, (x1.trans x2).lt hj.2⟩) m _ mh) hmem.1 (by omega) fun h3 x3 => ?_
    refine ⟨PtrTo.ids hp0 (Ex.refl _) x3, ptr_id (x3.get _ (lt_of_get g2)), ?_⟩
    refine w_cat (by simp only [List.length_append, List.length_cons, List.length_nil]; omega) (w_cat (by simp only [List.length_append, List.length_cons, List.length_nil]; omega) (w_add (by omega) (by omega) ?_))
    refine ih (l.length - (i + 1)) _ _ (by omega) ⟨i + 1, by omega, rfl, f1, ?_, rfl, x2.trans x3⟩
    rw [et1, List.flatten_append, ← List.append_assoc, hS]
    show Value.string (bs _) = Value.string (bs _)
    congr 2
    simp [elT]
  · have ei : (l.map elT).take i = l.map elT := List.take_of_length_le (by rw [List.length_map]; omega)
    rw [ei]
    exact k h2 (x1.trans x2)
theorem nn {p : Prop} (h : p) : ¬ ¬ p := fun n => n h
set_option maxHeartbeats 1000000 in
theorem one46 : ∀ (N : Nat) (m : Mdl) (h : AH) (v w : Value) (K : Value → AH → Prop), sz m ≤ N → N ≤ 1000000 → MH h (fun j => j < h.length) m v → MH h (fun j => j < h.length) m w → (∀ h', Ex h h' → K (.bool true) h') → callW Try.prog 46 [v, w] h K
  | 0, .mk k n l, h, v, w, K, hN, _, _, _, _ => by simp [sz] at hN
  | N + 1, .mk k n l, h, v, w, K, hN, hN2, hm, hw, kk => by
    have hN' : szL l ≤ N := by simp only [sz] at hN; omega
    have hll := szL_len l
    unfold MH at hm hw
    obtain ⟨a, c, cs, rfl, sl, _, ml⟩ := hm
    obtain ⟨a', c', cs', rfl, sl', _, ml'⟩ := hw
    refine c46 ?_
    unfold s46
    refine n_boxv rfl fun h1 x1 l1 g1 => ?_
    refine n_boxv rfl fun h2 x2 l2 g2 => ?_
    have g1' : h2[h.length]? = some (.row [.int .i64 k, .string (bs n), .slice a l.length c] true) := x2.some g1
    have g2' : h2[h1.length]? = some (.row [.int .i64 k, .string (bs n), .slice a' l.length c'] true) := g2
    have x12 := x1.trans x2
    refine w_offP (w_rdP g1' (v := .int .i64 k) rfl (w_offP (w_rdP g2' (v := .int .i64 k) rfl (w_neq ?_))))
    have t1 : ¬ ¬ (k = k) := nn rfl
    have t2 : ¬ ¬ (n = n) := nn rfl
    have t3 : ¬ ¬ (((l.length : Nat) : Int) = (l.length : Nat)) := nn rfl
    refine g_ff t1 (w_offP (g_ff t1 (w_rdP g1' (v := .string (bs n)) rfl (g_ff t1 (w_offP (g_ff t1 (w_rdP g2' (v := .string (bs n)) rfl (g_ff t1 (w_sneq (pk_ff t1 ?_))))))))))
    refine g_ff t2 (w_offP (g_ff t2 (w_rdP g1' (v := .slice a l.length c) rfl (g_ff t2 (w_lenSl (g_ff t2 (w_offP (g_ff t2 (w_rdP g2' (v := .slice a' l.length c') rfl (g_ff t2 (w_lenSl (g_ff t2 (w_neq (pk_ff t2 (c_ff t3 ?_)))))))))))))))
    refine loopE_intro (fun mm e h' => ∃ i : Nat, i ≤ l.length ∧ mm = l.length - i ∧ e 2 = .pointer (some ⟨h.length, 0, none⟩) ∧ e 3 = .pointer (some ⟨h1.length, 0, none⟩) ∧ e 5 = .int .i64 (i : Nat) ∧ Ex h2 h') l.length
      ⟨0, Nat.zero_le _, rfl, rfl, rfl, rfl, Ex.refl _⟩ ?_
    rintro I mm e h3 ⟨i, hi, hmm, f2, f3, f5, x3⟩ ih
    rw [f2, f3, f5]
    have g1'' := x3.some g1'
    have g2'' := x3.some g2'
    have x03 := x12.trans x3
    refine w_offP (w_rdP g1'' (v := .slice a l.length c) rfl (w_lenSl (w_lss (c_dec (fun q => ?_) (fun q => kk _ x03)))))
    obtain ⟨m', hm'⟩ := getElem?_of_lt (l := l) (i := i) (by omega)
    obtain ⟨x, y, z, hc, mh⟩ := ML.get l cs ml i m' hm'
    obtain ⟨x', y', z', hc', mh'⟩ := ML.get l cs' ml' i m' hm'
    have hsz := sz_get l i m' hm'
    refine w_offP (w_rdP g1'' (v := .slice a l.length c) rfl (w_idx (sl.ex x03) (by omega) (by omega) fun p hp => ?_))
    have hp1 : PtrTo h3 p [x, y, z] := by rw [← hc]; rw [Int.toNat_natCast] at hp; exact hp
    refine w_rdA hp1 rfl ?_
    refine w_offP (w_rdP g2'' (v := .slice a' l.length c') rfl (w_idx (sl'.ex x03) (by omega) (by omega) fun p' hp' => ?_))
    have hp2 : PtrTo h3 p' [x', y', z'] := by rw [← hc']; rw [Int.toNat_natCast] at hp'; exact hp'
    refine w_rdA hp2 rfl ?_
    refine one46 N m' h3 _ _ _ (by omega) (by omega) (MH.mono (fun j hj => ⟨x03.get j hj, x03.lt hj⟩) m' _ mh) (MH.mono (fun j hj => ⟨x03.get j hj, x03.lt hj⟩) m' _ mh') fun h4 x4 => ?_
    refine w_notb (c_f (w_add (by omega) (by omega) ?_))
    exact ih (l.length - (i + 1)) _ _ (by omega) ⟨i + 1, by omega, rfl, f2, f3, rfl, x3.trans x4⟩
end Go.Proofs.Ytlenlhlipmkeeaa.W
end

section
/- Schema's laws: schemas that are the same. Conditions: none. -/
namespace Go.Proofs.Ytlenlhlipmkeeaa.W
open Go Go.AM SchM
set_option linter.unusedVariables false
set_option maxRecDepth 100000
def SM (h : AH) (x : W × List (W × Mdl)) (v : Value) : Prop :=
  ∃ a c cs, v = .agg #[.string (bs x.1), .slice a x.2.length c] ∧ Sl 4 h (.slice a x.2.length c) x.2.length cs ∧ EL h (fun j => j < h.length) x.2 cs
theorem SM.ex {h h' : AH} {x : W × List (W × Mdl)} {v : Value} (s : SM h x v) (e : Ex h h') : SM h' x v := by
  obtain ⟨a, c, cs, ev, sl, el⟩ := s
  exact ⟨a, c, cs, ev, sl.ex e, EL.mono (fun j hj => ⟨e.get j hj, e.lt hj⟩) _ _ el⟩
theorem SM.nil (h : AH) : SM h ([], []) (.agg #[.string (bs []), .slice none 0 0]) := ⟨none, 0, [], rfl, ⟨rfl, .inl ⟨rfl, rfl⟩⟩, rfl⟩
set_option maxHeartbeats 1000000 in
theorem same19 {h : AH} {x : W × List (W × Mdl)} {v w : Value} {K : Value → AH → Prop} (s1 : SM h x v) (s2 : SM h x w) (hz : ∀ e ∈ x.2, sz e.2 ≤ 1000000) (hl : x.2.length ≤ 1000000) (k : ∀ h', Ex h h' → K (.bool true) h') : callW Try.prog 19 [v, w] h K := by
  obtain ⟨root, l⟩ := x
  obtain ⟨a, c, cs, rfl, sl, el⟩ := s1
  obtain ⟨a', c', cs', rfl, sl', el'⟩ := s2
  dsimp only at sl el sl' el' hz hl
  refine c19 ?_
  unfold s19
  refine n_boxv rfl fun h1 x1 l1 g1 => ?_
  refine n_boxv rfl fun h2 x2 l2 g2 => ?_
  have g1' : h2[h.length]? = some (.row [.string (bs root), .slice a l.length c] true) := x2.some g1
  have g2' : h2[h1.length]? = some (.row [.string (bs root), .slice a' l.length c'] true) := g2
  have x12 := x1.trans x2
  have t1 : ¬ ¬ (root = root) := nn rfl
  have t3 : ¬ ¬ (((l.length : Nat) : Int) = (l.length : Nat)) := nn rfl
  refine w_offP (w_rdP g1' (v := .string (bs root)) rfl (w_offP (w_rdP g2' (v := .string (bs root)) rfl (w_sneq ?_))))
  refine g_ff t1 (w_offP (g_ff t1 (w_rdP g1' (v := .slice a l.length c) rfl (g_ff t1 (w_lenSl (g_ff t1 (w_offP (g_ff t1 (w_rdP g2' (v := .slice a' l.length c') rfl (g_ff t1 (w_lenSl (g_ff t1 (w_neq (pk_ff t1 (c_ff t3 ?_)))))))))))))))
  refine loopE_intro (fun mm e h' => ∃ i : Nat, i ≤ l.length ∧ mm = l.length - i ∧ e 2 = .pointer (some ⟨h.length, 0, none⟩) ∧ e 3 = .pointer (some ⟨h1.length, 0, none⟩) ∧ e 5 = .int .i64 (i : Nat) ∧ Ex h2 h') l.length
    ⟨0, Nat.zero_le _, rfl, rfl, rfl, rfl, Ex.refl _⟩ ?_
  rintro I mm e h3 ⟨i, hi, hmm, f2, f3, f5, x3⟩ ih
  rw [f2, f3, f5]
  have g1'' := x3.some g1'
  have g2'' := x3.some g2'
  have x03 := x12.trans x3
  refine w_offP (w_rdP g1'' (v := .slice a l.length c) rfl (w_lenSl (w_lss (c_dec (fun q => ?_) (fun q => k _ x03)))))
  obtain ⟨⟨nw, m⟩, hm⟩ := getElem?_of_lt (l := l) (i := i) (by omega)
  obtain ⟨k1, n1, a1, l1', c1, hc, mh⟩ := EL.get l cs el i _ hm
  obtain ⟨k2, n2, a2, l2', c2, hc', mh'⟩ := EL.get l cs' el' i _ hm
  have hsz := hz _ (List.mem_of_getElem? hm)
  have t2 : ¬ ¬ (nw = nw) := nn rfl
  refine w_offP (w_rdP g1'' (v := .slice a l.length c) rfl (w_idx (sl.ex x03) (by omega) (by omega) fun p hp => ?_))
  have hp1 : PtrTo h3 p [.string (bs nw), .int .i64 k1, .string (bs n1), .slice a1 l1' c1] := by rw [Int.toNat_natCast, hc] at hp; exact hp
  refine w_off hp1 (by show 0 ≤ 4; decide) fun p0 hp0 => w_rd1 hp0 rfl ?_
  refine w_offP (w_rdP g2'' (v := .slice a' l.length c') rfl (w_idx (sl'.ex x03) (by omega) (by omega) fun q hq => ?_))
  have hq1 : PtrTo h3 q [.string (bs nw), .int .i64 k2, .string (bs n2), .slice a2 l2' c2] := by rw [Int.toNat_natCast, hc'] at hq; exact hq
  refine w_off hq1 (by show 0 ≤ 4; decide) fun q0 hq0 => w_rd1 hq0 rfl ?_
  refine w_sneq ?_
  refine gd_ff t2 (w_offP (gd_ff t2 (hist_nil (w_rdP g1'' (v := .slice a l.length c) rfl (gd_ff t2 (gd_ff t2 (w_idx (sl.ex x03) (by omega) (by omega) fun p2 hp2 => ?_)))))))
  have hp3 : PtrTo h3 p2 [.string (bs nw), .int .i64 k1, .string (bs n1), .slice a1 l1' c1] := by rw [Int.toNat_natCast, hc] at hp2; exact hp2
  refine gd_ff t2 (w_off hp3 (by show 1 ≤ 4; decide) fun p4 hp4 => gd_ff t2 (hist_nil (w_rdA hp4 rfl ?_)))
  refine gd_ff t2 (w_offP (gd_ff t2 (hist_nil (w_rdP g2'' (v := .slice a' l.length c') rfl (gd_ff t2 (gd_ff t2 (w_idx (sl'.ex x03) (by omega) (by omega) fun q2 hq2 => ?_)))))))
  have hq3 : PtrTo h3 q2 [.string (bs nw), .int .i64 k2, .string (bs n2), .slice a2 l2' c2] := by rw [Int.toNat_natCast, hc'] at hq2; exact hq2
  refine gd_ff t2 (w_off hq3 (by show 1 ≤ 4; decide) fun q4 hq4 => gd_ff t2 (hist_nil (w_rdA hq4 rfl ?_)))
  refine gd_ff t2 ?_
  refine one46 1000000 m h3 _ _ _ hsz (Nat.le_refl _) (MH.mono (fun j hj => ⟨x03.get j hj, x03.lt hj⟩) m _ mh) (MH.mono (fun j hj => ⟨x03.get j hj, x03.lt hj⟩) m _ mh') fun h4 x4 => ?_
  refine read_all ?_ fun t ht y hy => ?_
  · refine gd_ff t2 (w_notb (pk_ff t2 (c_f (w_add (by omega) (by omega) ?_))))
    exact ih (l.length - (i + 1)) _ _ (by omega) ⟨i + 1, by omega, rfl, f2, f3, rfl, x3.trans x4⟩
  · simp only [List.mem_cons, List.not_mem_nil, or_false] at ht
    rcases ht with rfl | rfl | rfl | rfl | rfl | rfl | rfl | rfl
    · exact PtrTo.ids hq4 (Ex.refl _) x4 y hy
    · exact ptr_id (x4.get _ (lt_of_get g2'')) y hy
    · exact PtrTo.ids hp4 (Ex.refl _) x4 y hy
    · exact ptr_id (x4.get _ (lt_of_get g1'')) y hy
    · exact PtrTo.ids hq0 (Ex.refl _) x4 y hy
    · exact ptr_id (x4.get _ (lt_of_get g2'')) y hy
    · exact PtrTo.ids hp0 (Ex.refl _) x4 y hy
    · exact ptr_id (x4.get _ (lt_of_get g1'')) y hy
end Go.Proofs.Ytlenlhlipmkeeaa.W
end

section
/- SchemaReads: texts that are read both ways. Conditions: none. -/
namespace Go.Proofs.Ytlenlhlipmkeeaa.W
open Go Go.AM SchM
set_option linter.unusedVariables false
set_option maxRecDepth 100000
def plainOf : R (W × List (W × Mdl)) → W × List (W × Mdl)
  | .ok x _ => x
  | .bad _ _ => ([], [])
theorem PR.both {h0 h' : AH} {r : R (W × List (W × Mdl))} {v : Value} (p : PR h0 h' r v) : ∃ a l c, v = .tuple #[.agg #[.string (bs (plainOf r).1), .slice a l c], .int .i64 (atOf r : Nat), .int .i64 (erOf r)] ∧ SM h' (plainOf r) (.agg #[.string (bs (plainOf r).1), .slice a l c]) := by
  cases r with
  | bad e a => exact ⟨none, 0, 0, p, SM.nil _⟩
  | ok x q =>
    obtain ⟨a, c, cs, rfl, sl, el⟩ := p
    exact ⟨a, x.2.length, c, rfl, ⟨a, c, cs, rfl, sl, EL.mono (fun j hj => ⟨rfl, hj.2⟩) _ _ el⟩⟩
theorem elems_sz {s : W} : ∀ (n p : Nat) (l l' : List (W × Mdl)) (q : Nat), p ≤ s.length → (∀ e ∈ l, sz e.2 ≤ s.length) → l.length ≤ 8 → elems s n p l = .ok l' q → (∀ e ∈ l', sz e.2 ≤ s.length) ∧ l'.length ≤ 8
  | 0, p, l, l', q, _, h1, h2, h => by
    cases h
    exact ⟨h1, h2⟩
  | n + 1, p, l, l', q, hp, h1, h2, h => by
    rw [elems] at h
    split at h
    · split at h
      · cases h
      · rename_i x q' hx
        have l1 := adv_le s p hp
        have l2 := (elem_up l1 hx).2
        have lt := elem_lt hx
        rw [List.length_map] at lt
        refine elems_sz n q' (l ++ [x]) l' q l2 (fun e he => ?_) (by simp; omega) h
        rcases List.mem_append.1 he with he | he
        · exact h1 e he
        · rw [List.mem_singleton.1 he]
          exact elem_sm l1 hx
    · split at h
      · cases h
        exact ⟨h1, h2⟩
      · cases h
theorem parse_sz {s : W} : (∀ e ∈ (plainOf (parse s)).2, sz e.2 ≤ s.length) ∧ (plainOf (parse s)).2.length ≤ 8 ∧ ((plainOf (parse s)).2 = [] ∨ s.length ≤ 2000) := by
  have nil : ∀ e a, (∀ x ∈ (plainOf (.bad e a)).2, sz x.2 ≤ s.length) ∧ (plainOf (.bad e a)).2.length ≤ 8 ∧ ((plainOf (.bad e a)).2 = [] ∨ s.length ≤ 2000) := fun e a => ⟨fun x hx => (by simp [plainOf] at hx), by simp [plainOf], .inl rfl⟩
  unfold parse
  split
  · exact nil _ _
  rename_i h2
  split
  · split
    · split
      · have hp := (skip_le s 0 (Nat.zero_le _)).2
        cases he : elems s (s.length + 1) (adv s (adv s (adv s (skip s 0)))) [] with
        | bad e a => exact nil _ _
        | ok l q =>
          have := elems_sz _ _ _ _ _ (adv_le s _ (adv_le s _ (adv_le s _ hp))) (fun e h => by cases h) (by decide) he
          unfold finish
          dsimp only
          split
          · exact ⟨this.1, this.2, .inr (by omega)⟩
          · exact nil _ _
      · exact nil _ _
    · exact nil _ _
  · exact nil _ _
set_option maxHeartbeats 1000000 in
theorem reads_loop {h : AH} {ts : List W} {v : Value} {e0 : Env} {K : Value → AH → Prop} (hs : Strs h v ts) (hn : ts.length ≤ 1000) (hl : ∀ t ∈ ts, t.length < 1000000000) (f22 : e0 22 = v) (f23 : e0 23 = .int .i64 0) (k : ∀ h', K (.bool true) h') :
              loopE (fun I_2 e_2 h_16 =>
                optW (lenSl (e_2 22)) fun v127 =>
                optW (pBin Try.prog .lss 3 (e_2 23) v127) fun v128 =>
                condW v128 (
                  optW (pIdxS 1 (e_2 22) (e_2 23)) fun v134 =>
                  optW (rdRow false 1 v134 h_16) fun v135 =>
                  callW Try.prog 17 [v135] h_16 fun v136 h_17 =>
                  optW (pExtract v136 0) fun v137 =>
                  optW (pExtract v136 1) fun v138 =>
                  optW (pExtract v136 2) fun v139 =>
                  newR none [(.string (bs [])), (.slice none 0 0)] h_17 fun v24 h_18 =>
                  optW (pStore 2 v24 v137 h_18) fun h_19 =>
                  optW (pIdxS 1 (e_2 22) (e_2 23)) fun v143 =>
                  optW (rdRow false 1 v143 h_19) fun v144 =>
                  callW Try.prog 18 [v144] h_19 fun v145 h_20 =>
                  optW (pExtract v145 0) fun v146 =>
                  optW (pExtract v145 1) fun v147 =>
                  optW (pExtract v145 2) fun v148 =>
                  newR none [(.string (bs [])), (.slice none 0 0)] h_20 fun v27 h_21 =>
                  optW (pStore 2 v27 v146 h_21) fun h_22 =>
                  optW (pBin Try.prog .neq 3 v139 v148) fun v151 =>
                  gopW (gB v151 false) (fun k_3 =>
                    k_3 v138 h_22) h_22 fun v153 h_23 =>
                  gopW (gB v151 false) (fun k_4 =>
                    k_4 v147 h_23) h_23 fun v154 h_24 =>
                  gopW (gB v151 false) (fun k_5 =>
                    optW (pBin Try.prog .neq 3 v153 v154) fun v155_1 =>
                    k_5 v155_1 h_24) h_24 fun v155 h_25 =>
                  optW (pPick v151 (.bool true) v155) fun v156 =>
                  gopW (gB v156 false) (fun k_6 =>
                    optW (rdRow true 2 v24 h_25) fun v158_1 =>
                    k_6 v158_1 h_25) h_25 fun v158 h_26 =>
                  gopW (gB v156 false) (fun k_7 =>
                    optW (rdRow true 2 v27 h_26) fun v159_1 =>
                    k_7 v159_1 h_26) h_26 fun v159 h_27 =>
                  gopW (gB v156 false) (fun k_8 =>
                    callW Try.prog 19 [v158, v159] h_27 fun v160_1 h_29 =>
                    k_8 v160_1 h_29) h_27 fun v160 h_28 =>
                  gopW (gB v156 false) (fun k_9 =>
                    optW (pUn .not v160) fun v161_1 =>
                    k_9 v161_1 h_28) h_28 fun v161 h_30 =>
                  optW (pPick v156 (.bool true) v161) fun v162 =>
                  condW v162 (
                    K (.bool false) h_30
                  ) (
                    optW (pBin Try.prog .add 3 (e_2 23) (.int .i64 1)) fun v130 =>
                    I_2 (pt (pt (pt (pt (pt (pt (pt (pt (pt (pt (pt (pt (pt (pt (pt (pt (pt (pt (pt (pt (pt (pt (pt (pt (pt (pt (pt (pt (pt (pt (pt (pt (pt (pt (pt (pt (pt (pt (pt (pt (pt (pt (pt (pt (pt e_2 125 (e_2 23)) 126 (e_2 22)) 127 v127) 128 v128) 132 (e_2 22)) 133 (e_2 23)) 134 v134) 135 v135) 136 v136) 131 v136) 137 v137) 138 v138) 139 v139) 24 v24) 25 v138) 26 v139) 141 (e_2 22)) 142 (e_2 23)) 143 v143) 144 v144) 145 v145) 140 v145) 146 v146) 147 v147) 148 v148) 27 v27) 28 v147) 29 v148) 149 v139) 150 v148) 151 v151) 152 v151) 153 v153) 154 v154) 155 v155) 156 v156) 157 v156) 158 v158) 159 v159) 160 v160) 161 v161) 162 v162) 129 (e_2 23)) 130 v130) 23 v130) h_30)
                ) (
                  K (.bool true) h_16))
        e0 h := by
  refine loopE_intro (fun m e h' => ∃ i : Nat, i ≤ ts.length ∧ m = ts.length - i ∧ e 22 = v ∧ e 23 = .int .i64 (i : Nat) ∧ Ex h h') ts.length
    ⟨0, Nat.zero_le _, rfl, f22, f23, Ex.refl _⟩ ?_
  clear f22 f23
  rintro I m e h1 ⟨i, hi, hm, f22, f23, x1⟩ ih
  rw [f22, f23]
  refine w_len (hs.ex x1) (w_lss (c_dec (fun q => ?_) (fun q => k _)))
  obtain ⟨t, ht⟩ := getElem?_of_lt (l := ts) (i := i) (by omega)
  have htl := hl t (List.mem_of_getElem? ht)
  refine w_idxN (enc := eS) eS_len (hs.ex x1) ht fun p hp => w_rd1 hp rfl ?_
  refine parse17 htl fun h2 v2 x2 r2 => ?_
  obtain ⟨a, l, c, rfl, s2⟩ := r2.both
  refine w_some rfl (w_some rfl (w_some rfl ?_))
  refine n_rowv fun h3 x3 l3 g3 => w_stPA g3 rfl (Nat.le_refl 2) rfl ?_
  have g4 : (h3.set h2.length (.row (spliceL [.string (bs []), .slice none 0 0] 0 (cellsL (.agg #[.string (bs (plainOf (parse t)).1), .slice a l c]))) true))[h2.length]? = some (.row [.string (bs (plainOf (parse t)).1), .slice a l c] true) := get_set _ (lt_of_get g3) _
  have x4 : Ex h2 (h3.set h2.length (.row (spliceL [.string (bs []), .slice none 0 0] 0 (cellsL (.agg #[.string (bs (plainOf (parse t)).1), .slice a l c]))) true)) := x3.set (Nat.le_refl _) _
  generalize h3.set h2.length _ = h4 at *
  have x14 := x1.trans (x2.trans x4)
  refine w_idxN (enc := eS) eS_len (hs.ex x14) ht fun p' hp' => w_rd1 hp' rfl ?_
  refine parse18 htl fun h5 v5 x5 r5 => ?_
  obtain ⟨a', l', c', rfl, s5⟩ := r5.both
  refine w_some rfl (w_some rfl (w_some rfl ?_))
  refine n_rowv fun h6 x6 l6 g6 => w_stPA g6 rfl (Nat.le_refl 2) rfl ?_
  have g7 : (h6.set h5.length (.row (spliceL [.string (bs []), .slice none 0 0] 0 (cellsL (.agg #[.string (bs (plainOf (parse t)).1), .slice a' l' c']))) true))[h5.length]? = some (.row [.string (bs (plainOf (parse t)).1), .slice a' l' c'] true) := get_set _ (lt_of_get g6) _
  have x7 : Ex h5 (h6.set h5.length (.row (spliceL [.string (bs []), .slice none 0 0] 0 (cellsL (.agg #[.string (bs (plainOf (parse t)).1), .slice a' l' c']))) true)) := x6.set (Nat.le_refl _) _
  generalize h6.set h5.length _ = h7 at *
  have t1 : ¬ ¬ (erOf (parse t) = erOf (parse t)) := nn rfl
  have t2 : ¬ ¬ (((atOf (parse t) : Nat) : Int) = (atOf (parse t) : Nat)) := nn rfl
  have pz := parse_sz (s := t)
  refine w_neq (g_ff t1 (g_ff t1 (g_ff t1 (w_neq (pk_ff t1 ?_)))))
  refine g_ff t2 (w_rdPA ((x5.trans x7).some g4) (Nat.le_refl 2) (g_ff t2 (w_rdPA g7 (Nat.le_refl 2) (g_ff t2 ?_))))
  refine same19 (s2.ex (x4.trans (x5.trans x7))) (s5.ex x7) (fun e he => ?_) (by have := pz.2.1; omega) fun h8 x8 => ?_
  · rcases pz.2.2 with hz | hz
    · rw [hz] at he; cases he
    · have := pz.1 e he; omega
  · refine g_ff t2 (w_notb (pk_ff t2 (c_f (w_add (by omega) (by omega) ?_))))
    exact ih (ts.length - (i + 1)) _ _ (by omega) ⟨i + 1, by omega, rfl, f22, rfl, x14.trans (x5.trans (x7.trans x8))⟩
end Go.Proofs.Ytlenlhlipmkeeaa.W
end

section
/- SchemaReads: the walk, but for the function that turns a byte. Conditions: its contract. -/
namespace Go.Proofs.Ytlenlhlipmkeeaa.W
open Go Go.AM SchM
set_option linter.unusedVariables false
set_option maxRecDepth 100000
theorem bld18 : bldSl 1 [(.string (bs []))] 18 [(0, (.string (bs [32]))), (1, (.string (bs [10]))), (2, (.string (bs [59]))), (3, (.string (bs [40]))), (4, (.string (bs [41]))), (5, (.string (bs [42]))), (6, (.string (bs [43]))), (7, (.string (bs [63]))), (8, (.string (bs [44]))), (9, (.string (bs [124]))), (10, (.string (bs [61]))), (11, (.string (bs [97]))), (12, (.string (bs [97, 110, 121]))), (13, (.string (bs [101, 108, 101, 109, 101, 110, 116, 32, 97, 32, 61, 32, 98, 59]))), (14, (.string (bs [114, 111, 111, 116]))), (15, (.string (bs [101, 109, 112, 116, 121]))), (16, (.string (bs [101, 108, 101, 109, 101, 110, 116]))), (17, (.string (bs [97, 98, 99, 100, 101, 102, 103, 104, 105])))] =
    some (flat eS [[32], [10], [59], [40], [41], [42], [43], [63], [44], [124], [61], [97], [97, 110, 121], [101, 108, 101, 109, 101, 110, 116, 32, 97, 32, 61, 32, 98, 59], [114, 111, 111, 116], [101, 109, 112, 116, 121], [101, 108, 101, 109, 101, 110, 116], [97, 98, 99, 100, 101, 102, 103, 104, 105]]) := by kernel_rfl
theorem bld12 (b0 b1 b2 b3 b4 b5 b6 b7 b8 b9 b10 b11 : W) : bldSl 1 [(.string (bs []))] 12 [(0, .string (bs b0)), (1, .string (bs b1)), (2, .string (bs b2)), (3, .string (bs b3)), (4, .string (bs b4)), (5, .string (bs b5)), (6, .string (bs b6)), (7, .string (bs b7)), (8, .string (bs b8)), (9, .string (bs b9)), (10, .string (bs b10)), (11, .string (bs b11))] = some (flat eS [b0, b1, b2, b3, b4, b5, b6, b7, b8, b9, b10, b11]) := by kernel_rfl
theorem cat_eq9 {l m : W} (h1 : l.length + m.length < 9223372036854775808) : pBin Try.prog .add 9 (.string (bs l)) (.string (bs m)) = some (.string (bs (l ++ m))) := hopt (w_cat h1 rfl)
theorem drop_eq9 {l : W} {j : Int} (h0 : 0 ≤ j) (h1 : j ≤ (l.length : Nat)) : pSliceStr (.string (bs l)) (some (.int .i64 j)) none = some (.string (bs (l.drop j.toNat))) := hopt (w_dropStr h0 h1 rfl)
def Turned16 : Prop := ∀ (h : AH) (s : W) (a : Int) (b : Int) (K : Value → AH → Prop), s.length ≤ 1000000 → 0 ≤ b ∧ b ≤ 255 → (∀ h' s', Ex h h' → s'.length ≤ 1000000 → K (.string (bs s')) h') → callW Try.prog 16 [.string (bs s), .int .i64 a, .int .u8 b] h K
set_option maxHeartbeats 1000000 in
theorem reads3 (hT : Turned16) (h : AH) (size : Int) (v1 : Value) (ns : List Int) (i1 : Ints h v1 ns) (at_ : Int) (by_ : Int) (hby : 0 ≤ by_ ∧ by_ ≤ 255) (cut : Int) (more : W) (hmo : more.length ≤ maxLen) (raw : W) (hra : raw.length ≤ maxLen) (hm : h.length = 1) :
    callW Try.prog 3 [.int .i64 size, v1, .int .i64 at_, .int .u8 by_, .int .i64 cut, .string (bs more), .string (bs raw)] h fun v _ => v = .bool true := by
  refine c3 ?_
  unfold s3
  refine known12 (.inr (.inl hm)) fun h1 x1 => w_notb (c_f ?_)
  refine w_lenStr (w_gtr ?_)
  by_cases q1 : (40 : Int) < (more.length : Nat)
  · exact g_ft q1 (g_ft q1 (g_ft q1 (pk_tt q1 (c_t rfl))))
  refine g_ff q1 (g_ff q1 (w_lenStr (g_ff q1 (w_gtr (pk_ff q1 (c_dec (fun _ => rfl) (fun q2 => ?_)))))))
  refine make14 (d := 3) (i1.ex x1) (by decide) fun v19 h2 x2 sh => ?_
  have mk := make_ok size ns 3
  generalize make size ns 3 = x at *
  have hl := mk.len
  have p3 : (4 : Nat) ^ 3 = 64 := by decide
  have p4 : (4 : Nat) ^ (3 + 1) = 256 := by decide
  have l5 := mk.l
  refine text13 sh (fun e he => ?_) (by omega) (by omega) fun h5 x5 => ?_
  · obtain ⟨nm, g⟩ := mk.g e he
    have := g.s
    rw [p4] at this
    exact ⟨g.okt, by omega⟩
  generalize text x = t at *
  refine w_lenStr (w_add (by omega) (by omega) ?_)
  refine within15 _ _ _ _ (by omega) (by omega) ?_
  have k0 := Int.emod_nonneg cut (show (((t.length : Nat) : Int) + 1) ≠ 0 by omega)
  have k1 := Int.emod_lt_of_pos cut (show (0 : Int) < ((t.length : Nat) : Int) + 1 by omega)
  generalize cut % (((t.length : Nat) : Int) + 1) = kk at *
  rw [bld18, optW_so]
  refine n_newv fun h8 x8 l8 g8 => ?_
  have sl := strsAt (n := 18) g8 rfl (by decide)
  refine within15 _ _ _ _ (by decide) (by decide) ?_
  have a0 := Int.emod_nonneg at_ (show (18 : Int) ≠ 0 by decide)
  have a1 := Int.emod_lt_of_pos at_ (show (0 : Int) < 18 by decide)
  obtain ⟨ws, hws⟩ : ∃ ws : List W, ws = [[32], [10], [59], [40], [41], [42], [43], [63], [44], [124], [61], [97], [97, 110, 121], [101, 108, 101, 109, 101, 110, 116, 32, 97, 32, 61, 32, 98, 59], [114, 111, 111, 116], [101, 109, 112, 116, 121], [101, 108, 101, 109, 101, 110, 116], [97, 98, 99, 100, 101, 102, 103, 104, 105]] := ⟨_, rfl⟩
  rw [← hws] at sl
  have wl : ws.length = 18 := by rw [hws]; rfl
  have wb : ∀ w ∈ ws, w.length ≤ 20 := by rw [hws]; decide
  clear hws
  obtain ⟨lay, hlay⟩ := getElem?_of_lt (l := ws) (i := (at_ % 18).toNat) (by omega)
  have layl := wb lay (List.mem_of_getElem? hlay)
  refine w_idxT (enc := eS) eS_len sl a0 hlay fun p hp => w_rd1 hp rfl ?_
  refine loopE_intro (fun m e h' => ∃ (i : Nat) (mn : W), i ≤ 11 ∧ m = 11 - i ∧ e 2 = .int .i64 at_ ∧ e 3 = .int .u8 by_ ∧ e 5 = .string (bs more) ∧ e 6 = .string (bs raw) ∧ e 15 = .string (bs t) ∧ e 16 = .int .i64 kk ∧ e 17 = .string (bs lay) ∧ e 18 = .string (bs mn) ∧ mn.length ≤ 100 * i + 10 ∧ e 19 = .int .i64 (i : Nat) ∧ Ex h8 h') 11
    ⟨0, [114, 111, 111, 116, 32, 97, 59], Nat.zero_le _, rfl, rfl, rfl, rfl, rfl, rfl, rfl, rfl, rfl, by decide, rfl, Ex.refl _⟩ ?_
  rintro I m e h10 ⟨i, mn, hi, hmm, f2, f3, f5, f6, f15, f16, f17, f18, mnl, f19, x10⟩ ih
  rw [f2, f18, f19]
  have b0 := Int.emod_nonneg at_ (show (4 : Int) ≠ 0 by decide)
  have b1 := Int.emod_lt_of_pos at_ (show (0 : Int) < 4 by decide)
  refine within15 _ _ _ _ (by decide) (by decide) (w_add (by omega) (by omega) (w_lss (c_dec (fun q => ?_) (fun q => ?_))))
  · refine w_cat (by simp; omega) (w_add (by omega) (by omega) ?_)
    refine w_subStr (by omega) (by omega) (by simp; omega) ?_
    refine w_cat (by simp; omega) (w_cat (by simp; omega) (w_add (by omega) (by omega) ?_))
    refine ih (11 - (i + 1)) _ _ (by omega) ⟨i + 1, _, by omega, rfl, f2, f3, f5, f6, f15, f16, f17, rfl, ?_, rfl, x10⟩
    simp
    omega
  · refine loopE_intro (fun m e h' => ∃ (j : Nat) (dp : W), j ≤ 30 ∧ m = 30 - j ∧ e 2 = .int .i64 at_ ∧ e 3 = .int .u8 by_ ∧ e 5 = .string (bs more) ∧ e 6 = .string (bs raw) ∧ e 15 = .string (bs t) ∧ e 16 = .int .i64 kk ∧ e 17 = .string (bs lay) ∧ e 18 = .string (bs mn) ∧ e 20 = .string (bs dp) ∧ dp.length ≤ j ∧ e 21 = .int .i64 (j : Nat) ∧ Ex h8 h') 30
      ⟨0, [], Nat.zero_le _, rfl, f2, f3, f5, f6, f15, f16, f17, f18, rfl, Nat.le_refl _, rfl, x10⟩ ?_
    clear ih hmm q f2 f3 f5 f6 f15 f16 f17 f18 f19 x10
    clear I m e h10
    rintro I m e h13 ⟨j, dp, hj, hmm, f2, f3, f5, f6, f15, f16, f17, f18, f20, dpl, f21, x13⟩ ih
    rw [f2, f3, f5, f6, f15, f16, f17, f18, f20, f21]
    have b2 := Int.emod_nonneg at_ (show (5 : Int) ≠ 0 by decide)
    have b3 := Int.emod_lt_of_pos at_ (show (0 : Int) < 5 by decide)
    refine within15 _ _ _ _ (by decide) (by decide) (w_add (by omega) (by omega) (w_lss (c_dec (fun q => ?_) (fun q => ?_))))
    · refine w_cat (by simp; omega) (w_add (by omega) (by omega) ?_)
      refine ih (30 - (j + 1)) _ _ (by omega) ⟨j + 1, _, by omega, rfl, f2, f3, f5, f6, f15, f16, f17, f18, rfl, ?_, rfl, x13⟩
      simp
      omega
    · refine hT _ t at_ by_ _ (by omega) hby fun h14 s1 x14 s1l => ?_
      have kt : kk ≤ (t.length : Nat) := by omega
      have tk : ∀ (K : Value → Prop), K (.string (bs (t.take kk.toNat))) → optW (pSliceStr (.string (bs t)) none (some (.int .i64 kk))) K := fun K hk => w_takeStr k0 kt hk
      have dk : ∀ (K : Value → Prop), K (.string (bs (t.drop kk.toNat))) → optW (pSliceStr (.string (bs t)) (some (.int .i64 kk)) none) K := fun K hk => w_dropStr k0 kt hk
      have e1 : (t.take kk.toNat).length ≤ 7000 := by rw [List.length_take]; omega
      have e2 : (t.drop kk.toNat).length ≤ 7000 := by rw [List.length_drop]; omega
      refine tk _ (tk _ (w_cat (by omega) (dk _ (w_cat (by simp only [List.length_append]; omega) (tk _ (w_cat (by omega) (dk _ (w_cat (by simp only [List.length_append]; omega) (w_cat (by omega) (w_cat (by omega) (w_lenStr ?_)))))))))))
      obtain ⟨mi, hmi⟩ : ∃ mi : Int, mi = if (7 : Int) < (t.length : Nat) then 7 else ((t.length : Nat) : Int) := ⟨_, rfl⟩
      have mi0 : 0 ≤ mi ∧ mi ≤ (t.length : Nat) := by rw [hmi]; split <;> omega
      have hmx : pMax2 false (.int .i64 (t.length : Nat)) (.int .i64 7) = some (.int .i64 mi) := by rw [hmi]; rfl
      have e3 : (t.drop mi.toNat).length ≤ 7000 := by rw [List.length_drop]; omega
      rw [hmx, optW_so, drop_eq9 mi0.1 mi0.2, optW_so, cat_eq9 (l := t) (by omega), optW_so, cat_eq9 (m := raw) (by simp; omega), optW_so, cat_eq9 (m := dp) (by simp; omega), optW_so, cat_eq9 (l := mn) (by simp; omega), optW_so, bld12, optW_so]
      have lr : (reserve 1 h13).length = h13.length + 1 := by rw [reserve_one]; simp
      have l14 := x14.len
      obtain ⟨ts, hts⟩ : ∃ ts : List W, ts = [s1, t.take kk.toNat, t.take kk.toNat ++ more ++ t.drop kk.toNat, raw, t.take kk.toNat ++ lay ++ t.drop kk.toNat, t ++ lay, lay ++ t, t ++ t.drop mi.toNat, [114, 111, 111, 116, 32, 97, 59, 101, 108, 101, 109, 101, 110, 116, 32, 97, 61] ++ raw, mn, [114, 111, 111, 116, 32, 97, 59, 101, 108, 101, 109, 101, 110, 116, 32, 97, 61] ++ dp, mn ++ [101, 108, 101, 109, 101, 110, 116, 32, 97, 61, 98, 59]] := ⟨_, rfl⟩
      rw [← hts]
      have tl : ts.length = 12 := by rw [hts]; rfl
      have tb : ∀ w ∈ ts, w.length < 1000000000 := by
        intro w hw
        rw [hts] at hw
        simp only [List.mem_cons, List.not_mem_nil, or_false] at hw
        rcases hw with rfl | rfl | rfl | rfl | rfl | rfl | rfl | rfl | rfl | rfl | rfl | rfl
        all_goals first | omega | (simp only [List.length_append, List.length_cons, List.length_nil]; omega)
      clear hts
      refine n_slot ?_
      have hS : Strs (h14.set h13.length (.row (flat eS ts) true)) (.slice (some ⟨h13.length, 0, none⟩) 12 12) ts := strsAt (get_set _ (by omega) _) tl.symm (by omega)
      generalize h14.set h13.length (.row (flat eS ts) true) = h15 at *
      refine reads_loop (K := fun v _ => v = .bool true) hS (by omega) tb ?_ ?_ (fun _ => rfl)
      · rfl
      · rfl
end Go.Proofs.Ytlenlhlipmkeeaa.W
end

section
/- The law's 'turned' on the abstract machine; SchemaReads whole. Conditions: none. -/
namespace Go.Proofs.Ytlenlhlipmkeeaa.W
open Go Go.AM SchM
set_option maxRecDepth 100000
theorem turned16 : Turned16 := fun h s a b K hs hb k => by
  refine callW_step (.inl (.inr ⟨fun v => ∃ s' : List UInt8, s'.length ≤ 1000000 ∧ v = .string (bs s'), ⟨⟨_, _, Try.func16, rfl, rfl⟩, ?_, ⟨_, s, hs, rfl⟩, ?_, fun w => turned_kit s hs a b w⟩, ?_⟩))
  · intro x hx
    simp only [List.mem_cons, List.not_mem_nil, or_false] at hx
    rcases hx with rfl | rfl | rfl <;> rfl
  · rintro v ⟨s', _, rfl⟩
    rfl
  · rintro v ⟨s', hl, rfl⟩
    exact k h s' (.refl h) hl
theorem schemaReads_walk (h : AH) (size : Int) (_ : -9223372036854775808 ≤ size ∧ size ≤ 9223372036854775807) (v1 : Value) (ns : List Int) (i1 : Ints h v1 ns) (_ : ∀ n ∈ ns, -9223372036854775808 ≤ n ∧ n ≤ 9223372036854775807) (at_ : Int) (_ : -9223372036854775808 ≤ at_ ∧ at_ ≤ 9223372036854775807) (by_ : Int) (hby : 0 ≤ by_ ∧ by_ ≤ 255) (cut : Int) (_ : -9223372036854775808 ≤ cut ∧ cut ≤ 9223372036854775807) (more : W) (hmo : more.length ≤ maxLen) (raw : W) (hra : raw.length ≤ maxLen) (hm : h.length = 1) :
    callW Try.prog 3 [.int .i64 size, v1, .int .i64 at_, .int .u8 by_, .int .i64 cut, .string (bs more), .string (bs raw)] h fun v _ => v = .bool true :=
  reads3 turned16 h size v1 ns i1 at_ by_ hby cut more hmo raw hra hm
end Go.Proofs.Ytlenlhlipmkeeaa.W
end
