/- Parts of a proof, joined by a program. Conditions: none. -/
import Derived.Test.YtlenlhlipmkeeaaRB2
import Derived.Test.YtlenlhlipmkeeaaRS0
import Derived.Test.YtlenlhlipmkeeaaRA2

section
/- Schema's laws: the program's Parse: how a schema is read. Conditions: none. -/
namespace Go.Proofs.Ytlenlhlipmkeeaa.W
open Go Go.AM SchM
set_option linter.unusedVariables false
set_option maxRecDepth 100000
def PR (h0 h' : AH) (r : R (W × List (W × Mdl))) (v : Value) : Prop :=
  match r with
  | .bad e a => v = .tuple #[.agg #[.string (bs []), .slice none 0 0], .int .i64 (a : Nat), .int .i64 e]
  | .ok x _ => ∃ a c cs, v = .tuple #[.agg #[.string (bs x.1), .slice a x.2.length c], .int .i64 0, .int .i64 0] ∧ Sl 4 h' (.slice a x.2.length c) x.2.length cs ∧ EL h' (fun j => h0.length ≤ j ∧ j < h'.length) x.2 cs
def ER (h4 : AH) (T X O : Nat) (s : W) (h : AH) : Prop := ∃ F er a w vl, PE h X F s 0 er a ∧ (∀ j, F j → j < h.length) ∧ BS h4 T X O h F w vl ∧ parse s = .bad er a
theorem ER.ex {h4 h h' : AH} {T X O : Nat} {s : W} (r : ER h4 T X O s h) (x : Ex h h') : ER h4 T X O s h' := by
  obtain ⟨F, er, a, w, vl, r, fb, b, hp⟩ := r
  exact ⟨F, er, a, w, vl, r.ex x, fun j hj => x.lt (fb j hj), b.ex x, hp⟩
theorem errEnd {h0 h4 h : AH} {T X O : Nat} {s : W} {E : Value → Value → Value → Value → Value → Value → Value → Env} {K : Value → AH → Prop} (b4 : B4 h0 h4 T X O) (r : ER h4 T X O s h) (e2 : ∀ a b c d e f g, E a b c d e f g 2 = .pointer (some ⟨T, 0, none⟩)) (e3 : ∀ a b c d e f g, E a b c d e f g 3 = d) (e4 : ∀ a b c d e f g, E a b c d e f g 4 = g) (k : ∀ h' v, Ex h0 h' → PR h0 h' (parse s) v → K v h') :
    optW (bld [(.string (bs [])), (.slice none 0 0)] [(0, 1), (1, 1)] []) fun v75 => optW (pNilCheck (.pointer (some ⟨X, 0, none⟩))) fun v77 => optW (pOff 7 v77) fun v78 => optW (rdRow false 1 v78 h) fun v79 => optW (pNilCheck (.pointer (some ⟨X, 0, none⟩))) fun v81 => optW (pOff 6 v81) fun v82 => optW (rdRow false 1 v82 h) fun v83 => optW (pStore 2 (.pointer (some ⟨T, 0, none⟩)) v75 h) fun h_17 =>
      (∀ x ∈ (ceOf 1 v82), vw x (h) = vw x (h_17)) ∧ (∀ x ∈ (ceOf 1 v78), vw x (h) = vw x (h_17)) ∧ optW (resList Try.prog (E v75 v77 v78 v79 v81 v82 v83) h_17 Try.f17.results.toList) fun vs => K (resOf vs) h_17 := by
  obtain ⟨F, er, a, w, vl, r, fb, b, hp⟩ := r
  obtain ⟨wE, frE, atE, cE, vnE, gE, oE⟩ := r.row
  refine w_some (v := .agg #[.string (bs []), .slice none 0 0]) rfl ?_
  refine w_nilc (w_offP (w_rdP gE (v := .int .i64 a) rfl (w_nilc (w_offP (w_rdP gE (v := .int .i64 er) rfl ?_)))))
  have gT := b.t b4
  refine w_stPA gT rfl (Nat.le_refl 2) rfl ?_
  refine ⟨ptr_id (get_ne b4.tX _), ptr_id (get_ne b4.tX _), ?_⟩
  refine endP (r := T) (h0 := h) (w := []) (a := none) (l := 0) (c := 0) (e2 _ _ _ _ _ _ _) (e3 _ _ _ _ _ _ _) (e4 _ _ _ _ _ _ _) rfl (lt_of_get gT) ?_
  refine k _ _ ((b.toEx b4).set b4.bT _) ?_
  rw [hp]
  rfl
theorem callK {f : FuncId} {args : List Value} {h : AH} {K K' : Value → AH → Prop} (hk : callW Try.prog f args h K) (hm : ∀ v h, K v h → K' v h) : callW Try.prog f args h K' := callW_mono _ _ _ _ _ hm hk
set_option maxHeartbeats 400000 in
theorem parse17 {h : AH} {s : W} {K : Value → AH → Prop} (hl : s.length < 1000000000) (k : ∀ h' v, Ex h h' → PR h h' (parse s) v → K v h') : callW Try.prog 17 [.string (bs s)] h K := by
  refine c17 ?_
  unfold s17
  refine n_rowv fun h1 x1 l1 g1 => ?_
  refine w_lenStr (w_gtr (c_dec (fun q => ?_) (fun q => ?_)))
  · refine w_some (v := .agg #[.string (bs []), .slice none 0 0]) rfl ?_
    refine w_stPA g1 rfl (Nat.le_refl 2) rfl ?_
    refine endP (r := h.length) (h0 := h1) (w := []) (a := none) (l := 0) (c := 0) rfl rfl rfl rfl (by omega) ?_
    refine k _ _ (x1.set (Nat.le_refl _) _) ?_
    unfold parse
    rw [if_pos (by omega)]
    rfl
  have hs : s.length ≤ 2000 := by omega
  refine w_some (v := .agg #[.string (bs s), .int .i64 0, .int .i64 0, .string (bs []), .int .u8 0, .int .i64 0, .int .i64 0, .int .i64 0, .slice none 0 0]) rfl ?_
  refine n_boxv rfl fun h3 x3 l3 g3 => ?_
  refine n_rowv fun h4 x4 l4 g4 => ?_
  have gX : h4[h1.length]? = some (.row (prow s [] 0 ((0 : Nat) : Int) 0 0 0 0 (.slice none 0 0)) true) := x4.some g3
  have b4 : B4 h h4 h.length h1.length h3.length := ⟨(x1.trans x3).trans x4, (x3.trans x4).some g1, by omega, by omega, by omega, by omega, by omega, Nat.le_refl _, by omega, by omega⟩
  have sB : BS h4 h.length h1.length h3.length h4 (At h1.length) [] (.slice none 0 0) := ⟨Chg.refl _ _, fun e => b4.xO e.symm, g4⟩
  clear g1 g3 g4 l1 l3 l4
  generalize h.length = T at *
  generalize h1.length = X at *
  generalize h3.length = O at *
  refine next32 (at_ := 0) gX hs (Nat.zero_le _) fun h5 c5 g5 => ?_
  have r5 : PO h5 X (At X) s (skip s 0) 0 [] := ⟨⟨_, g5, OwnG.nil _ _ _⟩, Nat.zero_le _, (skip_le s 0 (Nat.zero_le _)).2, rfl, fun j hj => by have : j = X := hj; rw [this]; exact lt_of_get g5⟩
  have s5 := sB.chg c5
  clear sB gX c5 g5
  generalize hp0 : skip s 0 = p0 at r5
  have parseO : sgn s p0 = (wRoot, 0) → isName (sgn s (adv s p0)).1 = true → sgn s (adv s (adv s p0)) = ([], 59) → parse s = finish (sgn s (adv s p0)).1 (elems s (s.length + 1) (adv s (adv s (adv s p0))) []) := fun a b c => by
    unfold parse
    rw [if_neg (by omega), hp0, if_pos a, if_pos b, if_pos c]
  refine w_some (v := .agg (eSg (wRoot, 0)).toArray) rfl ?_
  have hm : callW Try.prog 33 [.pointer (some ⟨X, 0, none⟩), .agg (eSg (wRoot, 0)).toArray] h5 fun v h6 => (∃ F, PO h6 X F s (adv s p0) 0 [] ∧ BS h4 T X O h6 F [] (.slice none 0 0) ∧ sgn s p0 = (wRoot, 0)) ∨ ER h4 T X O s h6 := by
    refine mustO (x := (wRoot, 0)) r5 hs (fun q6 h6 c6 r6 => .inl ⟨_, r6, s5.chg c6, q6⟩) (fun q6 h6 c6 r6 => .inr ⟨_, 1, p0, _, _, r6, fun j hj => Nat.lt_of_lt_of_le (r5.fb j hj) c6.len, s5.chg c6, ?_⟩)
    unfold parse
    rw [if_neg (by omega), hp0, if_neg q6]
  refine callK hm ?_
  clear hm r5 s5 h5
  intro v6 h6 inv0
  refine joinE_intro (fun e h7 => e 2 = .pointer (some ⟨T, 0, none⟩) ∧ e 5 = .pointer (some ⟨X, 0, none⟩) ∧ e 6 = .pointer (some ⟨O, 0, none⟩) ∧ ((∃ F, PO h7 X F s (adv s p0) 0 [] ∧ BS h4 T X O h7 F (sgn s (adv s p0)).1 (.slice none 0 0) ∧ sgn s p0 = (wRoot, 0) ∧ isName (sgn s (adv s p0)).1 = true) ∨ ER h4 T X O s h7)) ?_ ?_
  rotate_left
  · intro J hJ
    rcases inv0 with ⟨F, r6, s6, q6⟩ | er
    · obtain ⟨vn, g6, _⟩ := r6.row
      refine w_nilc (w_offP (w_rdP g6 (v := .int .i64 0) rfl (w_eql (c_tt rfl ?_))))
      refine nameO r6 (fun hn h7 x7 => ?_) (fun hn h7 c7 r7 => ?_)
      · have s7 := s6.ex x7
        refine w_offP (w_stP s7.o (by show 0 + 0 < 2; decide) rfl rfl ?_)
        exact hJ _ _ ⟨rfl, rfl, rfl, .inl ⟨F, (r6.ex x7).setO s7.nO _, s7.setO _ _, q6, hn⟩⟩
      · have s7 := s6.chg c7
        refine w_offP (w_stP s7.o (by show 0 + 0 < 2; decide) rfl rfl ?_)
        refine hJ _ _ ⟨rfl, rfl, rfl, .inr ⟨F, 1, adv s p0, _, _, r7.setNew (fun e => s7.nO (by rw [e]; exact r7.X)) _, fun j hj => by rw [List.length_set]; exact Nat.lt_of_lt_of_le (r6.fb j hj) c7.len, s7.setO _ _, ?_⟩⟩
        unfold parse
        rw [if_neg (by omega), hp0, if_pos q6, if_neg (by rw [hn]; decide)]
    · have er' := er
      obtain ⟨F, er, a, w, vl, r, fb, b, hp⟩ := er
      obtain ⟨wE, frE, atE, cE, vnE, gE, oE⟩ := r.row
      refine w_nilc (w_offP (w_rdP gE (v := .int .i64 er) rfl (w_eql (c_ff r.e ?_))))
      exact hJ _ _ ⟨rfl, rfl, rfl, .inr er'⟩
  clear inv0 h6
  rintro e h7 ⟨e2, e5, e6, inv⟩
  rw [e5, e6]
  refine joinE_intro (fun e h8 => e 2 = .pointer (some ⟨T, 0, none⟩) ∧ e 5 = .pointer (some ⟨X, 0, none⟩) ∧ e 6 = .pointer (some ⟨O, 0, none⟩) ∧ ((∃ F, PO h8 X F s (adv s (adv s p0)) 0 [(sgn s (adv s p0)).1] ∧ BS h4 T X O h8 F (sgn s (adv s p0)).1 (.slice none 0 0) ∧ sgn s p0 = (wRoot, 0) ∧ isName (sgn s (adv s p0)).1 = true) ∨ ER h4 T X O s h8)) ?_ ?_
  rotate_left
  · intro J hJ
    rcases inv with ⟨F, r7, s7, q6, hn⟩ | er
    · obtain ⟨vn, g7, o7⟩ := r7.row
      refine w_nilc (w_offP (w_rdP g7 (v := .int .i64 0) rfl (w_eql (c_tt rfl ?_))))
      have xr := Ex.res h7
      refine w_nilc (w_offP (w_rdP (xr.some g7) (v := vn) rfl (w_offP (w_rdP (xr.some s7.o) (v := .string (bs (sgn s (adv s p0)).1)) rfl ?_))))
      refine optW_mono (fun c hc => n_res hc) ?_
      refine appName (w := (sgn s (adv s p0)).1) hs r7 (fun e => by rw [e] at hn; exact absurd hn (by decide)) g7 o7 fun h8 F8 c8 r8 _ _ _ _ _ _ => ?_
      exact hJ _ _ ⟨e2, e5, e6, .inl ⟨F8, r8, s7.chg c8, q6, hn⟩⟩
    · have er' := er
      obtain ⟨F, er, a, w, vl, r, fb, b, hp⟩ := er
      obtain ⟨wE, frE, atE, cE, vnE, gE, oE⟩ := r.row
      refine w_nilc (w_offP (w_rdP gE (v := .int .i64 er) rfl (w_eql (c_ff r.e ?_))))
      exact hJ _ _ ⟨e2, e5, e6, .inr er'⟩
  clear inv e2 e5 e6 e h7
  rintro e h8 ⟨e2, e5, e6, inv⟩
  rw [e5]
  refine w_some (v := .agg (eSg ([], 59)).toArray) rfl ?_
  have hm : callW Try.prog 33 [.pointer (some ⟨X, 0, none⟩), .agg (eSg ([], 59)).toArray] h8 fun v h9 => (∃ F, PO h9 X F s (adv s (adv s (adv s p0))) 0 [(sgn s (adv s p0)).1] ∧ BS h4 T X O h9 F (sgn s (adv s p0)).1 (.slice none 0 0) ∧ sgn s p0 = (wRoot, 0) ∧ isName (sgn s (adv s p0)).1 = true ∧ sgn s (adv s (adv s p0)) = ([], 59)) ∨ ER h4 T X O s h9 := by
    rcases inv with ⟨F, r8, s8, q6, hn⟩ | er
    · refine mustO (x := ([], 59)) r8 hs (fun q9 h9 c9 r9 => .inl ⟨_, r9, s8.chg c9, q6, hn, q9⟩) (fun q9 h9 c9 r9 => .inr ⟨_, 1, adv s (adv s p0), _, _, r9, fun j hj => Nat.lt_of_lt_of_le (r8.fb j hj) c9.len, s8.chg c9, ?_⟩)
      unfold parse
      rw [if_neg (by omega), hp0, if_pos q6, if_pos hn, if_neg q9]
    · have er' := er
      obtain ⟨F, er, a, w, vl, r, fb, b, hp⟩ := er
      exact mustE (x := ([], 59)) r fun h9 x9 => .inr (er'.ex x9)
  refine callK hm ?_
  clear hm inv
  intro v9 h9 inv
  let IV : Nat → AH → Prop := fun mm h' => (∃ (F : Nat → Prop) (k : Nat) (l : List (W × Mdl)) (q : Nat) (vl : Value), mm = k + 1 ∧ PO h' X F s q 0 ((sgn s (adv s p0)).1 :: nmsE l) ∧ BS h4 T X O h' F (sgn s (adv s p0)).1 vl ∧ LE h4.length h' F vl l ∧ l.length ≤ q ∧ s.length < q + k ∧ l.length ≤ 8 ∧
          parse s = finish (sgn s (adv s p0)).1 (elems s k q l)) ∨ (mm = 0 ∧ ER h4 T X O s h')
  have hI : ∃ m0, IV m0 h9 := by
    rcases inv with ⟨F, r9, s9, q6, hn, q9⟩ | er
    · exact ⟨s.length + 2, .inl ⟨F, s.length + 1, [], _, _, rfl, r9, s9, ⟨⟨[], OwnG.nil _ _ _, rfl⟩⟩, Nat.zero_le _, by omega, Nat.zero_le _, parseO q6 hn q9⟩⟩
    · exact ⟨0, .inr ⟨rfl, er⟩⟩
  obtain ⟨m0, hI⟩ := hI
  refine loopE_intro (fun mm e h' => e 2 = .pointer (some ⟨T, 0, none⟩) ∧ e 5 = .pointer (some ⟨X, 0, none⟩) ∧ e 6 = .pointer (some ⟨O, 0, none⟩) ∧ IV mm h') m0 ⟨e2, e5, e6, hI⟩ ?_
  clear hI inv e2 e5 e6
  clear e h8 h9 m0
  rintro I mm e h11 ⟨e2, e5, e6, inv⟩ ih
  rw [e2, e5, e6]
  refine w_some (v := .agg (eSg (wElement, 0)).toArray) rfl ?_
  rcases inv with ⟨F, k0, l, q0, vl, hmm, r11, s11, L11, hlq, hk, hl8, hparse⟩ | ⟨hmm, er⟩
  · have hq0 := r11.p
    have hk0 : 0 < k0 := by omega
    obtain ⟨k1, rfl⟩ : ∃ k1, k0 = k1 + 1 := ⟨k0 - 1, by omega⟩
    refine takesO (x := (wElement, 0)) r11 hs (fun qe h12 c12 r12 => c_t ?_) (fun qe h12 x12 => c_f ?_)
    · -- an element
      have s12 := s11.chg c12
      have L12 := L11.chg c12
      rw [elems_step qe] at hparse
      have xr := Ex.res h12
      have lr : (reserve 1 h12).length = h12.length + 1 := by rw [reserve_one]; simp
      have hadv := adv_gt hq0 (by rw [qe]; decide)
      refine w_offP (w_rdP (xr.some s12.o) (v := vl) rfl (w_offP (w_rdP (xr.some s12.o) (v := vl) rfl ?_)))
      have hvF : ∀ j, onId vl j → ¬ F j ∧ j < (reserve 1 h12).length := fun j hj => ⟨(L12.on hj).2.2, xr.lt (L12.on hj).2.1⟩
      have lO12 := lt_of_get s12.o
      have appE : ∀ (h13 : AH) (F13 : Nat → Prop) (w n' : W) (k' : Int) (a' : Option Addr) (l' c' : Nat) (Q : List Value → Nat → Value → Value → AH → Prop), Chg F (reserve 1 h12) F13 h13 → (∀ j, F13 j → j < h13.length) →
          (∀ v' cs h14 h16 c i q, h14 = h13.set h12.length (.row [.string (bs w), .int .i64 k', .string (bs n'), .slice a' l' c'] true) → isSl v' → OwnG 4 (Gd h4.length h14 F13) h14 vl l.length cs → EL h14 (fun j => Gd h4.length h14 F13 j ∧ ¬ onId vl j) l cs → BS h4 T X O h16 F13 (sgn s (adv s p0)).1 v' → (∀ j, j < h14.length → ¬ onId vl j → j ≠ O → h16[j]? = h14[j]?) → h14.length ≤ h16.length → (∀ j, onId v' j → onId vl j ∨ j = h14.length) → OwnG 4 (Gd h4.length h16 F13) h16 v' (l.length + 1) (cs ++ [.string (bs w), .int .i64 k', .string (bs n'), .slice a' l' c']) → Q c i v' q h16) →
          (∀ x ∈ (ceOf 1 (.pointer (some ⟨O, 0 + 1, none⟩))), vw x ((reserve 1 h12)) = vw x (h13)) ∧
          optW (bldSl 4 [(.string (bs [])), (.int .i64 0), (.string (bs [])), (.slice none 0 0)] 1 [(0, .agg #[.string (bs w), .int .i64 k', .string (bs n'), .slice a' l' c'])]) fun c => newW (some (h12.length)) (.row c true) h13 fun i h_13 => appSl 4 vl (.slice (some ⟨i, 0, none⟩) 1 1) h_13 fun v60 h_14 => optW (pOff 1 (.pointer (some ⟨O, 0, none⟩))) fun v61 => optW (pStore 1 v61 v60 h_14) fun h_15 => Q c i v60 v61 h_15 := by
        intro h13 F13 w n' k' a' l' c' Q c13 fb13 kk
        refine ⟨ptr_id (c13.get O (xr.lt lO12) s12.nO), ?_⟩
        refine w_some (bldSl_one (v := .agg #[.string (bs w), .int .i64 k', .string (bs n'), .slice a' l' c']) rfl (by decide) rfl rfl) ?_
        refine n_slot ?_
        have l13 := c13.len
        have nf13 : ¬ F13 h12.length := fun hf => (c13.dom _ hf).elim (fun hf => by have := r12.fb _ hf; omega) (by omega)
        have c14 := ((Chg.ex (F := F) xr).trans c13).setNew (i := h12.length) (Nat.le_refl _) (.row [.string (bs w), .int .i64 k', .string (bs n'), .slice a' l' c'] true)
        have g14 : (h13.set h12.length (.row [.string (bs w), .int .i64 k', .string (bs n'), .slice a' l' c'] true))[h12.length]? = some (.row [.string (bs w), .int .i64 k', .string (bs n'), .slice a' l' c'] true) := get_set _ (by omega) _
        have l14 : (h13.set h12.length (.row [.string (bs w), .int .i64 k', .string (bs n'), .slice a' l' c'] true)).length = h13.length := List.length_set
        have kk' := fun v' cs h16 c i q => kk v' cs _ h16 c i q rfl
        clear kk
        show appSl 4 vl _ (h13.set h12.length (.row [.string (bs w), .int .i64 k', .string (bs n'), .slice a' l' c'] true)) _
        generalize h13.set h12.length (.row [.string (bs w), .int .i64 k', .string (bs n'), .slice a' l' c'] true) = h14 at c14 g14 l14 kk' ⊢
        have s14 := s12.chg c14
        obtain ⟨cs, o14, e14⟩ := (L12.chg c14).ex
        refine appSl_of ?_
        refine app_g (by decide) o14 (srcL_new (n := 1) (s := 4) g14 (by decide) rfl) rfl (by have := bigR3; omega) fun v' h15 a1 a2 a3 a4 => ?_
        have nvO : ¬ onId vl O := fun hon => by have := (o14.on hon).1.1; have := b4.lO; omega
        have gO := (a3 O (lt_of_get s14.o) nvO).trans s14.o
        obtain ⟨sa, sn, sc, rfl⟩ := Sl.isSl a1.sl
        refine w_offP (w_stP gO (by show 0 + 1 < 2; decide) rfl rfl ?_)
        have l16 : (h15.set O (.row ([Value.string (bs (sgn s (adv s p0)).1), vl].set (0 + 1) (.slice sa sn sc)) true)).length = h15.length := List.length_set
        have n16 : ∀ j, j ≠ O → (h15.set O (.row ([Value.string (bs (sgn s (adv s p0)).1), vl].set (0 + 1) (.slice sa sn sc)) true))[j]? = h15[j]? := fun j hj => get_ne (Ne.symm hj) _
        refine kk' (.slice sa sn sc) cs _ _ _ _ ⟨sa, sn, sc, rfl⟩ o14 e14 ⟨⟨by have := s14.c.len; omega, fun j hj hn => ?_, s14.c.dom⟩, s14.nO, get_set _ (lt_of_get gO) _⟩ (fun j hj hno hO => (n16 j hO).trans (a3 j hj hno)) (by omega) a4 ?_
        · have hjO : j ≠ O := fun e => hn (.inr e)
          refine (n16 j hjO).trans ((a3 j (by have := s14.c.len; omega) fun hon => by have := (o14.on hon).1.1; omega).trans (s14.c.get j hj hn))
        · refine a1.mono (fun j hj hF => ?_) fun j hj hF => ?_
          · have hj' := (a1.on hj).2
            rcases hF with hF | rfl
            · exact ⟨hF.1, by omega, hF.2.2⟩
            · exact ⟨by have := s14.c.len; omega, by omega, fun hf => by have := fb13 _ hf; omega⟩
          · refine n16 j fun e => ?_
            have := b4.lO
            have := s14.c.len
            rcases hF with hF | rfl
            · have := hF.1; omega
            · omega
      refine elem36 hs (r12.ex xr) (L12.nm.ext xr) hvF (by rw [List.length_map]; omega) (fun k' n' a' l' c' h13 F13 w m q he c13 r13 m13 => ?_) (fun v h13 F13 er a he c13 r13 fb13 m13 => ?_)
      · have hlt := elem_lt he
        rw [List.length_map] at hlt
        have hup := elem_up r12.p he
        rw [he] at hparse
        dsimp only at hparse
        refine appE h13 F13 w n' k' a' l' c' _ c13 r13.fb fun v' cs h14 h16 _ _ _ e14 sv' o14 el14 s16 same16 len16 ids16 o16 => ?_
        have l13 := c13.len
        have nf13 : ¬ F13 h12.length := fun hf => (c13.dom _ hf).elim (fun hf => by have := r12.fb _ hf; omega) (by omega)
        have r14 := r13.setNew nf13 (.row [.string (bs w), .int .i64 k', .string (bs n'), .slice a' l' c'] true)
        have m14 := m13.setNew (i := h12.length) (fun hg => by have := hg.1; omega) (.row [.string (bs w), .int .i64 k', .string (bs n'), .slice a' l' c'] true)
        rw [← e14] at r14 m14
        have nFv : ∀ j, F13 j → ¬ onId vl j := fun j hf hon => (o14.on hon).1.2.2 hf
        have lb := s16.c.len
        have lOb := b4.lO
        have l14 : h14.length = h13.length := by rw [e14]; exact List.length_set
        have r16 : PO h16 X F13 s q 0 ((sgn s (adv s p0)).1 :: nmsE (l ++ [(w, m)])) := by
          obtain ⟨vn, g, o⟩ := r14.row
          have en : (sgn s (adv s p0)).1 :: nmsE (l ++ [(w, m)]) = (sgn s (adv s p0)).1 :: nmsE l ++ nms m := by rw [nmsE_append]; simp [nmsE]
          rw [en]
          exact ⟨⟨vn, (same16 X (r14.fb X r14.X) (nFv X r14.X) b4.xO).trans g, o.mono (fun _ _ h => h) fun j hj hF => same16 j (o.on hj).2 (nFv j hF.1) (fun e => s16.nO (by rw [← e]; exact hF.1))⟩, r14.nb, r14.p, r14.X, fun j hj => Nat.lt_of_lt_of_le (r14.fb j hj) len16⟩
        have l12v : ∀ j, onId vl j → j < h12.length := fun j hj => (L12.on hj).2.1
        have up : ∀ j, Gd h4.length h14 F13 j ∧ ¬ onId vl j → h16[j]? = h14[j]? ∧ Gd h4.length h16 F13 j ∧ ¬ onId v' j := fun j hj => ⟨same16 j hj.1.2.1 hj.2 (fun e => by have := hj.1.1; omega), ⟨hj.1.1, Nat.lt_of_lt_of_le hj.1.2.1 len16, hj.1.2.2⟩, fun hon => (ids16 j hon).elim hj.2 fun e => by have := hj.1.2.1; omega⟩
        have L16 : LE h4.length h16 F13 v' (l ++ [(w, m)]) := by
          refine ⟨⟨cs ++ [.string (bs w), .int .i64 k', .string (bs n'), .slice a' l' c'], ?_, ?_⟩⟩
          · have elm : (l ++ [(w, m)]).length = l.length + 1 := by simp
            rw [elm]
            exact o16
          · refine EL.snoc (e := (w, m)) (MH.mono (fun j gj => up j ⟨⟨?_, gj.2⟩, fun hon => ?_⟩) m _ m14) l cs (EL.mono up l cs el14)
            · have := s12.c.len; have := gj.1; omega
            · have := l12v j hon; have := gj.1; omega
        exact ih (k1 + 1) _ _ (by omega) ⟨e2, e5, e6, .inl ⟨F13, k1, l ++ [(w, m)], q, v', rfl, r16, s16, L16, by simp; omega, by omega, by simp; omega, hparse⟩⟩
      · rw [he] at hparse
        obtain ⟨w, k', n', a', l', c', ev⟩ := m13
        subst ev
        refine appE h13 F13 w n' k' a' l' c' _ c13 fb13 fun v' cs h14 h16 _ _ _ e14 sv' o14 el14 s16 same16 len16 ids16 o16 => ?_
        have nFv : ∀ j, F13 j → ¬ onId vl j := fun j hf hon => (o14.on hon).1.2.2 hf
        have l13 := c13.len
        have nf13 : ¬ F13 h12.length := fun hf => (c13.dom _ hf).elim (fun hf => by have := r12.fb _ hf; omega) (by omega)
        have l14 : h14.length = h13.length := by rw [e14]; exact List.length_set
        have r14 := r13.setNew (i := h12.length) (fun e => nf13 (by rw [e]; exact r13.X)) (.row [.string (bs w), .int .i64 k', .string (bs n'), .slice a' l' c'] true)
        rw [← e14] at r14
        have r16 : PE h16 X F13 s 0 er a := by
          obtain ⟨w, fr, at_, c, vn, g, o⟩ := r14.row
          exact ⟨⟨w, fr, at_, c, vn, (same16 X (by rw [l14]; exact fb13 X r13.X) (nFv X r13.X) b4.xO).trans g, o⟩, r13.e, r13.X⟩
        exact ih 0 _ _ (by omega) ⟨e2, e5, e6, .inr ⟨rfl, F13, er, a, _, v', r16, fun j hj => by have := fb13 j hj; omega, s16, hparse⟩⟩
    · -- no element
      have r12 := r11.ex x12
      have s12 := s11.ex x12
      have L12 := L11.chg (Chg.ex x12)
      obtain ⟨vn, g12, o12⟩ := r12.row
      refine w_nilc (w_offP (w_rdPA (n := 2) g12 (by show 0 + 3 + 2 ≤ 9; decide) ?_))
      refine w_some (v := .agg (eSg ([], 0)).toArray) rfl ?_
      refine w_sgne (a := sgn s q0) (b := ([], 0)) (c_dec (fun qn => ?_) (fun qn => ?_))
      · rw [elems_bad qe qn] at hparse
        refine wrongO (e := 1) (by decide) r12 fun h13 c13 r13 => ?_
        have er13 : ER h4 T X O s h13 := ⟨F, 1, q0, _, vl, r13, fun j hj => Nat.lt_of_lt_of_le (r12.fb j hj) c13.len, s12.chg c13, hparse⟩
        obtain ⟨wE, frE, atE, cE, vnE, gE, oE⟩ := r13.row
        refine w_nilc (w_offP (w_rdP gE (v := .int .i64 1) rfl (w_neq (c_tt (by decide) ?_))))
        exact errEnd b4 er13 (fun _ _ _ _ _ _ _ => e2) (fun _ _ _ _ _ _ _ => rfl) (fun _ _ _ _ _ _ _ => rfl) k
      · have qn' : sgn s q0 = ([], 0) := Decidable.not_not.1 qn
        rw [elems_end qe qn'] at hparse
        refine w_nilc (w_offP (w_rdP g12 (v := .int .i64 0) rfl (w_neq (c_ff (fun h => h rfl) ?_))))
        refine w_nilc (w_offP (w_rdP g12 (v := vn) rfl ?_))
        have sl12 := o12.sl
        have sln := sl12
        obtain ⟨na, ncap, ev⟩ := sl12.shape
        have hcl : ((sgn s (adv s p0)).1 :: nmsE l).length ≤ 2000 := by have := r12.nb; omega
        generalize hnm : (sgn s (adv s p0)).1 :: nmsE l = names at sl12 sln ev hcl
        rw [ev]
        rw [ev] at sln
        refine w_lenSl ?_
        refine loopE_intro (fun mm e h' => ∃ j : Nat, j ≤ names.length ∧ mm = names.length - j ∧ e 2 = .pointer (some ⟨T, 0, none⟩) ∧ e 6 = .pointer (some ⟨O, 0, none⟩) ∧ e 87 = .slice na names.length ncap ∧ e 88 = .int .i64 (names.length : Nat) ∧ e 89 = .int .i64 (j : Nat) ∧ Ex h12 h' ∧ ∀ w ∈ names.take j, w ∈ l.map (·.1)) names.length
          ⟨0, Nat.zero_le _, rfl, e2, e6, rfl, rfl, rfl, Ex.refl _, by simp⟩ ?_
        clear e2 e5 e6 hmm ih
        clear e mm I
        rintro I mm e h18 ⟨j, hj, hmm, e2, e6, e87, e88, e89, x18, hall⟩ ih
        rw [e2, e6, e87, e88, e89]
        have s18 := s12.ex x18
        refine w_lss (c_dec (fun q => ?_) (fun q => ?_))
        · obtain ⟨w, hw⟩ := getElem?_of_lt (l := names) (i := j) (by omega)
          have hw' : (names.map fun w => Value.string (bs w))[j]? = some (.string (bs w)) := by rw [List.getElem?_map, hw]; rfl
          refine idxS1 (sln.ex x18) hw' fun p hp => w_rd1 hp rfl ?_
          refine w_offP (w_rdP s18.o (v := vl) rfl (has38 (L12.nm.ext x18) (by rw [List.length_map]; omega) fun h19 x19 => w_notb ?_))
          have s19 := s18.ex x19
          by_cases hm : w ∈ l.map (·.1)
          · rw [decide_eq_true hm]
            refine c_f (w_add (by omega) (by omega) ?_)
            refine ih (names.length - (j + 1)) _ _ (by omega) ⟨j + 1, by omega, rfl, e2, e6, e87, e88, rfl, x18.trans x19, fun w' hw'' => ?_⟩
            rw [List.take_add_one, hw] at hw''
            rcases List.mem_append.1 hw'' with h | h
            · exact hall w' h
            · have : w' = w := by simpa using h
              rw [this]; exact hm
          · rw [decide_eq_false hm]
            refine c_t ?_
            refine w_some (v := .agg #[.string (bs []), .slice none 0 0]) rfl ?_
            have gT := s19.t b4
            refine w_stPA gT rfl (Nat.le_refl 2) rfl ?_
            refine endP (r := T) (h0 := h19) (w := []) (a := none) (l := 0) (c := 0) e2 rfl rfl rfl (lt_of_get gT) ?_
            refine k _ _ ((s19.toEx b4).set b4.bT _) ?_
            have hk : known (sgn s (adv s p0)).1 l = false := by
              unfold known
              rw [hnm, List.all_eq_false]
              exact ⟨w, List.mem_of_getElem? hw, by rw [decide_eq_false hm]; decide⟩
            have : parse s = .bad 6 0 := by
              rw [hparse]
              unfold finish
              dsimp only
              rw [if_neg (by rw [hk]; decide)]
            rw [this]
            rfl
        · have hja : names.take j = names := List.take_of_length_le (by omega)
          rw [hja] at hall
          have hk : known (sgn s (adv s p0)).1 l = true := by
            unfold known
            rw [hnm, List.all_eq_true]
            exact fun w hw => decide_eq_true (hall w hw)
          have hp : parse s = .ok ((sgn s (adv s p0)).1, l) 0 := by
            rw [hparse]
            unfold finish
            dsimp only
            rw [if_pos hk]
          obtain ⟨cs, oL, eL⟩ := (L12.chg (Chg.ex x18)).ex
          refine w_offP (w_rdP s18.o (v := vl) rfl (clip39 oL.sl (by omega) fun a' sl' on' => ?_))
          refine w_offP (w_stP s18.o (by show 0 + 1 < 2; decide) rfl rfl ?_)
          have s20 := s18.setO (sgn s (adv s p0)).1 (.slice a' l.length l.length)
          have s20o : (h18.set O (.row ([Value.string (bs (sgn s (adv s p0)).1), vl].set (0 + 1) (.slice a' l.length l.length)) true))[O]? = some (.row [.string (bs (sgn s (adv s p0)).1), .slice a' l.length l.length] true) := s20.o
          have s20' : BS h4 T X O (h18.set O (.row ([Value.string (bs (sgn s (adv s p0)).1), vl].set (0 + 1) (.slice a' l.length l.length)) true)) F (sgn s (adv s p0)).1 (.slice a' l.length l.length) := s20
          have n20 : ∀ j, j ≠ O → (h18.set O (.row ([Value.string (bs (sgn s (adv s p0)).1), vl].set (0 + 1) (.slice a' l.length l.length)) true))[j]? = h18[j]? := fun j hj => get_ne (Ne.symm hj) _
          have l20 : (h18.set O (.row ([Value.string (bs (sgn s (adv s p0)).1), vl].set (0 + 1) (.slice a' l.length l.length)) true)).length = h18.length := List.length_set
          clear s20
          generalize h18.set O (.row ([Value.string (bs (sgn s (adv s p0)).1), vl].set (0 + 1) (.slice a' l.length l.length)) true) = h20 at s20o s20' n20 l20 ⊢
          refine w_rdPA s20o (Nat.le_refl 2) ?_
          have gT := s20'.t b4
          refine w_stPA gT rfl (Nat.le_refl 2) rfl ?_
          refine endP (r := T) (h0 := h20) (w := (sgn s (adv s p0)).1) (a := a') (l := l.length) (c := l.length) e2 rfl rfl rfl (lt_of_get gT) ?_
          refine k _ _ ((s20'.toEx b4).set b4.bT _) ?_
          rw [hp]
          have lT := lt_of_get b4.t
          have lOb := b4.lO
          have l4 := b4.x.len
          have big : ∀ (o : AObj) j, Gd h4.length h18 F j → (h20.set T o)[j]? = h18[j]? := fun o j hj => (get_ne (by have := hj.1; omega) _).trans (n20 j (by have := hj.1; omega))
          refine ⟨a', l.length, cs, rfl, Sl.keepOn sl' fun j hj => big _ j (oL.on (on' j hj)).1, EL.mono (fun j hj => ⟨big _ j hj.1, by have := hj.1.1; omega, by rw [List.length_set, l20]; exact hj.1.2.1⟩) l cs eL⟩
  · -- an error
    have er' := er
    obtain ⟨F, er, a, w, vl, r, fb, b, hp⟩ := er
    refine takesE (x := (wElement, 0)) r fun h12 x12 => c_f ?_
    have er12 := er'.ex x12
    have r12 := r.ex x12
    obtain ⟨wE, frE, atE, cE, vnE, gE, oE⟩ := r12.row
    refine w_nilc (w_offP (w_rdPA (n := 2) gE (by show 0 + 3 + 2 ≤ 9; decide) ?_))
    refine w_some (v := .agg (eSg ([], 0)).toArray) rfl ?_
    refine w_sgne (a := (wE, cE)) (b := ([], 0)) (c_dec (fun qn => ?_) (fun qn => ?_))
    · refine wrongE r12 ?_
      refine w_nilc (w_offP (w_rdP gE (v := .int .i64 er) rfl (w_neq (c_tt r12.e ?_))))
      exact errEnd b4 er12 (fun _ _ _ _ _ _ _ => e2) (fun _ _ _ _ _ _ _ => rfl) (fun _ _ _ _ _ _ _ => rfl) k
    · refine w_nilc (w_offP (w_rdP gE (v := .int .i64 er) rfl (w_neq (c_tt r12.e ?_))))
      exact errEnd b4 er12 (fun _ _ _ _ _ _ _ => e2) (fun _ _ _ _ _ _ _ => rfl) (fun _ _ _ _ _ _ _ => rfl) k
end Go.Proofs.Ytlenlhlipmkeeaa.W
end

section
/- Schema's laws: the document's reader: its words. Conditions: none. -/
namespace Go.Proofs.Ytlenlhlipmkeeaa.W
open Go Go.AM SchM
set_option linter.unusedVariables false
set_option maxRecDepth 100000
def rrow (s : W) (P e a D : Int) : List Value := [.string (bs s), .int .i64 P, .int .i64 e, .int .i64 a, .int .i64 D]
theorem blanks42 {h : AH} {X P : Nat} {s : W} {e a D : Int} {K : Value → AH → Prop} (g : h[X]? = some (.row (rrow s P e a D) true)) (hs : s.length ≤ 100000) (hP : P ≤ s.length)
    (k : ∀ h', Chg (At X) h (At X) h' → h'[X]? = some (.row (rrow s (skip s P : Nat) e a D) true) → K (.tuple #[]) h') : callW Try.prog 42 [.pointer (some ⟨X, 0, none⟩)] h K := by
  refine c42 ?_
  unfold s42
  refine loopE_intro (fun m e' h' => ∃ i : Nat, i ≤ s.length ∧ m = s.length - i ∧ e' 0 = .pointer (some ⟨X, 0, none⟩) ∧ Chg (At X) h (At X) h' ∧ h'[X]? = some (.row (rrow s i e a D) true) ∧ skip s i = skip s P) (s.length - P)
    ⟨P, hP, rfl, rfl, Chg.refl _ _, g, rfl⟩ ?_
  rintro I m e' h2 ⟨i, hi, hm, e0, c2, g2, hsk⟩ ih
  rw [e0]
  refine w_nilc (w_offP (w_rdP g2 (v := .int .i64 i) rfl (w_nilc (w_offP (w_rdP g2 (v := .string (bs s)) rfl (w_lenStr (w_lss ?_)))))))
  by_cases q : (i : Int) < (s.length : Nat)
  · obtain ⟨b, hb⟩ := getElem?_of_lt (l := s) (i := i) (by omega)
    have hbl := blank_of (c := b)
    refine gd_tt q (gd_tt q (w_nilc (gd_tt q (w_offP (gd_tt q (hist_nil (w_rdP g2 (v := .string (bs s)) rfl (gd_tt q (gd_tt q (w_nilc (gd_tt q (w_offP (gd_tt q (hist_nil (w_rdP g2 (v := .int .i64 i) rfl (gd_tt q (w_idxStr (by omega) hb (gd_tt q (w_eql (gd_tt q ?_))))))))))))))))))))
    by_cases q2 : (b.toNat : Int) = 32
    · rw [decide_eq_true q2, Bool.true_or] at hbl
      refine gd_ft q2 (gd_ft q2 (gd_ft q2 (gd_ft q2 (gd_ft q2 (gd_ft q2 (gd_ft q2 (gd_ft q2 (gd_ft q2 (gd_ft q2 (gd_tt q (pk_tt q2 (pk_tt q (c_t ?_)))))))))))))
      refine w_nilc (w_offP (w_rdP g2 (v := .int .i64 i) rfl (w_add (by omega) (by omega) (w_nilc (w_offP (w_stP g2 (by show 0 + 1 < 5; decide) rfl rfl ?_))))))
      exact ih (s.length - (i + 1)) _ _ (by omega) ⟨i + 1, by omega, rfl, e0, c2.trans (setX _), get_set _ (lt_of_get g2) _, by rw [← skip_step hb hbl]; exact hsk⟩
    · rw [decide_eq_false q2, Bool.false_or] at hbl
      refine gd_ff q2 (gd_ff q2 (w_nilc (gd_ff q2 (w_offP (gd_ff q2 (hist_nil (w_rdP g2 (v := .string (bs s)) rfl (gd_ff q2 (gd_ff q2 (w_nilc (gd_ff q2 (w_offP (gd_ff q2 (hist_nil (w_rdP g2 (v := .int .i64 i) rfl (gd_ff q2 (w_idxStr (by omega) hb (gd_ff q2 (w_eql (gd_tt q (pk_ff q2 (pk_tt q (c_dec (fun q3 => ?_) (fun q3 => ?_))))))))))))))))))))))))
      · rw [decide_eq_true q3] at hbl
        refine w_nilc (w_offP (w_rdP g2 (v := .int .i64 i) rfl (w_add (by omega) (by omega) (w_nilc (w_offP (w_stP g2 (by show 0 + 1 < 5; decide) rfl rfl ?_))))))
        exact ih (s.length - (i + 1)) _ _ (by omega) ⟨i + 1, by omega, rfl, e0, c2.trans (setX _), get_set _ (lt_of_get g2) _, by rw [← skip_step hb hbl]; exact hsk⟩
      · rw [decide_eq_false q3] at hbl
        have es : skip s i = i := skip_of fun c' hc' => by rw [hb] at hc'; cases hc'; exact hbl
        rw [← hsk, es] at k
        exact k h2 c2 g2
  · refine gd_tf q (gd_tf q (gd_tf q (gd_tf q (gd_tf q (gd_tf q (gd_tf q (gd_tf q (gd_tf q (gd_tf q (gd_tf q ?_))))))))))
    refine gdu (gdu (gdu (gdu (gdu (gdu (gdu (gdu (gdu (gdu (gd_tf q (pk_ff q (c_f ?_))))))))))))
    have es : skip s i = i := skip_of fun c' hc' => by rw [List.getElem?_eq_none (by omega)] at hc'; cases hc'
    rw [← hsk, es] at k
    exact k h2 c2 g2
theorem low_of {c : UInt8} : low c = decide (97 ≤ c.toNat ∧ c.toNat ≤ 122) := rfl
theorem wordAt_cons {s : W} {i : Nat} {c : UInt8} (h : s[i]? = some c) (hl : low c = true) : wordAt s i = c :: wordAt s (i + 1) := by
  unfold wordAt
  obtain ⟨hi, he⟩ := List.getElem?_eq_some_iff.1 h
  rw [List.drop_eq_getElem_cons hi, he, List.takeWhile_cons_of_pos hl]
theorem wordAt_nil {s : W} {i : Nat} (h : ∀ c, s[i]? = some c → low c = false) : wordAt s i = [] := by
  unfold wordAt
  cases hd : s.drop i with
  | nil => rfl
  | cons a l =>
    have : s[i]? = some a := by rw [← List.head?_drop, hd]; rfl
    rw [List.takeWhile_cons_of_neg (by rw [h a this]; decide)]
theorem wordAt_len (s : W) (p : Nat) : (wordAt s p).length ≤ s.length - p := by
  have := (List.takeWhile_sublist (p := low) (l := s.drop p)).length_le
  rw [List.length_drop] at this
  exact this
theorem wordAt_take (s : W) (p : Nat) : (s.drop p).take (wordAt s p).length = wordAt s p := by
  unfold wordAt
  exact (List.prefix_iff_eq_take.1 (List.takeWhile_prefix low)).symm
theorem word61 {h : AH} {X P : Nat} {s : W} {e a D : Int} {K : Value → AH → Prop} (g : h[X]? = some (.row (rrow s P e a D) true)) (hs : s.length ≤ 100000) (hP : P ≤ s.length)
    (k : ∀ h', Chg (At X) h (At X) h' → h'[X]? = some (.row (rrow s (skip s P : Nat) e a D) true) → K (.string (bs (wordAt s (skip s P)))) h') : callW Try.prog 61 [.pointer (some ⟨X, 0, none⟩)] h K := by
  refine c61 ?_
  unfold s61
  refine blanks42 g hs hP fun h1 c1 g1 => ?_
  have hp := (skip_le s P hP).2
  have k' := k h1 c1 g1
  generalize skip s P = p at *
  clear k
  refine w_nilc (w_offP (w_rdP g1 (v := .int .i64 p) rfl ?_))
  refine loopE_intro (fun m e' h' => ∃ i : Nat, p ≤ i ∧ i ≤ s.length ∧ m = s.length - i ∧ e' 0 = .pointer (some ⟨X, 0, none⟩) ∧ e' 3 = .int .i64 (i : Nat) ∧ h' = h1 ∧ (i - p) + (wordAt s i).length = (wordAt s p).length) (s.length - p)
    ⟨p, Nat.le_refl _, hp, rfl, rfl, rfl, rfl, by omega⟩ ?_
  rintro I m e' h2 ⟨i, hpi, hi, hm, e0, e3, rfl, hw⟩ ih
  rw [e0, e3]
  refine w_nilc (w_offP (w_rdP g1 (v := .string (bs s)) rfl (w_lenStr (w_lss ?_))))
  have stop : wordAt s i = [] → optW (pNilCheck (.pointer (some ⟨X, 0, none⟩))) (fun v38 => optW (pOff 0 v38) fun v39 => optW (rdRow false 1 v39 h2) fun v40 => optW (pNilCheck (.pointer (some ⟨X, 0, none⟩))) fun v42 => optW (pOff 1 v42) fun v43 => optW (rdRow false 1 v43 h2) fun v44 => optW (pSliceStr v40 (some v44) (some (.int .i64 (i : Nat)))) fun v46 => K v46 h2) := fun hn => by
    rw [hn] at hw
    have e1 : (wordAt s p).length = i - p := by simp at hw; omega
    refine w_nilc (w_offP (w_rdP g1 (v := .string (bs s)) rfl (w_nilc (w_offP (w_rdP g1 (v := .int .i64 p) rfl (w_subStr (by omega) (by omega) (by omega) ?_))))))
    rw [Int.toNat_natCast, Int.toNat_natCast, ← e1, wordAt_take]
    exact k'
  by_cases q : (i : Int) < (s.length : Nat)
  · obtain ⟨b, hb⟩ := getElem?_of_lt (l := s) (i := i) (by omega)
    refine g_tt q (g_tt q (w_nilc (g_tt q (w_offP (g_tt q (w_rdP g1 (v := .string (bs s)) rfl (g_tt q (g_tt q (w_idxStr (by omega) hb (g_tt q (w_geq (pk_tt q ?_))))))))))))
    by_cases q2 : (97 : Int) ≤ b.toNat
    · refine g_tt q2 (g_tt q2 (w_nilc (g_tt q2 (w_offP (g_tt q2 (w_rdP g1 (v := .string (bs s)) rfl (g_tt q2 (g_tt q2 (w_idxStr (by omega) hb (g_tt q2 (w_leq (pk_tt q2 (c_dec (fun q3 => ?_) (fun q3 => ?_))))))))))))))
      · have hl : low b = true := by rw [low_of, decide_eq_true_eq]; omega
        have := wordAt_cons hb hl
        rw [this, List.length_cons] at hw
        refine w_add (by omega) (by omega) ?_
        exact ih (s.length - (i + 1)) _ _ (by omega) ⟨i + 1, by omega, by omega, rfl, e0, rfl, rfl, by omega⟩
      · refine stop (wordAt_nil fun c hc => ?_)
        rw [hb] at hc
        cases hc
        rw [low_of, decide_eq_false_iff_not]
        omega
    · refine g_tf q2 (g_tf q2 (g_tf q2 (g_tf q2 (g_tf q2 (g_tf q2 (g_tf q2 (pk_ff q2 (c_f ?_))))))))
      refine stop (wordAt_nil fun c hc => ?_)
      rw [hb] at hc
      cases hc
      rw [low_of, decide_eq_false_iff_not]
      omega
  · refine g_tf q (g_tf q (g_tf q (g_tf q (g_tf q (g_tf q (g_tf q (pk_ff q ?_)))))))
    refine gc_tf (gc_tf (gc_tf (gc_tf (gc_tf (gc_tf (gc_tf (pk_f (c_f ?_))))))))
    exact stop (wordAt_nil fun c hc => by rw [List.getElem?_eq_none (by omega)] at hc; cases hc)
theorem letters53 {s : W} {h : AH} {K : Value → AH → Prop} (hs : s.length ≤ 1000000) (ha : s.all low = true) (k : K (.bool (decide (s ≠ [] ∧ s.length ≤ 8))) h) : callW Try.prog 53 [.string (bs s)] h K := by
  refine c53 ?_
  unfold s53
  refine loopE_intro (fun m e h' => ∃ i : Nat, i ≤ s.length ∧ m = s.length - i ∧ e 0 = .string (bs s) ∧ e 3 = .int .i64 i ∧ h' = h) s.length ⟨0, Nat.zero_le _, rfl, rfl, rfl, rfl⟩ ?_
  rintro I m e h' ⟨i, hi, hm, e0, e3, rfl⟩ hI
  rw [e0, e3]
  refine w_lenStr (w_lss (c_dec (fun q => ?_) (fun q => ?_)))
  · obtain ⟨c, hc⟩ := getElem?_of_lt (l := s) (i := i) (by omega)
    have hl : low c = true := List.all_eq_true.1 ha c (List.mem_of_getElem? hc)
    rw [low_of, decide_eq_true_eq] at hl
    have q1 : ¬ (c.toNat : Int) < 97 := by omega
    refine w_idxStr (by omega) hc (w_lss (g_ff q1 (g_ff q1 (g_ff q1 (w_idxStr (by omega) hc (g_ff q1 (w_gtr (pk_ff q1 (c_ff (by omega) ?_)))))))))
    refine w_add (by omega) (by omega) ?_
    exact hI (m - 1) _ _ (by omega) ⟨i + 1, by omega, by omega, e0, rfl, rfl⟩
  · refine w_lenStr (w_gtr ?_)
    by_cases q1 : (0 : Int) < (s.length : Nat)
    · refine g_tt q1 (g_tt q1 (w_lenStr (g_tt q1 (w_leq (pk_tt q1 ?_)))))
      have e1 : decide (s ≠ [] ∧ s.length ≤ 8) = decide (((s.length : Nat) : Int) ≤ 8) := by
        have : s ≠ [] := fun e => by rw [e] at q1; simp at q1
        rw [decide_eq_decide]
        exact ⟨fun h => by omega, fun h => ⟨this, by omega⟩⟩
      rw [e1] at k
      exact k
    · refine g_tf q1 (g_tf q1 (g_tf q1 (pk_ff q1 ?_)))
      have e1 : decide (s ≠ [] ∧ s.length ≤ 8) = false := by
        rw [decide_eq_false_iff_not]
        rintro ⟨h1, _⟩
        exact h1 (List.eq_nil_of_length_eq_zero (by omega))
      rw [e1] at k
      exact k
theorem kept63 {w : W} {h : AH} {K : Value → AH → Prop} (k : K (.bool (decide (w ∈ keys))) h) : callW Try.prog 63 [.string (bs w)] h K := by
  refine c63 ?_
  unfold s63
  have mem : ∀ {x : W}, w = x → x ∈ keys → K (.bool true) h := fun e hx => by
    rw [decide_eq_true (by rw [e]; exact hx)] at k
    exact k
  refine w_seql ?_
  by_cases q1 : w = wRoot
  · refine g_ft q1 (g_ft q1 (pk_tt q1 ?_))
    refine gc_ft (gc_ft (pk_t ?_))
    refine gc_ft (gc_ft (pk_t ?_))
    refine gc_ft (gc_ft (pk_t ?_))
    exact mem q1 (by decide)
  refine g_ff q1 (g_ff q1 (w_seql (pk_ff q1 ?_)))
  by_cases q2 : w = wElement
  · refine g_ft q2 (g_ft q2 (pk_tt q2 ?_))
    refine gc_ft (gc_ft (pk_t ?_))
    refine gc_ft (gc_ft (pk_t ?_))
    exact mem q2 (by decide)
  refine g_ff q2 (g_ff q2 (w_seql (pk_ff q2 ?_)))
  by_cases q3 : w = wEmpty
  · refine g_ft q3 (g_ft q3 (pk_tt q3 ?_))
    refine gc_ft (gc_ft (pk_t ?_))
    exact mem q3 (by decide)
  refine g_ff q3 (g_ff q3 (w_seql (pk_ff q3 ?_)))
  by_cases q4 : w = wAny
  · refine g_ft q4 (g_ft q4 (pk_tt q4 ?_))
    exact mem q4 (by decide)
  refine g_ff q4 (g_ff q4 (w_seql (pk_ff q4 ?_)))
  have e : decide (w ∈ keys) = decide (w = wText) := by
    rw [decide_eq_decide]
    unfold keys
    simp [q1, q2, q3, q4]
  rw [e] at k
  exact k
end Go.Proofs.Ytlenlhlipmkeeaa.W
end

section
/- Schema's laws: the document's reader: signs are taken. Conditions: none. -/
namespace Go.Proofs.Ytlenlhlipmkeeaa.W
open Go Go.AM SchM
set_option linter.unusedVariables false
set_option maxRecDepth 100000
structure RO (h : AH) (X : Nat) (s : W) (P D : Nat) : Prop where
  g : h[X]? = some (.row (rrow s P 0 0 D) true)
  p : P ≤ s.length
structure RE (h : AH) (X : Nat) (s : W) (D : Nat) (e : Int) (a : Nat) : Prop where
  g : ∃ P : Nat, h[X]? = some (.row (rrow s P e a D) true) ∧ P ≤ s.length
  e : e ≠ 0
theorem RO.ex {h h' : AH} {X : Nat} {s : W} {P D : Nat} (r : RO h X s P D) (x : Ex h h') : RO h' X s P D := ⟨x.some r.g, r.p⟩
theorem RE.ex {h h' : AH} {X : Nat} {s : W} {D : Nat} {e : Int} {a : Nat} (r : RE h X s D e a) (x : Ex h h') : RE h' X s D e a := by
  obtain ⟨P, g, hP⟩ := r.g
  exact ⟨⟨P, x.some g, hP⟩, r.e⟩
def tok (s : W) (p : Nat) : W := if wordAt s p = [] then (match s[p]? with | some c => [c] | none => []) else wordAt s p
theorem wordAt_low (s : W) (p : Nat) : (wordAt s p).all low = true := by
  unfold wordAt
  exact List.all_takeWhile
theorem wordAt_first {s : W} {p : Nat} {c : UInt8} (h : s[p]? = some c) : (wordAt s p = [] ↔ low c = false) := by
  constructor
  · intro hn
    cases hl : low c with
    | false => rfl
    | true => rw [wordAt_cons h hl] at hn; cases hn
  · intro hl
    exact wordAt_nil fun c' hc' => by rw [h] at hc'; cases hc'; exact hl
theorem sgn_ch {s : W} {p : Nat} {c : UInt8} (hl : low c = false) (h0 : c ≠ 0) : s[p]? = some c ↔ sgn s p = ([], c) := by
  constructor
  · intro h
    have := (wordAt_first h).2 hl
    unfold sgn
    rw [if_neg (fun hn => hn this), h]
    simp [h0]
  · intro h
    unfold sgn at h
    by_cases hw : wordAt s p ≠ []
    · rw [if_pos hw] at h
      injection h with h1 h2
      exact absurd h2.symm h0
    · rw [if_neg hw] at h
      cases hc : s[p]? with
      | none => rw [hc] at h; injection h with h1 h2; exact absurd h2.symm h0
      | some c' =>
        rw [hc] at h
        dsimp only at h
        split at h
        · injection h with h1 h2; exact absurd h1 (by decide)
        · injection h with h1 h2; rw [h2]
theorem sgn_w {s : W} {p : Nat} {w : W} (hw : w ≠ []) (hn : w ≠ noneAt) : wordAt s p = w ↔ sgn s p = (w, 0) := by
  constructor
  · intro h
    unfold sgn
    rw [if_pos (by rw [h]; exact hw), h]
  · intro h
    unfold sgn at h
    by_cases hw' : wordAt s p ≠ []
    · rw [if_pos hw'] at h
      injection h
    · rw [if_neg hw'] at h
      cases hc : s[p]? with
      | none => rw [hc] at h; injection h with h1 h2; exact absurd h1.symm hw
      | some c' =>
        rw [hc] at h
        dsimp only at h
        split at h
        · injection h with h1 h2; exact absurd h1.symm hn
        · injection h with h1 h2; exact absurd h1.symm hw
theorem isName_w (s : W) (p : Nat) : isName (sgn s p).1 = isName (wordAt s p) := by
  unfold sgn
  by_cases hw : wordAt s p ≠ []
  · rw [if_pos hw]
  · rw [if_neg hw]
    have : wordAt s p = [] := Decidable.not_not.1 hw
    rw [this]
    cases hc : s[p]? with
    | none => rfl
    | some c => dsimp only; split <;> rfl
theorem sgn_name {s : W} {p : Nat} (h : isName (wordAt s p) = true) : (sgn s p).1 = wordAt s p ∧ tl s p = (wordAt s p).length := by
  have hw : wordAt s p ≠ [] := fun e => by rw [e] at h; exact absurd h (by decide)
  unfold sgn tl
  rw [if_pos hw, if_pos hw]
  exact ⟨rfl, rfl⟩
def Tk (w : W) (x : W × UInt8) : Prop := (x = (w, 0) ∧ 2 ≤ w.length ∧ w ≠ noneAt) ∨ ∃ c, w = [c] ∧ x = ([], c) ∧ low c = false ∧ c ≠ 0
theorem tok_iff {s : W} {p : Nat} {w : W} {x : W × UInt8} (hx : Tk w x) : tok s p = w ↔ sgn s p = x := by
  rcases hx with ⟨rfl, hl, hn⟩ | ⟨c, rfl, rfl, hl, h0⟩
  · have hw : w ≠ [] := fun e => by rw [e] at hl; simp at hl
    rw [← sgn_w hw hn]
    unfold tok
    by_cases h : wordAt s p = []
    · rw [if_pos h, h]
      constructor
      · intro e
        cases hc : s[p]? with
        | none => rw [hc] at e; exact e
        | some c => rw [hc] at e; dsimp only at e; rw [← e] at hl; simp at hl
      · intro e; exact absurd e.symm hw
    · rw [if_neg h]
  · rw [← sgn_ch hl h0]
    unfold tok
    by_cases h : wordAt s p = []
    · rw [if_pos h]
      cases hc : s[p]? with
      | none => simp
      | some c' => simp
    · rw [if_neg h]
      constructor
      · intro e
        have := wordAt_low s p
        rw [e] at this
        simp at this
        rw [hl] at this
        cases this
      · intro e
        exact absurd ((wordAt_first e).2 hl) h
theorem tok_tl {s : W} {p : Nat} {w : W} {x : W × UInt8} (hx : Tk w x) (h : sgn s p = x) : tl s p = w.length := by
  rcases hx with ⟨rfl, hl, hn⟩ | ⟨c, rfl, rfl, hl, h0⟩
  · have hw : w ≠ [] := fun e => by rw [e] at hl; simp at hl
    have := (sgn_w hw hn).2 h
    unfold tl
    rw [this, if_pos hw]
  · have hc := (sgn_ch hl h0).2 h
    have hn := (wordAt_first hc).2 hl
    unfold tl
    rw [if_neg (fun e => e hn), if_pos (List.getElem?_eq_some_iff.1 hc).1]
    rfl
section
variable {h : AH} {X P D : Nat} {s : W} {K : Value → AH → Prop}
theorem fail62' {e : Int} {a : Nat} (he : e ≠ 0) (r : RO h X s P D) (k : ∀ h' v, Chg (At X) h (At X) h' → RE h' X s D e a → isMv v → h'[X]? = some (.row (rrow s P e a D) true) → K v h') : callW Try.prog 62 [.pointer (some ⟨X, 0, none⟩), .int .i64 e, .int .i64 (a : Nat)] h K := by
  refine c62 ?_
  unfold s62
  refine n_rowv fun h1 x1 l1 g1 => ?_
  have g := x1.some r.g
  have lX := lt_of_get r.g
  refine w_nilc (w_offP (w_rdP g (v := .int .i64 0) rfl (w_eql (c_tt rfl ?_))))
  refine w_nilc (w_offP (w_stP g (by show 0 + 2 < 5; decide) rfl rfl ?_))
  have g2 : (h1.set X (.row ((rrow s P 0 0 D).set (0 + 2) (.int .i64 e)) true))[X]? = some (.row (rrow s P e 0 D) true) := get_set _ (lt_of_get g) _
  refine w_nilc (w_offP (w_stP g2 (by show 0 + 3 < 5; decide) rfl rfl ?_))
  have g3 : ((h1.set X (.row ((rrow s P 0 0 D).set (0 + 2) (.int .i64 e)) true)).set X (.row ((rrow s P e 0 D).set (0 + 3) (.int .i64 (a : Nat))) true))[X]? = some (.row (rrow s P e a D) true) := get_set _ (lt_of_get g2) _
  have c3 : Chg (At X) h1 (At X) ((h1.set X (.row ((rrow s P 0 0 D).set (0 + 2) (.int .i64 e)) true)).set X (.row ((rrow s P e 0 D).set (0 + 3) (.int .i64 (a : Nat))) true)) := (setX _).trans (setX _)
  generalize (h1.set X (.row ((rrow s P 0 0 D).set (0 + 2) (.int .i64 e)) true)).set X (.row ((rrow s P e 0 D).set (0 + 3) (.int .i64 (a : Nat))) true) = h3 at g3 c3 ⊢
  have nX : h.length ≠ X := by omega
  have g4 := (c3.get h.length (lt_of_get g1) nX).trans g1
  refine w_some (v := .agg #[.int .i64 0, .string (bs []), .slice none 0 0]) rfl ?_
  refine endM (n := 6) (by kernel_rfl) rfl g4 rfl ⟨_, [], _, _, _, rfl⟩ fun o => ?_
  exact k _ _ (((Chg.ex x1).trans c3).setNew (Nat.le_refl _) o) ⟨⟨P, (get_ne nX _).trans g3, r.p⟩, he⟩ ⟨_, [], _, _, _, rfl⟩ ((get_ne nX _).trans g3)
theorem fail62 {e : Int} {a : Nat} (he : e ≠ 0) (r : RO h X s P D) (k : ∀ h' v, Chg (At X) h (At X) h' → RE h' X s D e a → isMv v → True → K v h') : callW Try.prog 62 [.pointer (some ⟨X, 0, none⟩), .int .i64 e, .int .i64 (a : Nat)] h K :=
  fail62' he r fun h' v c r mv _ => k h' v c r mv trivial
theorem is76 {c : UInt8} (hs : s.length ≤ 100000) (r : RO h X s P D) (k : ∀ h', Chg (At X) h (At X) h' → RO h' X s (skip s P) D → K (.bool (decide (s[skip s P]? = some c))) h') : callW Try.prog 76 [.pointer (some ⟨X, 0, none⟩), .int .u8 c.toNat] h K := by
  refine c76 ?_
  unfold s76
  have hp := (skip_le s P r.p).2
  refine blanks42 r.g hs r.p fun h1 c1 g1 => ?_
  have k' := k h1 c1 ⟨g1, hp⟩
  clear k
  generalize skip s P = p at *
  refine w_nilc (w_offP (w_rdP g1 (v := .int .i64 p) rfl (w_nilc (w_offP (w_rdP g1 (v := .string (bs s)) rfl (w_lenStr (w_lss ?_)))))))
  by_cases q : (p : Int) < (s.length : Nat)
  · obtain ⟨b, hb⟩ := getElem?_of_lt (l := s) (i := p) (by omega)
    refine gd_tt q (gd_tt q (w_nilc (gd_tt q (w_offP (gd_tt q (hist_nil (w_rdP g1 (v := .string (bs s)) rfl (gd_tt q (gd_tt q (w_nilc (gd_tt q (w_offP (gd_tt q (hist_nil (w_rdP g1 (v := .int .i64 p) rfl (gd_tt q (w_idxStr (by omega) hb (gd_tt q (gd_tt q (w_eql (pk_tt q ?_)))))))))))))))))))))
    rw [hb] at k'
    have e : decide (some b = some c) = decide ((b.toNat : Int) = (c.toNat : Int)) := by
      rw [decide_eq_decide, u8_inj]
      exact ⟨fun h => by injection h, fun h => by rw [h]⟩
    rw [e] at k'
    exact k'
  · refine gd_tf q (gd_tf q (gd_tf q (gd_tf q (gd_tf q (gd_tf q (gd_tf q (gd_tf q (gd_tf q (gd_tf q (gd_tf q (pk_ff q ?_)))))))))))
    rw [List.getElem?_eq_none (by omega)] at k'
    have e : decide ((none : Option UInt8) = some c) = false := by rw [decide_eq_false_iff_not]; exact fun h => by cases h
    rw [e] at k'
    exact k'
theorem take40' {w : W} {x : W × UInt8} (hx : Tk w x) (hs : s.length ≤ 100000) (hwl : w.length ≤ 1000) (r : RO h X s P D) (k1 : sgn s (skip s P) = x → ∀ h', Chg (At X) h (At X) h' → RO h' X s (skip s P + tl s (skip s P)) D → K (.tuple #[]) h') (k2 : ¬ sgn s (skip s P) = x → ∀ h', Chg (At X) h (At X) h' → RE h' X s D 1 (skip s P) → h'[X]? = some (.row (rrow s (skip s P : Nat) 1 (skip s P : Nat) D) true) → K (.tuple #[]) h') :
    callW Try.prog 40 [.pointer (some ⟨X, 0, none⟩), .string (bs w)] h K := by
  refine c40 ?_
  unfold s40
  have hp := (skip_le s P r.p).2
  refine word61 r.g hs r.p fun h1 c1 g1 => ?_
  generalize skip s P = p at *
  have tlp := tl_le s p hp
  have fin : ∀ (t : W), t = tok s p → (optW (pBin Try.prog .neq 9 (.string (bs t)) (.string (bs w))) fun v37 => condW v37 (
      optW (pNilCheck (.pointer (some ⟨X, 0, none⟩))) fun v40 => optW (pOff 1 v40) fun v41 => optW (rdRow false 1 v41 h1) fun v42 => callW Try.prog 62 [.pointer (some ⟨X, 0, none⟩), (.int .i64 1), v42] h1 fun v43 h_12 => K (.tuple #[]) h_12) (
      optW (pNilCheck (.pointer (some ⟨X, 0, none⟩))) fun v46 => optW (pOff 1 v46) fun v47 => optW (rdRow false 1 v47 h1) fun v48 => optW (lenStr (.string (bs w))) fun v50 => optW (pBin Try.prog .add 3 v48 v50) fun v51 => optW (pNilCheck (.pointer (some ⟨X, 0, none⟩))) fun v52 => optW (pOff 1 v52) fun v53 => optW (pStore 1 v53 v51 h1) fun h_13 => K (.tuple #[]) h_13)) := fun t ht => by
    refine w_sneq (c_dec (fun q => ?_) (fun q => ?_))
    · refine w_nilc (w_offP (w_rdP g1 (v := .int .i64 p) rfl (fail62' (by decide) ⟨g1, hp⟩ fun h2 v c2 r2 _ g2 => ?_)))
      exact k2 (fun e => q (by rw [ht]; exact (tok_iff hx).2 e)) h2 (c1.trans c2) r2 g2
    · have e1 : sgn s p = x := (tok_iff hx).1 (by rw [← ht]; exact Decidable.not_not.1 q)
      have e2 := tok_tl hx e1
      refine w_nilc (w_offP (w_rdP g1 (v := .int .i64 p) rfl (w_lenStr (w_add (by omega) (by omega) (w_nilc (w_offP (w_stP g1 (by show 0 + 1 < 5; decide) rfl rfl ?_)))))))
      refine k1 e1 _ (c1.trans (setX _)) ⟨?_, tlp⟩
      rw [get_set _ (lt_of_get g1), e2]
      rfl
  refine w_seql ?_
  by_cases q : wordAt s p = []
  · refine gd_tt q (gd_tt q (w_nilc (gd_tt q (w_offP (gd_tt q (hist_nil (w_rdP g1 (v := .int .i64 p) rfl (gd_tt q (gd_tt q (w_nilc (gd_tt q (w_offP (gd_tt q (hist_nil (w_rdP g1 (v := .string (bs s)) rfl (gd_tt q (w_lenStr (gd_tt q (w_lss (pk_tt q (c_dec (fun q2 => ?_) (fun q2 => ?_))))))))))))))))))))))
    · obtain ⟨b, hb⟩ := getElem?_of_lt (l := s) (i := p) (by omega)
      refine w_nilc (w_offP (w_rdP g1 (v := .string (bs s)) rfl (w_nilc (w_offP (w_rdP g1 (v := .int .i64 p) rfl (w_nilc (w_offP (w_rdP g1 (v := .int .i64 p) rfl (w_add (by omega) (by omega) (w_subStr (by omega) (by omega) (by omega) ?_))))))))))
      refine fin _ ?_
      unfold tok
      rw [if_pos q, hb]
      have e1 : ((p : Int) + 1).toNat - ((p : Nat) : Int).toNat = 1 := by omega
      rw [e1, Int.toNat_natCast, List.take_one, List.head?_drop, hb]
      rfl
    · refine fin _ ?_
      unfold tok
      rw [if_pos q, q, List.getElem?_eq_none (by omega)]
  · refine gd_tf q (gd_tf q (gd_tf q (gd_tf q (gd_tf q (gd_tf q (gd_tf q (gd_tf q (gd_tf q (gd_tf q (pk_ff q (c_f ?_)))))))))))
    refine fin _ ?_
    unfold tok
    rw [if_neg q]
theorem take40 {w : W} {x : W × UInt8} (hx : Tk w x) (hs : s.length ≤ 100000) (hwl : w.length ≤ 1000) (r : RO h X s P D) (k1 : sgn s (skip s P) = x → ∀ h', Chg (At X) h (At X) h' → RO h' X s (skip s P + tl s (skip s P)) D → K (.tuple #[]) h') (k2 : ¬ sgn s (skip s P) = x → ∀ h', Chg (At X) h (At X) h' → RE h' X s D 1 (skip s P) → K (.tuple #[]) h') :
    callW Try.prog 40 [.pointer (some ⟨X, 0, none⟩), .string (bs w)] h K :=
  take40' hx hs hwl r k1 fun q h' c r _ => k2 q h' c r
theorem name41 (hs : s.length ≤ 100000) (r : RO h X s P D) (k1 : isName (sgn s (skip s P)).1 = true → ∀ h', Chg (At X) h (At X) h' → RO h' X s (skip s P + tl s (skip s P)) D → K (.string (bs (sgn s (skip s P)).1)) h') (k2 : isName (sgn s (skip s P)).1 = false → ∀ h', Chg (At X) h (At X) h' → RE h' X s D 1 (skip s P) → K (.string (bs [])) h') :
    callW Try.prog 41 [.pointer (some ⟨X, 0, none⟩)] h K := by
  refine c41 ?_
  unfold s41
  have hp := (skip_le s P r.p).2
  refine word61 r.g hs r.p fun h1 c1 g1 => ?_
  generalize skip s P = p at *
  have tlp := tl_le s p hp
  have hwl := wordAt_len s p
  rw [isName_w] at k1 k2
  refine letters53 (by omega) (wordAt_low s p) (w_notb ?_)
  have bad : isName (wordAt s p) = false → (optW (pNilCheck (.pointer (some ⟨X, 0, none⟩))) fun v15 => optW (pOff 1 v15) fun v16 => optW (rdRow false 1 v16 h1) fun v17 => callW Try.prog 62 [.pointer (some ⟨X, 0, none⟩), (.int .i64 1), v17] h1 fun v18 h_6 => K (.string (bs [])) h_6) := fun hn =>
    w_nilc (w_offP (w_rdP g1 (v := .int .i64 p) rfl (fail62 (by decide) ⟨g1, hp⟩ fun h2 v c2 r2 _ _ => k2 hn h2 (c1.trans c2) r2)))
  by_cases q : wordAt s p ≠ [] ∧ (wordAt s p).length ≤ 8
  · rw [decide_eq_true q]
    refine gc_ff (gc_ff (kept63 (pk_f (c_dec (fun q2 => ?_) (fun q2 => ?_)))))
    · exact bad (by unfold isName; rw [decide_eq_false_iff_not]; exact fun h => h.2.2 q2)
    · have hn : isName (wordAt s p) = true := by unfold isName; rw [decide_eq_true_eq]; exact ⟨q.1, q.2, q2⟩
      obtain ⟨e1, e2⟩ := sgn_name hn
      refine w_nilc (w_offP (w_rdP g1 (v := .int .i64 p) rfl (w_lenStr (w_add (by omega) (by omega) (w_nilc (w_offP (w_stP g1 (by show 0 + 1 < 5; decide) rfl rfl ?_)))))))
      have := k1 hn _ (c1.trans (setX (.row ((rrow s p 0 0 D).set (0 + 1) (.int .i64 ((p : Int) + ((wordAt s p).length : Nat)))) true))) ⟨by rw [get_set _ (lt_of_get g1), e2]; rfl, tlp⟩
      rw [e1] at this
      exact this
  · rw [decide_eq_false q]
    refine gc_ft (gc_ft (pk_t (c_t ?_)))
    exact bad (by unfold isName; rw [decide_eq_false_iff_not]; exact fun h => q ⟨h.1, h.2.1⟩)
end
end Go.Proofs.Ytlenlhlipmkeeaa.W
end

section
/- Schema's laws: the document's reader: rows of models. Conditions: none. -/
namespace Go.Proofs.Ytlenlhlipmkeeaa.W
open Go Go.AM SchM
set_option linter.unusedVariables false
set_option maxRecDepth 100000
def RSpec (X : Nat) (s : W) (f : FuncId) (D lo : Nat) (Rf : Nat → R Mdl) : Prop :=
  ∀ (h : AH) (P p : Nat) (K : Value → AH → Prop), skip s P = p → lo ≤ p → RO h X s P D →
    (∀ v h' m q P', Rf p = .ok m q → Chg (At X) h (At X) h' → RO h' X s P' D → skip s P' = q → MG h.length h' (At X) m v → K v h') →
    (∀ v h' e a, Rf p = .bad e a → Chg (At X) h (At X) h' → RE h' X s D e a → isMv v → K v h') → callW Try.prog f [.pointer (some ⟨X, 0, none⟩)] h K
set_option maxHeartbeats 1000000 in
theorem rseq75 {X : Nat} {s : W} {D lo : Nat} {Rf : Nat → R Mdl} (hs : s.length ≤ 2000) (hS : RSpec X s 92 D lo Rf) (hmono : ∀ p m q, p ≤ s.length → Rf p = .ok m q → p < q) : RSpec X s 75 D lo (SchM.row s 5 44 Rf) := by
  intro h P p K hsk hp r k1 k2
  refine c75 ?_
  unfold s75
  refine n_rowv fun h1 x1 l1 g1 => ?_
  have lX := lt_of_get r.g
  have hpl : p ≤ s.length := by rw [← hsk]; exact (skip_le s P r.p).2
  have r1 := r.ex x1
  have cx := Chg.ex (F := At X) x1
  have fin : ∀ (E : Env) (h' : AH) (v : Value) (m : Mdl) (q P' : Nat), E 2 = .pointer (some ⟨h.length, 0, none⟩) → Chg (At X) h1 (At X) h' → RO h' X s P' D → skip s P' = q → MG h1.length h' (At X) m v → SchM.row s 5 44 Rf p = .ok m q →
      optW (pStore 3 (.pointer (some ⟨h.length, 0, none⟩)) v h') fun h'' => optW (resList Try.prog E h'' Try.f75.results.toList) fun vs => K (resOf vs) h'' := fun E h' v m q P' hE c' r' hq mv ha => by
    have nX : h.length ≠ X := by omega
    have g' : h'[h.length]? = some (.row [(.int .i64 0), (.string (bs [])), (.slice none 0 0)] true) := (c'.get _ (by omega) nX).trans g1
    refine endM (n := 2) (by kernel_rfl) hE g' rfl mv.shape fun o => ?_
    exact k1 v _ m q P' ha ((cx.trans c').setNew (Nat.le_refl _) o) ⟨(get_ne nX _).trans r'.g, r'.p⟩ hq ((mv.setNew (fun hg => by have := hg.1; omega) o).low (by omega))
  have finE : ∀ (E : Env) (h' : AH) (v : Value) (e : Int) (a : Nat), E 2 = .pointer (some ⟨h.length, 0, none⟩) → Chg (At X) h1 (At X) h' → RE h' X s D e a → isMv v → SchM.row s 5 44 Rf p = .bad e a →
      optW (pStore 3 (.pointer (some ⟨h.length, 0, none⟩)) v h') fun h'' => optW (resList Try.prog E h'' Try.f75.results.toList) fun vs => K (resOf vs) h'' := fun E h' v e a hE c' r' mv ha => by
    have nX : h.length ≠ X := by omega
    have g' : h'[h.length]? = some (.row [(.int .i64 0), (.string (bs [])), (.slice none 0 0)] true) := (c'.get _ (by omega) nX).trans g1
    refine endM (n := 2) (by kernel_rfl) hE g' rfl mv fun o => ?_
    obtain ⟨P', gr, hP'⟩ := r'.g
    exact k2 v _ e a ha ((cx.trans c').setNew (Nat.le_refl _) o) ⟨⟨P', (get_ne nX _).trans gr, hP'⟩, r'.e⟩ mv
  refine hS h1 P p _ hsk hp r1 (fun v h2 m q P2 hm c2 r2 hq2 m2 => ?_) (fun v h2 e a hm c2 r2 m2 => ?_)
  · obtain ⟨k', n', a', ll, cc, ev⟩ := m2.shape
    subst ev
    refine w_some (bldSl_one (v := .agg #[.int .i64 k', .string (bs n'), .slice a' ll cc]) rfl (by decide) rfl rfl) ?_
    refine n_newv fun h3 x3 l3 g3 => ?_
    have hq := hmono p m q hpl hm
    have hrow : SchM.row s 5 44 Rf p = match more s Rf 44 (s.length + 1) q [m] with
        | .bad e a => .bad e a
        | .ok l q => .ok (several 5 l) q := by unfold SchM.row; rw [hm]; rfl
    have nf2 : ¬ (At X) h2.length := fun hf => by have : h2.length = X := hf; have := c2.len; omega
    have L3 : LL h1.length h3 (At X) (.slice (some ⟨h2.length, 0, none⟩) 1 1) [m] := by
      refine ⟨⟨_, .inl ⟨h2.length, rfl, rfl, ⟨c2.len, by omega, nf2⟩, g3, rfl⟩, ?_⟩⟩
      unfold ML
      refine ⟨_, _, _, [], rfl, MH.mono (fun j gj => ⟨x3.get j gj.2.1, ⟨gj.1, x3.lt gj.2.1, gj.2.2⟩, fun hon => by have : h2.length = j := hon; have := gj.2.1; omega⟩) m _ m2, by unfold ML; rfl⟩
    refine loopE_intro (fun mm e h' => e 0 = .pointer (some ⟨X, 0, none⟩) ∧ e 2 = .pointer (some ⟨h.length, 0, none⟩) ∧ Chg (At X) h1 (At X) h' ∧
        ((∃ (k : Nat) (l : List Mdl) (q' P' : Nat), mm = k + 1 ∧ RO h' X s P' D ∧ skip s P' = q' ∧ LL h1.length h' (At X) (e 3) l ∧ more s Rf 44 (s.length + 1) q [m] = more s Rf 44 k q' l ∧ s.length < q' + k ∧ l.length ≤ q' ∧ 0 < l.length ∧ p ≤ q') ∨
         (∃ (er : Int) (a : Nat) (n : Nat) (cs : List Value), mm = 0 ∧ RE h' X s D er a ∧ Sl 3 h' (e 3) n cs ∧ 2 ≤ n ∧ n ≤ 100000 ∧ SchM.row s 5 44 Rf p = .bad er a))) (s.length + 2)
      ⟨rfl, rfl, c2.trans (Chg.ex x3), .inl ⟨s.length + 1, [m], q, P2, rfl, r2.ex x3, hq2, L3, rfl, by omega, by simp; omega, by simp, by omega⟩⟩ ?_
    rintro I mm e h4 ⟨e0, e2, c4, hmode⟩ ih
    rw [e0, e2]
    rcases hmode with ⟨k, l, q', P', hmm, r4, hq4, L4, hmore, hk, hl, hl0, hpq⟩ | ⟨er, a, n, cs, hmm, r4, sl4, hn2, hn, hbad⟩
    · have hq' : q' ≤ s.length := by rw [← hq4]; exact (skip_le s P' r4.p).2
      have y0 : (0 : Int) = 0 := rfl
      refine w_nilc (w_offP (w_rdP r4.g (v := .int .i64 0) rfl (w_eql (g_tt y0 (g_tt y0 ?_)))))
      refine is76 (c := 44) (by omega) r4 fun h5 c5 r5 => ?_
      rw [hq4] at r5 ⊢
      have L5 := L4.chg c5
      have c15 := c4.trans c5
      refine pk_tt y0 (c_dec (fun qs => ?_) (fun qs => ?_))
      · have qs' := (sgn_ch (c := 44) (by decide) (by decide)).1 qs
        have htl := tok_tl (w := [44]) (.inr ⟨44, rfl, rfl, by decide, by decide⟩) qs'
        obtain ⟨k0, rfl⟩ : ∃ k0, k = k0 + 1 := by
          match k, hk with
          | 0, hk => omega
          | k0 + 1, _ => exact ⟨k0, rfl⟩
        have e1 : more s Rf 44 (k0 + 1) q' l = match Rf (adv s q') with
            | .bad e a => .bad e a
            | .ok m q => more s Rf 44 k0 q (l ++ [m]) := by rw [more, if_pos qs']; rfl
        rw [e1] at hmore
        have hadv := adv_gt hq' (by rw [qs']; decide)
        have hq1 : q' < s.length := (List.getElem?_eq_some_iff.1 qs).1
        have ea : skip s (q' + 1) = adv s q' := by unfold adv; rw [htl]; rfl
        refine w_nilc (w_offP (w_rdP r5.g (v := .int .i64 q') rfl (w_add (by omega) (by omega) (w_nilc (w_offP (w_stP r5.g (by show 0 + 1 < 5; decide) rfl rfl ?_))))))
        have r6 : RO (h5.set X (.row ((rrow s q' 0 0 D).set (0 + 1) (.int .i64 ((q' : Int) + 1))) true)) X s (q' + 1) D := ⟨get_set _ (lt_of_get r5.g) _, by omega⟩
        have c6 : Chg (At X) h5 (At X) (h5.set X (.row ((rrow s q' 0 0 D).set (0 + 1) (.int .i64 ((q' : Int) + 1))) true)) := setX _
        generalize h5.set X (.row ((rrow s q' 0 0 D).set (0 + 1) (.int .i64 ((q' : Int) + 1))) true) = h6 at r6 c6 ⊢
        have L6 := L5.chg c6
        have c16 := c15.trans c6
        refine hS h6 (q' + 1) (adv s q') _ ea (by omega) r6 (fun v2 h7 m7 q7 P7 hm7 c7 r7 hq7 m7' => ?_) (fun v2 h7 er a hm7 c7 r7 m7' => ?_)
        · rw [hm7] at hmore
          dsimp only at hmore
          have hqq := hmono _ _ _ (adv_le s q' hq') hm7
          have L7 := L6.chg c7
          obtain ⟨cs6, gs6, _⟩ := L6.ex
          have hm7' : MH h7 (fun j => Gd h1.length h7 (At X) j ∧ ¬ onId (e 3) j) m7 v2 := MH.mono (fun j gj => ⟨rfl, ⟨by have := c16.len; have := gj.1; omega, gj.2⟩, fun hon => by have := (gs6.on hon).2.1; have := gj.1; omega⟩) m7 v2 m7'
          have fb7 : ∀ j, (At X) j → j < h7.length := fun j hj => by have : j = X := hj; rw [this]; exact lt_of_get r7.g
          refine L7.app (h0 := h1) (F0 := At X) hm7' rfl (by omega) hl0 (c16.trans c7) (Nat.le_refl _) ((c16.trans c7).len) fb7 fun _ _ v8 h8 c8 same8 len8 L8 => ?_
          obtain ⟨cs7, gs7, _⟩ := L7.ex
          have r8 : RO h8 X s P7 D := ⟨(same8 X (lt_of_get r7.g) fun hon => (gs7.on hon).2.2 rfl).trans r7.g, r7.p⟩
          exact ih (k0 + 1) _ _ (by omega) ⟨e0, e2, c8, .inl ⟨k0, l ++ [m7], q7, P7, rfl, r8, hq7, L8, hmore, by omega, by simp; omega, by simp, by omega⟩⟩
        · rw [hm7] at hmore
          dsimp only at hmore
          have L7 := L6.chg c7
          obtain ⟨cs7, gs7, _⟩ := L7.ex
          obtain ⟨k6, n6, a6, l6, cc6, e6⟩ := m7'
          obtain ⟨P7, g7, hP7⟩ := r7.g
          have fb7 : ∀ j, (At X) j → j < h7.length := fun j hj => by have : j = X := hj; rw [this]; exact lt_of_get g7
          refine gs7.app (h0 := h1) (F0 := At X) e6 rfl (by omega) hl0 (c16.trans c7) (Nat.le_refl _) ((c16.trans c7).len) fb7 fun _ _ v8 h8 c8 same8 len8 ids8 gs8 => ?_
          have r8 : RE h8 X s D er a := ⟨⟨P7, (same8 X (lt_of_get g7) fun hon => (gs7.on hon).2.2 rfl).trans g7, hP7⟩, r7.e⟩
          refine ih 0 _ _ (by omega) ⟨e0, e2, c8, .inr ⟨er, a, l.length + 1, _, rfl, r8, gs8.sl, by omega, by omega, ?_⟩⟩
          rw [hrow, hmore]
      · have qs' : ¬ sgn s q' = ([], 44) := fun e => qs ((sgn_ch (c := 44) (by decide) (by decide)).2 e)
        have hfin : SchM.row s 5 44 Rf p = .ok (several 5 l) q' := by
          rw [hrow, hmore]
          match k, hk with
          | 0, hk => rfl
          | k0 + 1, _ => rw [more, if_neg qs']
        obtain ⟨cs, gs, ml⟩ := L5.ex
        have sl := gs.sl
        obtain ⟨sa, cap, ev⟩ := sl.shape
        rw [ev] at sl gs ml ⊢
        have hqs : skip s q' = q' := by rw [← hq4]; exact skip_skip s P'
        refine w_lenSl (w_eql (c_dec (fun q1 => ?_) (fun q1 => ?_)))
        · obtain ⟨m1, rfl⟩ : ∃ m, l = [m] := by
            match l, hl0, q1 with
            | [m], _, _ => exact ⟨m, rfl⟩
            | _ :: _ :: l, _, q1 => simp at q1; omega
          unfold ML at ml
          obtain ⟨x, y, z, rest, rfl, hm1, hr1⟩ := ml
          unfold ML at hr1
          subst hr1
          refine w_idx sl (by omega) (by show (0 : Int) < ((1 : Nat) : Int); omega) fun pp hpp => ?_
          have hpp' : PtrTo h5 pp [x, y, z] := hpp
          refine w_rdA hpp' rfl ?_
          exact fin _ h5 (.agg #[x, y, z]) m1 q' q' e2 c15 r5 hqs (MH.mono (fun j gj => ⟨rfl, gj.1⟩) m1 _ hm1) hfin
        · refine w_some (v := .agg #[.int .i64 5, .string (bs []), .slice sa l.length cap]) rfl ?_
          have es : several 5 l = .mk 5 [] l := by
            unfold several
            split
            · simp at q1
            · rfl
          refine fin _ h5 _ (several 5 l) q' q' e2 c15 r5 hqs ?_ hfin
          rw [es]
          show MH _ _ _ _
          unfold MH
          exact ⟨sa, cap, cs, rfl, sl, fun j hj => gs.on hj, ML.mono (fun j gj => ⟨rfl, gj.1⟩) l cs ml⟩
    · obtain ⟨P4, g4, _⟩ := r4.g
      refine w_nilc (w_offP (w_rdP g4 (v := .int .i64 er) rfl (w_eql (g_tf r4.e (g_tf r4.e (pk_ff r4.e (c_f ?_)))))))
      obtain ⟨sa, cap, e3⟩ := sl4.shape
      rw [e3]
      refine w_lenSl (w_eql (c_ff (by omega) ?_))
      refine w_some (v := .agg #[.int .i64 5, .string (bs []), .slice sa n cap]) rfl ?_
      exact finE _ h4 _ er a e2 c4 r4 ⟨_, [], _, _, _, rfl⟩ hbad
  · obtain ⟨k', n', a', ll, cc, ev⟩ := m2
    subst ev
    refine w_some (bldSl_one (v := .agg #[.int .i64 k', .string (bs n'), .slice a' ll cc]) rfl (by decide) rfl rfl) ?_
    refine n_newv fun h3 x3 l3 g3 => ?_
    have hbad : SchM.row s 5 44 Rf p = .bad e a := by unfold SchM.row; rw [hm]
    refine loopE_intro (fun mm e' h' => mm = 0 ∧ e' 0 = .pointer (some ⟨X, 0, none⟩) ∧ e' 2 = .pointer (some ⟨h.length, 0, none⟩) ∧ e' 3 = .slice (some ⟨h2.length, 0, none⟩) 1 1 ∧ h' = h3) 0 ⟨rfl, rfl, rfl, rfl, rfl⟩ ?_
    rintro I mm e' h4 ⟨_, e0, e2, e3, rfl⟩ ih
    rw [e0, e2, e3]
    have r4 := r2.ex x3
    obtain ⟨P4, g4, _⟩ := r4.g
    refine w_nilc (w_offP (w_rdP g4 (v := .int .i64 e) rfl (w_eql (g_tf r4.e (g_tf r4.e (pk_ff r4.e (c_f ?_)))))))
    refine w_lenSl (w_eql (c_tt rfl ?_))
    refine w_some (v := .pointer (some ⟨h2.length, 0, none⟩)) rfl ?_
    refine w_rdPA g3 (Nat.le_refl 3) ?_
    exact finE _ h4 (.agg #[.int .i64 k', .string (bs n'), .slice a' ll cc]) e a e2 (c2.trans (Chg.ex x3)) r4 ⟨_, n', _, _, _, rfl⟩ hbad
set_option maxHeartbeats 1000000 in
theorem ror64 {X : Nat} {s : W} {D lo : Nat} {Rf : Nat → R Mdl} (hs : s.length ≤ 2000) (hS : RSpec X s 75 D lo Rf) (hmono : ∀ p m q, p ≤ s.length → Rf p = .ok m q → p < q) : RSpec X s 64 D lo (SchM.row s 6 124 Rf) := by
  intro h P p K hsk hp r k1 k2
  refine c64 ?_
  unfold s64
  refine n_rowv fun h1 x1 l1 g1 => ?_
  have lX := lt_of_get r.g
  have hpl : p ≤ s.length := by rw [← hsk]; exact (skip_le s P r.p).2
  have r1 := r.ex x1
  have cx := Chg.ex (F := At X) x1
  have fin : ∀ (E : Env) (h' : AH) (v : Value) (m : Mdl) (q P' : Nat), E 2 = .pointer (some ⟨h.length, 0, none⟩) → Chg (At X) h1 (At X) h' → RO h' X s P' D → skip s P' = q → MG h1.length h' (At X) m v → SchM.row s 6 124 Rf p = .ok m q →
      optW (pStore 3 (.pointer (some ⟨h.length, 0, none⟩)) v h') fun h'' => optW (resList Try.prog E h'' Try.f64.results.toList) fun vs => K (resOf vs) h'' := fun E h' v m q P' hE c' r' hq mv ha => by
    have nX : h.length ≠ X := by omega
    have g' : h'[h.length]? = some (.row [(.int .i64 0), (.string (bs [])), (.slice none 0 0)] true) := (c'.get _ (by omega) nX).trans g1
    refine endM (n := 2) (by kernel_rfl) hE g' rfl mv.shape fun o => ?_
    exact k1 v _ m q P' ha ((cx.trans c').setNew (Nat.le_refl _) o) ⟨(get_ne nX _).trans r'.g, r'.p⟩ hq ((mv.setNew (fun hg => by have := hg.1; omega) o).low (by omega))
  have finE : ∀ (E : Env) (h' : AH) (v : Value) (e : Int) (a : Nat), E 2 = .pointer (some ⟨h.length, 0, none⟩) → Chg (At X) h1 (At X) h' → RE h' X s D e a → isMv v → SchM.row s 6 124 Rf p = .bad e a →
      optW (pStore 3 (.pointer (some ⟨h.length, 0, none⟩)) v h') fun h'' => optW (resList Try.prog E h'' Try.f64.results.toList) fun vs => K (resOf vs) h'' := fun E h' v e a hE c' r' mv ha => by
    have nX : h.length ≠ X := by omega
    have g' : h'[h.length]? = some (.row [(.int .i64 0), (.string (bs [])), (.slice none 0 0)] true) := (c'.get _ (by omega) nX).trans g1
    refine endM (n := 2) (by kernel_rfl) hE g' rfl mv fun o => ?_
    obtain ⟨P', gr, hP'⟩ := r'.g
    exact k2 v _ e a ha ((cx.trans c').setNew (Nat.le_refl _) o) ⟨⟨P', (get_ne nX _).trans gr, hP'⟩, r'.e⟩ mv
  refine hS h1 P p _ hsk hp r1 (fun v h2 m q P2 hm c2 r2 hq2 m2 => ?_) (fun v h2 e a hm c2 r2 m2 => ?_)
  · obtain ⟨k', n', a', ll, cc, ev⟩ := m2.shape
    subst ev
    refine w_some (bldSl_one (v := .agg #[.int .i64 k', .string (bs n'), .slice a' ll cc]) rfl (by decide) rfl rfl) ?_
    refine n_newv fun h3 x3 l3 g3 => ?_
    have hq := hmono p m q hpl hm
    have hrow : SchM.row s 6 124 Rf p = match more s Rf 124 (s.length + 1) q [m] with
        | .bad e a => .bad e a
        | .ok l q => .ok (several 6 l) q := by unfold SchM.row; rw [hm]; rfl
    have nf2 : ¬ (At X) h2.length := fun hf => by have : h2.length = X := hf; have := c2.len; omega
    have L3 : LL h1.length h3 (At X) (.slice (some ⟨h2.length, 0, none⟩) 1 1) [m] := by
      refine ⟨⟨_, .inl ⟨h2.length, rfl, rfl, ⟨c2.len, by omega, nf2⟩, g3, rfl⟩, ?_⟩⟩
      unfold ML
      refine ⟨_, _, _, [], rfl, MH.mono (fun j gj => ⟨x3.get j gj.2.1, ⟨gj.1, x3.lt gj.2.1, gj.2.2⟩, fun hon => by have : h2.length = j := hon; have := gj.2.1; omega⟩) m _ m2, by unfold ML; rfl⟩
    refine loopE_intro (fun mm e h' => e 0 = .pointer (some ⟨X, 0, none⟩) ∧ e 2 = .pointer (some ⟨h.length, 0, none⟩) ∧ Chg (At X) h1 (At X) h' ∧
        ((∃ (k : Nat) (l : List Mdl) (q' P' : Nat), mm = k + 1 ∧ RO h' X s P' D ∧ skip s P' = q' ∧ LL h1.length h' (At X) (e 3) l ∧ more s Rf 124 (s.length + 1) q [m] = more s Rf 124 k q' l ∧ s.length < q' + k ∧ l.length ≤ q' ∧ 0 < l.length ∧ p ≤ q') ∨
         (∃ (er : Int) (a : Nat) (n : Nat) (cs : List Value), mm = 0 ∧ RE h' X s D er a ∧ Sl 3 h' (e 3) n cs ∧ 2 ≤ n ∧ n ≤ 100000 ∧ SchM.row s 6 124 Rf p = .bad er a))) (s.length + 2)
      ⟨rfl, rfl, c2.trans (Chg.ex x3), .inl ⟨s.length + 1, [m], q, P2, rfl, r2.ex x3, hq2, L3, rfl, by omega, by simp; omega, by simp, by omega⟩⟩ ?_
    rintro I mm e h4 ⟨e0, e2, c4, hmode⟩ ih
    rw [e0, e2]
    rcases hmode with ⟨k, l, q', P', hmm, r4, hq4, L4, hmore, hk, hl, hl0, hpq⟩ | ⟨er, a, n, cs, hmm, r4, sl4, hn2, hn, hbad⟩
    · have hq' : q' ≤ s.length := by rw [← hq4]; exact (skip_le s P' r4.p).2
      have y0 : (0 : Int) = 0 := rfl
      refine w_nilc (w_offP (w_rdP r4.g (v := .int .i64 0) rfl (w_eql (g_tt y0 (g_tt y0 ?_)))))
      refine is76 (c := 124) (by omega) r4 fun h5 c5 r5 => ?_
      rw [hq4] at r5 ⊢
      have L5 := L4.chg c5
      have c15 := c4.trans c5
      refine pk_tt y0 (c_dec (fun qs => ?_) (fun qs => ?_))
      · have qs' := (sgn_ch (c := 124) (by decide) (by decide)).1 qs
        have htl := tok_tl (w := [124]) (.inr ⟨124, rfl, rfl, by decide, by decide⟩) qs'
        obtain ⟨k0, rfl⟩ : ∃ k0, k = k0 + 1 := by
          match k, hk with
          | 0, hk => omega
          | k0 + 1, _ => exact ⟨k0, rfl⟩
        have e1 : more s Rf 124 (k0 + 1) q' l = match Rf (adv s q') with
            | .bad e a => .bad e a
            | .ok m q => more s Rf 124 k0 q (l ++ [m]) := by rw [more, if_pos qs']; rfl
        rw [e1] at hmore
        have hadv := adv_gt hq' (by rw [qs']; decide)
        have hq1 : q' < s.length := (List.getElem?_eq_some_iff.1 qs).1
        have ea : skip s (q' + 1) = adv s q' := by unfold adv; rw [htl]; rfl
        refine w_nilc (w_offP (w_rdP r5.g (v := .int .i64 q') rfl (w_add (by omega) (by omega) (w_nilc (w_offP (w_stP r5.g (by show 0 + 1 < 5; decide) rfl rfl ?_))))))
        have r6 : RO (h5.set X (.row ((rrow s q' 0 0 D).set (0 + 1) (.int .i64 ((q' : Int) + 1))) true)) X s (q' + 1) D := ⟨get_set _ (lt_of_get r5.g) _, by omega⟩
        have c6 : Chg (At X) h5 (At X) (h5.set X (.row ((rrow s q' 0 0 D).set (0 + 1) (.int .i64 ((q' : Int) + 1))) true)) := setX _
        generalize h5.set X (.row ((rrow s q' 0 0 D).set (0 + 1) (.int .i64 ((q' : Int) + 1))) true) = h6 at r6 c6 ⊢
        have L6 := L5.chg c6
        have c16 := c15.trans c6
        refine hS h6 (q' + 1) (adv s q') _ ea (by omega) r6 (fun v2 h7 m7 q7 P7 hm7 c7 r7 hq7 m7' => ?_) (fun v2 h7 er a hm7 c7 r7 m7' => ?_)
        · rw [hm7] at hmore
          dsimp only at hmore
          have hqq := hmono _ _ _ (adv_le s q' hq') hm7
          have L7 := L6.chg c7
          obtain ⟨cs6, gs6, _⟩ := L6.ex
          have hm7' : MH h7 (fun j => Gd h1.length h7 (At X) j ∧ ¬ onId (e 3) j) m7 v2 := MH.mono (fun j gj => ⟨rfl, ⟨by have := c16.len; have := gj.1; omega, gj.2⟩, fun hon => by have := (gs6.on hon).2.1; have := gj.1; omega⟩) m7 v2 m7'
          have fb7 : ∀ j, (At X) j → j < h7.length := fun j hj => by have : j = X := hj; rw [this]; exact lt_of_get r7.g
          refine L7.app (h0 := h1) (F0 := At X) hm7' rfl (by omega) hl0 (c16.trans c7) (Nat.le_refl _) ((c16.trans c7).len) fb7 fun _ _ v8 h8 c8 same8 len8 L8 => ?_
          obtain ⟨cs7, gs7, _⟩ := L7.ex
          have r8 : RO h8 X s P7 D := ⟨(same8 X (lt_of_get r7.g) fun hon => (gs7.on hon).2.2 rfl).trans r7.g, r7.p⟩
          exact ih (k0 + 1) _ _ (by omega) ⟨e0, e2, c8, .inl ⟨k0, l ++ [m7], q7, P7, rfl, r8, hq7, L8, hmore, by omega, by simp; omega, by simp, by omega⟩⟩
        · rw [hm7] at hmore
          dsimp only at hmore
          have L7 := L6.chg c7
          obtain ⟨cs7, gs7, _⟩ := L7.ex
          obtain ⟨k6, n6, a6, l6, cc6, e6⟩ := m7'
          obtain ⟨P7, g7, hP7⟩ := r7.g
          have fb7 : ∀ j, (At X) j → j < h7.length := fun j hj => by have : j = X := hj; rw [this]; exact lt_of_get g7
          refine gs7.app (h0 := h1) (F0 := At X) e6 rfl (by omega) hl0 (c16.trans c7) (Nat.le_refl _) ((c16.trans c7).len) fb7 fun _ _ v8 h8 c8 same8 len8 ids8 gs8 => ?_
          have r8 : RE h8 X s D er a := ⟨⟨P7, (same8 X (lt_of_get g7) fun hon => (gs7.on hon).2.2 rfl).trans g7, hP7⟩, r7.e⟩
          refine ih 0 _ _ (by omega) ⟨e0, e2, c8, .inr ⟨er, a, l.length + 1, _, rfl, r8, gs8.sl, by omega, by omega, ?_⟩⟩
          rw [hrow, hmore]
      · have qs' : ¬ sgn s q' = ([], 124) := fun e => qs ((sgn_ch (c := 124) (by decide) (by decide)).2 e)
        have hfin : SchM.row s 6 124 Rf p = .ok (several 6 l) q' := by
          rw [hrow, hmore]
          match k, hk with
          | 0, hk => rfl
          | k0 + 1, _ => rw [more, if_neg qs']
        obtain ⟨cs, gs, ml⟩ := L5.ex
        have sl := gs.sl
        obtain ⟨sa, cap, ev⟩ := sl.shape
        rw [ev] at sl gs ml ⊢
        have hqs : skip s q' = q' := by rw [← hq4]; exact skip_skip s P'
        refine w_lenSl (w_eql (c_dec (fun q1 => ?_) (fun q1 => ?_)))
        · obtain ⟨m1, rfl⟩ : ∃ m, l = [m] := by
            match l, hl0, q1 with
            | [m], _, _ => exact ⟨m, rfl⟩
            | _ :: _ :: l, _, q1 => simp at q1; omega
          unfold ML at ml
          obtain ⟨x, y, z, rest, rfl, hm1, hr1⟩ := ml
          unfold ML at hr1
          subst hr1
          refine w_idx sl (by omega) (by show (0 : Int) < ((1 : Nat) : Int); omega) fun pp hpp => ?_
          have hpp' : PtrTo h5 pp [x, y, z] := hpp
          refine w_rdA hpp' rfl ?_
          exact fin _ h5 (.agg #[x, y, z]) m1 q' q' e2 c15 r5 hqs (MH.mono (fun j gj => ⟨rfl, gj.1⟩) m1 _ hm1) hfin
        · refine w_some (v := .agg #[.int .i64 6, .string (bs []), .slice sa l.length cap]) rfl ?_
          have es : several 6 l = .mk 6 [] l := by
            unfold several
            split
            · simp at q1
            · rfl
          refine fin _ h5 _ (several 6 l) q' q' e2 c15 r5 hqs ?_ hfin
          rw [es]
          show MH _ _ _ _
          unfold MH
          exact ⟨sa, cap, cs, rfl, sl, fun j hj => gs.on hj, ML.mono (fun j gj => ⟨rfl, gj.1⟩) l cs ml⟩
    · obtain ⟨P4, g4, _⟩ := r4.g
      refine w_nilc (w_offP (w_rdP g4 (v := .int .i64 er) rfl (w_eql (g_tf r4.e (g_tf r4.e (pk_ff r4.e (c_f ?_)))))))
      obtain ⟨sa, cap, e3⟩ := sl4.shape
      rw [e3]
      refine w_lenSl (w_eql (c_ff (by omega) ?_))
      refine w_some (v := .agg #[.int .i64 6, .string (bs []), .slice sa n cap]) rfl ?_
      exact finE _ h4 _ er a e2 c4 r4 ⟨_, [], _, _, _, rfl⟩ hbad
  · obtain ⟨k', n', a', ll, cc, ev⟩ := m2
    subst ev
    refine w_some (bldSl_one (v := .agg #[.int .i64 k', .string (bs n'), .slice a' ll cc]) rfl (by decide) rfl rfl) ?_
    refine n_newv fun h3 x3 l3 g3 => ?_
    have hbad : SchM.row s 6 124 Rf p = .bad e a := by unfold SchM.row; rw [hm]
    refine loopE_intro (fun mm e' h' => mm = 0 ∧ e' 0 = .pointer (some ⟨X, 0, none⟩) ∧ e' 2 = .pointer (some ⟨h.length, 0, none⟩) ∧ e' 3 = .slice (some ⟨h2.length, 0, none⟩) 1 1 ∧ h' = h3) 0 ⟨rfl, rfl, rfl, rfl, rfl⟩ ?_
    rintro I mm e' h4 ⟨_, e0, e2, e3, rfl⟩ ih
    rw [e0, e2, e3]
    have r4 := r2.ex x3
    obtain ⟨P4, g4, _⟩ := r4.g
    refine w_nilc (w_offP (w_rdP g4 (v := .int .i64 e) rfl (w_eql (g_tf r4.e (g_tf r4.e (pk_ff r4.e (c_f ?_)))))))
    refine w_lenSl (w_eql (c_tt rfl ?_))
    refine w_some (v := .pointer (some ⟨h2.length, 0, none⟩)) rfl ?_
    refine w_rdPA g3 (Nat.le_refl 3) ?_
    exact finE _ h4 (.agg #[.int .i64 k', .string (bs n'), .slice a' ll cc]) e a e2 (c2.trans (Chg.ex x3)) r4 ⟨_, n', _, _, _, rfl⟩ hbad
end Go.Proofs.Ytlenlhlipmkeeaa.W
end

section
/- Schema's laws: the document's reader: models. Conditions: none. -/
namespace Go.Proofs.Ytlenlhlipmkeeaa.W
open Go Go.AM SchM
set_option linter.unusedVariables false
set_option maxRecDepth 100000
theorem deepR {h : AH} {X : Nat} {s : W} {P e a : Int} {op : BinOp} {D D' : Nat} {K : Value → Value → Value → Value → Value → Value → AH → Prop} (g : h[X]? = some (.row (rrow s P e a D) true)) (ho : ∀ (K : Value → Prop), K (.int .i64 (D' : Nat)) → optW (pBin Try.prog op 3 (.int .i64 (D : Nat)) (.int .i64 1)) K) (k : ∀ h', h'.length = h.length → Chg (At X) h (At X) h' → h'[X]? = some (.row (rrow s P e a D') true) → ∀ a1 a2 a3 a4 a5 a6, K a1 a2 a3 a4 a5 a6 h') :
    optW (pNilCheck (.pointer (some ⟨X, 0, none⟩))) fun v38 => optW (pOff 4 v38) fun v39 => optW (rdRow false 1 v39 h) fun v40 => optW (pBin Try.prog op 3 v40 (.int .i64 1)) fun v41 => optW (pNilCheck (.pointer (some ⟨X, 0, none⟩))) fun v42 => optW (pOff 4 v42) fun v43 => optW (pStore 1 v43 v41 h) fun h' => K v38 v39 v40 v41 v42 v43 h' := by
  refine w_nilc (w_offP (w_rdP g (v := .int .i64 D) rfl (ho _ (w_nilc (w_offP (w_stP g (by show 0 + 4 < 5; decide) rfl rfl ?_))))))
  exact k _ (by simp) (setX _) (get_set _ (lt_of_get g) _) _ _ _ _ _ _
theorem ch40 {s : W} {p : Nat} {c : UInt8} (hl : low c = false) (h0 : c ≠ 0) (h : sgn s p = ([], c)) : adv s p = skip s (p + 1) := by
  unfold adv
  rw [tok_tl (w := [c]) (.inr ⟨c, rfl, rfl, hl, h0⟩) h]
  rfl
set_option maxHeartbeats 1000000 in
theorem ratom98 {X : Nat} {s : W} {D lo : Nat} {O : Nat → Nat → R Mdl} (hs : s.length ≤ 2000) (hD : D ≤ 20) (hO : RSpec X s 64 (D + 1) (lo + 1) (O (D + 1)) ∨ 20 ≤ D) : RSpec X s 98 D lo (atom s O D) := by
  intro h P p K hsk hp r k1 k2
  refine c98 ?_
  unfold s98
  refine n_rowv fun h1 x1 l1 g1 => ?_
  have lX := lt_of_get r.g
  have hpl : p ≤ s.length := by rw [← hsk]; exact (skip_le s P r.p).2
  have hpp : skip s p = p := by rw [← hsk]; exact skip_skip s P
  have nX : h.length ≠ X := by omega
  have cx := Chg.ex (F := At X) x1
  have fin : ∀ (E : Env) (h' : AH) (v : Value) (m : Mdl) (q P' : Nat), E 2 = .pointer (some ⟨h.length, 0, none⟩) → Chg (At X) h1 (At X) h' → RO h' X s P' D → skip s P' = q → MG h1.length h' (At X) m v → atom s O D p = .ok m q →
      optW (pStore 3 (.pointer (some ⟨h.length, 0, none⟩)) v h') fun h'' => optW (resList Try.prog E h'' Try.f98.results.toList) fun vs => K (resOf vs) h'' := fun E h' v m q P' hE c' r' hq mv ha => by
    have g' : h'[h.length]? = some (.row [(.int .i64 0), (.string (bs [])), (.slice none 0 0)] true) := (c'.get _ (by omega) nX).trans g1
    refine endM (n := 2) (by kernel_rfl) hE g' rfl mv.shape fun o => ?_
    exact k1 v _ m q P' ha ((cx.trans c').setNew (Nat.le_refl _) o) ⟨(get_ne nX _).trans r'.g, r'.p⟩ hq ((mv.setNew (fun hg => by have := hg.1; omega) o).low (by omega))
  have finE : ∀ (E : Env) (h' : AH) (v : Value) (e : Int) (a : Nat), E 2 = .pointer (some ⟨h.length, 0, none⟩) → Chg (At X) h1 (At X) h' → RE h' X s D e a → isMv v → atom s O D p = .bad e a →
      optW (pStore 3 (.pointer (some ⟨h.length, 0, none⟩)) v h') fun h'' => optW (resList Try.prog E h'' Try.f98.results.toList) fun vs => K (resOf vs) h'' := fun E h' v e a hE c' r' mv ha => by
    have g' : h'[h.length]? = some (.row [(.int .i64 0), (.string (bs [])), (.slice none 0 0)] true) := (c'.get _ (by omega) nX).trans g1
    refine endM (n := 2) (by kernel_rfl) hE g' rfl mv fun o => ?_
    obtain ⟨P', gr, hP'⟩ := r'.g
    exact k2 v _ e a ha ((cx.trans c').setNew (Nat.le_refl _) o) ⟨⟨P', (get_ne nX _).trans gr, hP'⟩, r'.e⟩ mv
  refine word61 (x1.some r.g) (by omega) r.p fun h2 c2 g2 => ?_
  rw [hsk] at g2 ⊢
  have r2 : RO h2 X s p D := ⟨g2, hpl⟩
  have wE : wordAt s p = wEmpty ↔ sgn s p = (wEmpty, 0) := sgn_w (by decide) (by decide)
  have wA : wordAt s p = wAny ↔ sgn s p = (wAny, 0) := sgn_w (by decide) (by decide)
  have wT : wordAt s p = wText ↔ sgn s p = (wText, 0) := sgn_w (by decide) (by decide)
  have wl := wordAt_len s p
  refine joinE_intro (fun e h3 => h3 = h2 ∧ e 0 = .pointer (some ⟨X, 0, none⟩) ∧ e 2 = .pointer (some ⟨h.length, 0, none⟩) ∧ e 3 = .string (bs (wordAt s p)) ∧ ((∃ k : Int, 0 < k ∧ k < 4 ∧ e 4 = .int .i64 k ∧ atom s O D p = .ok (.mk k [] []) (adv s p) ∧ tl s p = (wordAt s p).length) ∨
      (e 4 = .int .i64 0 ∧ ¬ sgn s p = (wEmpty, 0) ∧ ¬ sgn s p = (wAny, 0) ∧ ¬ sgn s p = (wText, 0)))) ?_ ?_
  rotate_left
  · intro J hJ
    have tlw : ∀ {w : W}, wordAt s p = w → w ≠ [] → tl s p = (wordAt s p).length := fun e hw => by unfold tl; rw [if_pos (by rw [e]; exact hw)]
    refine w_seql (c_dec (fun q => ?_) (fun q => ?_))
    · exact hJ _ _ ⟨rfl, rfl, rfl, rfl, .inl ⟨1, by decide, by decide, rfl, by unfold atom; rw [if_pos (wE.1 q)], tlw q (by decide)⟩⟩
    refine w_seql (c_dec (fun q' => ?_) (fun q' => ?_))
    · exact hJ _ _ ⟨rfl, rfl, rfl, rfl, .inl ⟨2, by decide, by decide, rfl, by unfold atom; rw [if_neg (fun e => q (wE.2 e)), if_pos (wA.1 q')], tlw q' (by decide)⟩⟩
    refine w_seql (c_dec (fun q'' => ?_) (fun q'' => ?_))
    · exact hJ _ _ ⟨rfl, rfl, rfl, rfl, .inl ⟨3, by decide, by decide, rfl, by unfold atom; rw [if_neg (fun e => q (wE.2 e)), if_neg (fun e => q' (wA.2 e)), if_pos (wT.1 q'')], tlw q'' (by decide)⟩⟩
    · exact hJ _ _ ⟨rfl, rfl, rfl, rfl, .inr ⟨rfl, fun e => q (wE.2 e), fun e => q' (wA.2 e), fun e => q'' (wT.2 e)⟩⟩
  rintro e h3 ⟨rfl, e0, e2, e3, hk⟩
  rw [e0, e2, e3]
  rcases hk with ⟨k, hk0, hk4, e4, hat, htl⟩ | ⟨e4, q, q', q''⟩
  · rw [e4]
    refine w_gtr (c_tt hk0 ?_)
    refine w_nilc (w_offP (w_rdP g2 (v := .int .i64 p) rfl (w_lenStr (w_add (by omega) (by omega) (w_nilc (w_offP (w_stP g2 (by show 0 + 1 < 5; decide) rfl rfl ?_)))))))
    have r4 : RO (h3.set X (.row ((rrow s p 0 0 D).set (0 + 1) (.int .i64 ((p : Int) + ((wordAt s p).length : Nat)))) true)) X s (p + tl s p) D := ⟨by rw [get_set _ (lt_of_get g2), htl]; rfl, tl_le s p hpl⟩
    have c4 := c2.trans (setX (h := h3) (X := X) (.row ((rrow s p 0 0 D).set (0 + 1) (.int .i64 ((p : Int) + ((wordAt s p).length : Nat)))) true))
    generalize h3.set X (.row ((rrow s p 0 0 D).set (0 + 1) (.int .i64 ((p : Int) + ((wordAt s p).length : Nat)))) true) = h4 at r4 c4 ⊢
    refine w_some (v := .agg #[.int .i64 k, .string (bs []), .slice none 0 0]) rfl ?_
    exact fin _ h4 _ (.mk k [] []) (adv s p) (p + tl s p) e2 c4 r4 rfl (MH.leaf _ _ _ _) hat
  · rw [e4]
    have at0 : atom s O D p = if sgn s p = ([], 40) then
        if 20 ≤ D then .bad 3 p
        else match O (D + 1) (adv s p) with
          | .bad e a => .bad e a
          | .ok m q => if sgn s q = ([], 41) then .ok m (adv s q) else .bad 1 q
      else if isName (sgn s p).1 = true then .ok (.mk 4 (sgn s p).1 []) (adv s p)
      else .bad 1 p := by
      rw [atom, if_neg q, if_neg q', if_neg q'']
      rfl
    refine w_gtr (c_ff (by decide) ?_)
    refine is76 (c := 40) (by omega) r2 fun h4 c4 r4 => ?_
    rw [hpp] at r4 ⊢
    have c14 := c2.trans c4
    by_cases q4 : s[p]? = some 40
    · rw [decide_eq_true q4]
      have qs := (sgn_ch (c := 40) (by decide) (by decide)).1 q4
      rw [if_pos qs] at at0
      have hq1 : p < s.length := (List.getElem?_eq_some_iff.1 q4).1
      refine w_notb (c_f ?_)
      refine w_nilc (w_offP (w_rdP r4.g (v := .int .i64 D) rfl (w_geq (c_dec (fun qd => ?_) (fun qd => ?_)))))
      · rw [if_pos (by omega)] at at0
        refine w_nilc (w_offP (w_rdP r4.g (v := .int .i64 p) rfl (fail62 (by decide) r4 fun h5 v c5 r5 mv _ => ?_)))
        exact finE _ h5 v 3 p e2 (c14.trans c5) r5 mv at0
      · rw [if_neg (by omega)] at at0
        have hO' := hO.resolve_right (by omega)
        refine deepR (D' := D + 1) r4.g (fun K => add1 (by omega) K) fun h5 l5 c5 g5 _ _ _ _ _ _ => ?_
        refine w_nilc (w_offP (w_rdP g5 (v := .int .i64 p) rfl (w_add (by omega) (by omega) (w_nilc (w_offP (w_stP g5 (by show 0 + 1 < 5; decide) rfl rfl ?_))))))
        have r6 : RO (h5.set X (.row ((rrow s p 0 0 (D + 1 : Nat)).set (0 + 1) (.int .i64 ((p : Int) + 1))) true)) X s (p + 1) (D + 1) := ⟨get_set _ (lt_of_get g5) _, by omega⟩
        have c16 := (c14.trans c5).trans (setX (h := h5) (X := X) (.row ((rrow s p 0 0 (D + 1 : Nat)).set (0 + 1) (.int .i64 ((p : Int) + 1))) true))
        generalize h5.set X (.row ((rrow s p 0 0 (D + 1 : Nat)).set (0 + 1) (.int .i64 ((p : Int) + 1))) true) = h6 at r6 c16 ⊢
        have ea : skip s (p + 1) = adv s p := (ch40 (by decide) (by decide) qs).symm
        refine hO' h6 (p + 1) (adv s p) _ ea (by have := adv_gt hpl (by rw [qs]; decide); omega) r6 (fun v h7 m q5 P7 hm c7 r7 hq7 m7 => ?_) (fun v h7 e a hm c7 r7 m7 => ?_)
        · rw [hm] at at0
          dsimp only at at0
          obtain ⟨k', n', a', l', cc, ev⟩ := m7.shape
          subst ev
          refine n_rowv fun h8 x8 l8 g8 => ?_
          refine w_stPA g8 rfl (by decide) rfl ?_
          have g9 : (h8.set h7.length (.row (spliceL [(.int .i64 0), (.string (bs [])), (.slice none 0 0)] 0 (cellsL (.agg #[.int .i64 k', .string (bs n'), .slice a' l' cc]))) true))[h7.length]? = some (.row [.int .i64 k', .string (bs n'), .slice a' l' cc] true) := get_set _ (lt_of_get g8) _
          have x9 : Ex h7 (h8.set h7.length (.row (spliceL [(.int .i64 0), (.string (bs [])), (.slice none 0 0)] 0 (cellsL (.agg #[.int .i64 k', .string (bs n'), .slice a' l' cc]))) true)) := x8.set (Nat.le_refl _) _
          generalize h8.set h7.length (.row (spliceL [(.int .i64 0), (.string (bs [])), (.slice none 0 0)] 0 (cellsL (.agg #[.int .i64 k', .string (bs n'), .slice a' l' cc]))) true) = h9 at g9 x9 ⊢
          have r9 := r7.ex x9
          have m9 := m7.ex x9
          have c19 := (c16.trans c7).trans (Chg.ex x9)
          have n7 : h7.length ≠ X := by have := lt_of_get r7.g; omega
          have y0 : (0 : Int) = 0 := rfl
          refine w_nilc (w_offP (w_rdP r9.g (v := .int .i64 0) rfl (w_eql (c_tt rfl ?_))))
          refine take40 (w := [41]) (x := ([], 41)) (.inr ⟨41, rfl, rfl, by decide, by decide⟩) (by omega) (by decide) r9 (fun q6 h10 c10 r10 => ?_) (fun q6 h10 c10 r10 => ?_)
          · rw [hq7] at q6 r10
            rw [if_pos q6] at at0
            refine deepR (D' := D) r10.g (fun K => sub1 (by omega) K) fun h11 l11 c11 g11 _ _ _ _ _ _ => ?_
            have gv := (c11.get _ (by have := lt_of_get g9; have := c10.len; omega) n7).trans ((c10.get _ (lt_of_get g9) n7).trans g9)
            refine w_rdPA gv (Nat.le_refl 3) ?_
            exact fin _ h11 (.agg #[.int .i64 k', .string (bs n'), .slice a' l' cc]) m (adv s q5) _ e2 ((c19.trans c10).trans c11) ⟨g11, r10.p⟩ rfl (((m9.chg c10).chg c11).low c16.len) at0
          · rw [hq7] at q6 r10
            rw [if_neg q6] at at0
            obtain ⟨P10, gr10, hP10⟩ := r10.g
            refine deepR (D' := D) gr10 (fun K => sub1 (by omega) K) fun h11 l11 c11 g11 _ _ _ _ _ _ => ?_
            have gv := (c11.get _ (by have := lt_of_get g9; have := c10.len; omega) n7).trans ((c10.get _ (lt_of_get g9) n7).trans g9)
            refine w_rdPA gv (Nat.le_refl 3) ?_
            exact finE _ h11 (.agg #[.int .i64 k', .string (bs n'), .slice a' l' cc]) 1 q5 e2 ((c19.trans c10).trans c11) ⟨⟨P10, g11, hP10⟩, by decide⟩ ⟨_, n', _, _, _, rfl⟩ at0
        · rw [hm] at at0
          dsimp only at at0
          obtain ⟨k', n', a', l', cc, ev⟩ := m7
          subst ev
          obtain ⟨P7, g7, hP7⟩ := r7.g
          refine n_rowv fun h8 x8 l8 g8 => ?_
          refine w_stPA g8 rfl (by decide) rfl ?_
          have g9 : (h8.set h7.length (.row (spliceL [(.int .i64 0), (.string (bs [])), (.slice none 0 0)] 0 (cellsL (.agg #[.int .i64 k', .string (bs n'), .slice a' l' cc]))) true))[h7.length]? = some (.row [.int .i64 k', .string (bs n'), .slice a' l' cc] true) := get_set _ (lt_of_get g8) _
          have x9 : Ex h7 (h8.set h7.length (.row (spliceL [(.int .i64 0), (.string (bs [])), (.slice none 0 0)] 0 (cellsL (.agg #[.int .i64 k', .string (bs n'), .slice a' l' cc]))) true)) := x8.set (Nat.le_refl _) _
          generalize h8.set h7.length (.row (spliceL [(.int .i64 0), (.string (bs [])), (.slice none 0 0)] 0 (cellsL (.agg #[.int .i64 k', .string (bs n'), .slice a' l' cc]))) true) = h9 at g9 x9 ⊢
          have c19 := (c16.trans c7).trans (Chg.ex x9)
          have n7 : h7.length ≠ X := by have := lt_of_get g7; omega
          refine w_nilc (w_offP (w_rdP (x9.some g7) (v := .int .i64 e) rfl (w_eql (c_ff r7.e ?_))))
          refine deepR (D' := D) (x9.some g7) (fun K => sub1 (by omega) K) fun h11 l11 c11 g11 _ _ _ _ _ _ => ?_
          have gv := (c11.get _ (lt_of_get g9) n7).trans g9
          refine w_rdPA gv (Nat.le_refl 3) ?_
          exact finE _ h11 (.agg #[.int .i64 k', .string (bs n'), .slice a' l' cc]) e a e2 (c19.trans c11) ⟨⟨P7, g11, hP7⟩, r7.e⟩ ⟨_, n', _, _, _, rfl⟩ at0
    · rw [decide_eq_false q4]
      have qs : ¬ sgn s p = ([], 40) := fun e => q4 ((sgn_ch (c := 40) (by decide) (by decide)).2 e)
      rw [if_neg qs] at at0
      refine w_notb (c_t ?_)
      refine name41 (by omega) r4 (fun hn h5 c5 r5 => ?_) (fun hn h5 c5 r5 => ?_)
      · rw [hpp] at hn r5 ⊢
        rw [if_pos hn] at at0
        refine w_some (v := .agg #[.int .i64 4, .string (bs (sgn s p).1), .slice none 0 0]) rfl ?_
        exact fin _ h5 _ (.mk 4 (sgn s p).1 []) (adv s p) (p + tl s p) e2 (c14.trans c5) r5 rfl (MH.leaf _ _ _ _) at0
      · rw [hpp] at hn r5
        rw [if_neg (by rw [hn]; decide)] at at0
        refine w_some (v := .agg #[.int .i64 4, .string (bs []), .slice none 0 0]) rfl ?_
        exact finE _ h5 _ 1 p e2 (c14.trans c5) r5 ⟨_, [], _, _, _, rfl⟩ at0
end Go.Proofs.Ytlenlhlipmkeeaa.W
end

section
/- Schema's laws: the document's reader: models, all of them. Conditions: none. -/
namespace Go.Proofs.Ytlenlhlipmkeeaa.W
open Go Go.AM SchM
set_option linter.unusedVariables false
set_option maxRecDepth 100000
set_option maxHeartbeats 1000000 in
theorem rrep92 {X : Nat} {s : W} {D lo : Nat} {Rf : Nat → R Mdl} (hs : s.length ≤ 2000) (hS : RSpec X s 98 D lo Rf) : RSpec X s 92 D lo (rep s Rf) := by
  intro h P p K hsk hp r k1 k2
  refine c92 ?_
  unfold s92
  refine n_rowv fun h1 x1 l1 g1 => ?_
  have lX := lt_of_get r.g
  have nX : h.length ≠ X := by omega
  have cx := Chg.ex (F := At X) x1
  have fin : ∀ (E : Env) (h' : AH) (v : Value) (m : Mdl) (q P' : Nat), E 2 = .pointer (some ⟨h.length, 0, none⟩) → Chg (At X) h1 (At X) h' → RO h' X s P' D → skip s P' = q → MG h1.length h' (At X) m v → rep s Rf p = .ok m q →
      optW (pStore 3 (.pointer (some ⟨h.length, 0, none⟩)) v h') fun h'' => optW (resList Try.prog E h'' Try.f92.results.toList) fun vs => K (resOf vs) h'' := fun E h' v m q P' hE c' r' hq mv ha => by
    have g' : h'[h.length]? = some (.row [(.int .i64 0), (.string (bs [])), (.slice none 0 0)] true) := (c'.get _ (by omega) nX).trans g1
    refine endM (n := 2) (by kernel_rfl) hE g' rfl mv.shape fun o => ?_
    exact k1 v _ m q P' ha ((cx.trans c').setNew (Nat.le_refl _) o) ⟨(get_ne nX _).trans r'.g, r'.p⟩ hq ((mv.setNew (fun hg => by have := hg.1; omega) o).low (by omega))
  have finE : ∀ (E : Env) (h' : AH) (v : Value) (e : Int) (a : Nat), E 2 = .pointer (some ⟨h.length, 0, none⟩) → Chg (At X) h1 (At X) h' → RE h' X s D e a → isMv v → rep s Rf p = .bad e a →
      optW (pStore 3 (.pointer (some ⟨h.length, 0, none⟩)) v h') fun h'' => optW (resList Try.prog E h'' Try.f92.results.toList) fun vs => K (resOf vs) h'' := fun E h' v e a hE c' r' mv ha => by
    have g' : h'[h.length]? = some (.row [(.int .i64 0), (.string (bs [])), (.slice none 0 0)] true) := (c'.get _ (by omega) nX).trans g1
    refine endM (n := 2) (by kernel_rfl) hE g' rfl mv fun o => ?_
    obtain ⟨P', gr, hP'⟩ := r'.g
    exact k2 v _ e a ha ((cx.trans c').setNew (Nat.le_refl _) o) ⟨⟨P', (get_ne nX _).trans gr, hP'⟩, r'.e⟩ mv
  refine hS h1 P p _ hsk hp (r.ex x1) (fun v h2 m q P2 hm c2 r2 hq2 m2 => ?_) (fun v h2 e a hm c2 r2 m2 => ?_)
  · obtain ⟨k', n', a', ll, cc, ev⟩ := m2.shape
    subst ev
    have hql : q ≤ s.length := by rw [← hq2]; exact (skip_le s P2 r2.p).2
    have hqq : skip s q = q := by rw [← hq2]; exact skip_skip s P2
    have hrep : rep s Rf p = if sgn s q = ([], 42) then .ok (.mk 7 [] [m]) (adv s q)
      else if sgn s q = ([], 43) then .ok (.mk 8 [] [m]) (adv s q)
      else if sgn s q = ([], 63) then .ok (.mk 9 [] [m]) (adv s q)
      else .ok m q := by unfold rep; rw [hm]
    refine n_rowv fun h3 x3 l3 g3 => ?_
    refine w_stPA g3 rfl (by decide) rfl ?_
    have g4 : (h3.set h2.length (.row (spliceL [(.int .i64 0), (.string (bs [])), (.slice none 0 0)] 0 (cellsL (.agg #[.int .i64 k', .string (bs n'), .slice a' ll cc]))) true))[h2.length]? = some (.row [.int .i64 k', .string (bs n'), .slice a' ll cc] true) := get_set _ (lt_of_get g3) _
    have x4 : Ex h2 (h3.set h2.length (.row (spliceL [(.int .i64 0), (.string (bs [])), (.slice none 0 0)] 0 (cellsL (.agg #[.int .i64 k', .string (bs n'), .slice a' ll cc]))) true)) := x3.set (Nat.le_refl _) _
    generalize h3.set h2.length (.row (spliceL [(.int .i64 0), (.string (bs [])), (.slice none 0 0)] 0 (cellsL (.agg #[.int .i64 k', .string (bs n'), .slice a' ll cc]))) true) = h4 at g4 x4 ⊢
    have r4 := r2.ex x4
    have m4 := m2.ex x4
    have c14 := c2.trans (Chg.ex x4)
    have n2 : h2.length ≠ X := by have := lt_of_get r2.g; omega
    have one : ∀ (E : Value → Value → Value → Value → Value → Value → Value → List Value → Nat → Value → Env) (kd : Int) (h' : AH) (z : List Value), z = [(.int .i64 0), (.string (bs [])), (.slice none 0 0)] → (∀ a b c d a' b' c' d' a'' b'', E a b c d a' b' c' d' a'' b'' 2 = .pointer (some ⟨h.length, 0, none⟩)) → kd ≠ 4 → Chg (At X) h1 (At X) h' → RO h' X s q D → q < s.length → skip s (q + 1) = adv s q → MG h1.length h' (At X) m (.agg #[.int .i64 k', .string (bs n'), .slice a' ll cc]) → h'[h2.length]? = some (.row [.int .i64 k', .string (bs n'), .slice a' ll cc] true) → rep s Rf p = .ok (.mk kd [] [m]) (adv s q) →
        optW (pNilCheck (.pointer (some ⟨X, 0, none⟩))) fun v25 => optW (pOff 1 v25) fun v26 => optW (rdRow false 1 v26 h') fun v27 => optW (pBin Try.prog .add 3 v27 (.int .i64 1)) fun v28 => optW (pNilCheck (.pointer (some ⟨X, 0, none⟩))) fun v29 => optW (pOff 1 v29) fun v30 => optW (pStore 1 v30 v28 h') fun h_7 => optW (rdRow true 3 (.pointer (some ⟨h2.length, 0, none⟩)) h_7) fun v32 => optW (bldSl 3 z 1 [(0, v32)]) fun c => newW none (.row c true) h_7 fun i h_8 => optW (bld [(.int .i64 0), (.string (bs [])), (.slice none 0 0)] [(0, 1), (1, 1), (2, 1)] [(0, (.int .i64 kd)), (2, (.slice (some ⟨i, 0, none⟩) 1 1))]) fun v34 => optW (pStore 3 (.pointer (some ⟨h.length, 0, none⟩)) v34 h_8) fun h_9 => optW (resList Try.prog (E v25 v26 v27 v28 v29 v30 v32 c i v34) h_9 Try.f92.results.toList) fun vs => K (resOf vs) h_9 := by
      intro E kd h' z hz hE hkd c' r' hq1 ea m' g' ha
      subst hz
      refine w_nilc (w_offP (w_rdP r'.g (v := .int .i64 q) rfl (w_add (by omega) (by omega) (w_nilc (w_offP (w_stP r'.g (by show 0 + 1 < 5; decide) rfl rfl ?_))))))
      have r6 : RO (h'.set X (.row ((rrow s q 0 0 D).set (0 + 1) (.int .i64 ((q : Int) + 1))) true)) X s (q + 1) D := ⟨get_set _ (lt_of_get r'.g) _, by omega⟩
      have c6 : Chg (At X) h' (At X) (h'.set X (.row ((rrow s q 0 0 D).set (0 + 1) (.int .i64 ((q : Int) + 1))) true)) := setX _
      generalize h'.set X (.row ((rrow s q 0 0 D).set (0 + 1) (.int .i64 ((q : Int) + 1))) true) = h6 at r6 c6 ⊢
      have g6 := (c6.get _ (lt_of_get g') n2).trans g'
      refine w_rdPA g6 (Nat.le_refl 3) ?_
      refine w_some (bldSl_one (v := .agg #[.int .i64 k', .string (bs n'), .slice a' ll cc]) rfl (by decide) rfl rfl) ?_
      refine n_newv fun h7 x7 l7 g7 => ?_
      refine w_some (v := .agg #[.int .i64 kd, .string (bs []), .slice (some ⟨h6.length, 0, none⟩) 1 1]) rfl ?_
      have n6 : ¬ (At X) h6.length := fun hf => by have : h6.length = X := hf; have := lt_of_get r6.g; omega
      exact fin _ h7 _ (.mk kd [] [m]) (adv s q) (q + 1) (hE _ _ _ _ _ _ _ _ _ _) ((c'.trans c6).trans (Chg.ex x7)) (r6.ex x7) ea (MH.one ((m'.chg c6).ex x7) g7 ⟨(c'.trans c6).len, by omega, n6⟩) ha
    have nz : ¬ ¬ (0 : Int) = 0 := fun h => h rfl
    refine w_nilc (w_offP (w_rdP r4.g (v := .int .i64 0) rfl (w_neq (c_ff nz ?_))))
    refine is76 (c := 42) (by omega) r4 fun h5 c5 r5 => ?_
    rw [hq2] at r5 ⊢
    have g5 := (c5.get _ (lt_of_get g4) n2).trans g4
    have c15 := c14.trans c5
    have m5 := m4.chg c5
    refine c_dec (fun q1 => ?_) (fun q1 => ?_)
    · have qs := (sgn_ch (c := 42) (by decide) (by decide)).1 q1
      rw [if_pos qs] at hrep
      exact one _ 7 h5 _ rfl (fun _ _ _ _ _ _ _ _ _ _ => rfl) (by decide) c15 r5 (List.getElem?_eq_some_iff.1 q1).1 (ch40 (by decide) (by decide) qs).symm m5 g5 hrep
    rw [if_neg (fun e => q1 ((sgn_ch (c := 42) (by decide) (by decide)).2 e))] at hrep
    refine is76 (c := 43) (by omega) r5 fun h6 c6 r6 => ?_
    rw [hqq] at r6 ⊢
    have g6 := (c6.get _ (lt_of_get g5) n2).trans g5
    have c16 := c15.trans c6
    have m6 := m5.chg c6
    refine c_dec (fun q2 => ?_) (fun q2 => ?_)
    · have qs := (sgn_ch (c := 43) (by decide) (by decide)).1 q2
      rw [if_pos qs] at hrep
      exact one _ 8 h6 _ rfl (fun _ _ _ _ _ _ _ _ _ _ => rfl) (by decide) c16 r6 (List.getElem?_eq_some_iff.1 q2).1 (ch40 (by decide) (by decide) qs).symm m6 g6 hrep
    rw [if_neg (fun e => q2 ((sgn_ch (c := 43) (by decide) (by decide)).2 e))] at hrep
    refine is76 (c := 63) (by omega) r6 fun h7 c7 r7 => ?_
    rw [hqq] at r7 ⊢
    have g7 := (c7.get _ (lt_of_get g6) n2).trans g6
    have c17 := c16.trans c7
    have m7 := m6.chg c7
    refine c_dec (fun q3 => ?_) (fun q3 => ?_)
    · have qs := (sgn_ch (c := 63) (by decide) (by decide)).1 q3
      rw [if_pos qs] at hrep
      exact one _ 9 h7 _ rfl (fun _ _ _ _ _ _ _ _ _ _ => rfl) (by decide) c17 r7 (List.getElem?_eq_some_iff.1 q3).1 (ch40 (by decide) (by decide) qs).symm m7 g7 hrep
    rw [if_neg (fun e => q3 ((sgn_ch (c := 63) (by decide) (by decide)).2 e))] at hrep
    refine w_rdPA g7 (Nat.le_refl 3) ?_
    exact fin _ h7 (.agg #[.int .i64 k', .string (bs n'), .slice a' ll cc]) m q q rfl c17 r7 hqq m7 hrep
  · obtain ⟨k', n', a', ll, cc, ev⟩ := m2
    subst ev
    have hrep : rep s Rf p = .bad e a := by unfold rep; rw [hm]
    refine n_rowv fun h3 x3 l3 g3 => ?_
    refine w_stPA g3 rfl (by decide) rfl ?_
    have g4 : (h3.set h2.length (.row (spliceL [(.int .i64 0), (.string (bs [])), (.slice none 0 0)] 0 (cellsL (.agg #[.int .i64 k', .string (bs n'), .slice a' ll cc]))) true))[h2.length]? = some (.row [.int .i64 k', .string (bs n'), .slice a' ll cc] true) := get_set _ (lt_of_get g3) _
    have x4 : Ex h2 (h3.set h2.length (.row (spliceL [(.int .i64 0), (.string (bs [])), (.slice none 0 0)] 0 (cellsL (.agg #[.int .i64 k', .string (bs n'), .slice a' ll cc]))) true)) := x3.set (Nat.le_refl _) _
    generalize h3.set h2.length (.row (spliceL [(.int .i64 0), (.string (bs [])), (.slice none 0 0)] 0 (cellsL (.agg #[.int .i64 k', .string (bs n'), .slice a' ll cc]))) true) = h4 at g4 x4 ⊢
    have r4 := r2.ex x4
    obtain ⟨P4, gr4, _⟩ := r4.g
    refine w_nilc (w_offP (w_rdP gr4 (v := .int .i64 e) rfl (w_neq (c_tt r4.e ?_))))
    refine w_rdPA g4 (Nat.le_refl 3) ?_
    exact finE _ h4 (.agg #[.int .i64 k', .string (bs n'), .slice a' ll cc]) e a rfl (c2.trans (Chg.ex x4)) r4 ⟨_, n', _, _, _, rfl⟩ hrep
theorem rorSpec {X : Nat} {s : W} (hs : s.length ≤ 2000) : ∀ f D lo, D ≤ 20 → s.length < lo + f → RSpec X s 64 D lo (orr s f D)
  | 0, D, lo, hD, hl => fun h P p K hsk hp r _ _ => by have := (skip_le s P r.p).2; omega
  | f + 1, D, lo, hD, hl => by
    have hA : RSpec X s 98 D lo (atom s (orr s f) D) := by
      refine ratom98 hs hD ?_
      by_cases h : 20 ≤ D
      · exact .inr h
      · exact .inl (rorSpec hs f (D + 1) (lo + 1) (by omega) (by omega))
    have ua := atom_up (orr_up s f (D + 1))
    have ur := rep_up ua
    have us := row_up (k := 5) (c := 44) (by decide) ur
    exact ror64 hs (rseq75 hs (rrep92 hs hA) fun p m q h1 h2 => (ur p m q h1 h2).1) fun p m q h1 h2 => (us p m q h1 h2).1
end Go.Proofs.Ytlenlhlipmkeeaa.W
end

section
/- Schema's laws: the document's reader: elements. Conditions: none. -/
namespace Go.Proofs.Ytlenlhlipmkeeaa.W
open Go Go.AM SchM
set_option linter.unusedVariables false
set_option maxRecDepth 100000
theorem find44 {h : AH} {v : Value} {root nm : W} {names : List W} {K : Value → AH → Prop} (x : Nm h v names) (hn : names.length ≤ 100000) (k : ∀ h' (i : Int), Ex h h' → (0 ≤ i ↔ nm ∈ names) → K (.int .i64 i) h') : callW Try.prog 44 [.agg #[.string (bs root), v], .string (bs nm)] h K := by
  refine c44 ?_
  unfold s44
  obtain ⟨cs, sl, hc⟩ := x.ex
  obtain ⟨a, cap, rfl⟩ := sl.shape
  refine n_boxv rfl fun h1 x1 l1 g1 => ?_
  have g1' : h1[h.length]? = some (.row [.string (bs root), .slice a names.length cap] true) := g1
  refine loopE_intro (fun m e h' => ∃ j : Nat, j ≤ names.length ∧ m = names.length - j ∧ e 1 = .string (bs nm) ∧ e 2 = .pointer (some ⟨h.length, 0, none⟩) ∧ e 5 = .int .i64 (j : Nat) ∧ h' = h1 ∧ nm ∉ names.take j) names.length
    ⟨0, Nat.zero_le _, rfl, rfl, rfl, rfl, rfl, by simp⟩ ?_
  rintro I m e h2 ⟨j, hj, hm, e1, e2, e5, rfl, hni⟩ ih
  rw [e1, e2, e5]
  refine w_offP (w_rdP g1' (v := .slice a names.length cap) rfl (w_lenSl (w_lss (c_dec (fun q => ?_) (fun q => ?_)))))
  · obtain ⟨w, hw⟩ := getElem?_of_lt (l := names) (i := j) (by omega)
    obtain ⟨k', nn, a', ll, c, ec⟩ := hc j w hw
    refine w_offP (w_rdP g1' (v := .slice a names.length cap) rfl (w_idx (sl.ex x1) (by omega) (by omega) fun p hp => ?_))
    rw [Int.toNat_natCast, ec] at hp
    refine w_off hp (Nat.zero_le _) fun p' hp' => w_rd1 hp' rfl (w_seql (c_dec (fun q2 => ?_) (fun q2 => ?_)))
    · have hmem : nm ∈ names := by rw [← q2]; exact List.mem_of_getElem? hw
      exact k h2 j x1 ⟨fun _ => hmem, fun _ => by omega⟩
    · refine w_add (by omega) (by omega) ?_
      refine ih (names.length - (j + 1)) _ _ (by omega) ⟨j + 1, by omega, rfl, e1, e2, rfl, rfl, ?_⟩
      rw [List.take_add_one, hw]
      simp only [Option.toList_some, List.mem_append, List.mem_singleton, not_or]
      exact ⟨hni, fun e => q2 e.symm⟩
  · have : names.take j = names := List.take_of_length_le (by omega)
    rw [this] at hni
    exact k h2 (-1) x1 ⟨fun h => absurd h (by decide), fun h => absurd h hni⟩
def relem (s : W) (l : List W) (p : Nat) : R (W × Mdl) := if sgn s p = (wElement, 0) then elem s l (adv s p) else .bad 1 p
theorem tkE : Tk wElement (wElement, 0) := .inl ⟨rfl, by decide, by decide⟩
theorem tkR : Tk wRoot (wRoot, 0) := .inl ⟨rfl, by decide, by decide⟩
theorem tkC {c : UInt8} (h1 : low c = false) (h2 : c ≠ 0) : Tk [c] ([], c) := .inr ⟨c, rfl, rfl, h1, h2⟩
set_option maxHeartbeats 2000000 in
theorem relem43 {h : AH} {X P p : Nat} {s root : W} {v : Value} {names : List W} {K : Value → AH → Prop} (hs : s.length ≤ 2000) (r : RO h X s P 0) (hsk : skip s P = p) (hv : Nm h v names) (hvX : ¬ onId v X) (hvl : ∀ j, onId v j → j < h.length) (hn : names.length ≤ 1000)
    (k1 : ∀ k n a l c h' w m q P', relem s names p = .ok (w, m) q → Chg (At X) h (At X) h' → RO h' X s P' 0 → skip s P' = q → MG h.length h' (At X) m (.agg #[.int .i64 k, .string (bs n), .slice a l c]) → K (.agg #[.string (bs w), .int .i64 k, .string (bs n), .slice a l c]) h')
    (k2 : ∀ v h' e a, relem s names p = .bad e a → Chg (At X) h (At X) h' → RE h' X s 0 e a → isEv v → K v h') : callW Try.prog 43 [.pointer (some ⟨X, 0, none⟩), .agg #[.string (bs root), v]] h K := by
  refine c43 ?_
  unfold s43
  have lX := lt_of_get r.g
  have hpl : p ≤ s.length := by rw [← hsk]; exact (skip_le s P r.p).2
  have hv0 := hv
  obtain ⟨cs0, sl0, hc0⟩ := hv.ex
  obtain ⟨va, vc, rfl⟩ := sl0.shape
  refine n_boxv rfl fun h1 x1 l1 g1 => ?_
  have g1' : h1[h.length]? = some (.row [.string (bs root), .slice va names.length vc] true) := g1
  refine n_rowv fun h2 x2 l2 g2 => ?_
  have nX1 : h.length ≠ X := by omega
  have nX2 : h1.length ≠ X := by omega
  have cx := Chg.ex (F := At X) (x1.trans x2)
  have b0 : h.length ≤ h2.length := by omega
  have fin : ∀ (E : Env) (h' : AH) (k : Int) (n : W) (a : Option Addr) (l c : Nat) (w : W) (m : Mdl) (q P' : Nat), E 4 = .pointer (some ⟨h1.length, 0, none⟩) → Chg (At X) h2 (At X) h' → RO h' X s P' 0 → skip s P' = q → MG h2.length h' (At X) m (.agg #[.int .i64 k, .string (bs n), .slice a l c]) → relem s names p = .ok (w, m) q →
      optW (pStore 4 (.pointer (some ⟨h1.length, 0, none⟩)) (.agg #[.string (bs w), .int .i64 k, .string (bs n), .slice a l c]) h') fun h'' => optW (resList Try.prog E h'' Try.f43.results.toList) fun vs => K (resOf vs) h'' := fun E h' k n a l c w m q P' hE c' r' hq mv ha => by
    have g' : h'[h1.length]? = some (.row [(.string (bs [])), (.int .i64 0), (.string (bs [])), (.slice none 0 0)] true) := (c'.get _ (by omega) nX2).trans g2
    refine endEl (v := .agg #[.string (bs w), .int .i64 k, .string (bs n), .slice a l c]) (n := 4) (by kernel_rfl) hE g' rfl ⟨_, _, n, _, _, _, rfl⟩ fun o => ?_
    exact k1 k n a l c _ w m q P' ha ((cx.trans c').setNew (by omega) o) ⟨(get_ne nX2 _).trans r'.g, r'.p⟩ hq ((mv.setNew (fun hg => by have := hg.1; omega) o).low b0)
  have finE : ∀ (E : Env) (h' : AH) (v : Value) (e : Int) (a : Nat), E 4 = .pointer (some ⟨h1.length, 0, none⟩) → Chg (At X) h2 (At X) h' → RE h' X s 0 e a → isEv v → relem s names p = .bad e a →
      optW (pStore 4 (.pointer (some ⟨h1.length, 0, none⟩)) v h') fun h'' => optW (resList Try.prog E h'' Try.f43.results.toList) fun vs => K (resOf vs) h'' := fun E h' v e a hE c' r' mv ha => by
    have g' : h'[h1.length]? = some (.row [(.string (bs [])), (.int .i64 0), (.string (bs [])), (.slice none 0 0)] true) := (c'.get _ (by omega) nX2).trans g2
    refine endEl (n := 4) (by kernel_rfl) hE g' rfl mv fun o => ?_
    obtain ⟨P', gr, hP'⟩ := r'.g
    exact k2 v _ e a ha ((cx.trans c').setNew (by omega) o) ⟨⟨P', (get_ne nX2 _).trans gr, hP'⟩, r'.e⟩ mv
  have r2 := r.ex (x1.trans x2)
  refine take40' (w := wElement) tkE (by omega) (by decide) r2 (fun q3 h3 c3 r3 => ?_) (fun q3 h3 c3 r3 g3 => ?_)
  rotate_left
  · -- no element's word
    rw [hsk] at q3 r3 g3
    have hel : relem s names p = .bad 1 p := by unfold relem; rw [if_neg q3]
    refine blanks42 g3 (by omega) hpl fun h4 c4 g4 => ?_
    refine w_nilc (w_offP (w_rdP g4 (v := .int .i64 (skip s p : Nat)) rfl (w_nilc (w_offP (w_rdP g4 (v := .int .i64 1) rfl (w_neq (c_tt (by decide) ?_)))))))
    refine w_some (v := .agg #[.string (bs []), .int .i64 0, .string (bs []), .slice none 0 0]) rfl ?_
    exact finE _ h4 (.agg #[.string (bs []), .int .i64 0, .string (bs []), .slice none 0 0]) 1 p rfl (c3.trans c4) ⟨⟨_, g4, (skip_le s p hpl).2⟩, by decide⟩ ⟨_, _, [], _, _, _, rfl⟩ hel
  rw [hsk] at q3 r3
  have hrel : relem s names p = elem s names (adv s p) := by unfold relem; rw [if_pos q3]
  refine blanks42 r3.g (by omega) r3.p fun h4 c4 g4 => ?_
  have ea : skip s (p + tl s p) = adv s p := rfl
  rw [ea] at g4
  have hp1 := adv_le s p hpl
  have hpp1 : skip s (adv s p) = adv s p := adv_skip s p
  generalize adv s p = p1 at g4 hrel hp1 hpp1
  have r4 : RO h4 X s p1 0 := ⟨g4, hp1⟩
  have c14 := c3.trans c4
  have nz : ¬ ¬ (0 : Int) = 0 := fun h => h rfl
  have y0 : (0 : Int) = 0 := rfl
  refine w_nilc (w_offP (w_rdP g4 (v := .int .i64 p1) rfl (w_nilc (w_offP (w_rdP g4 (v := .int .i64 0) rfl (w_neq (c_ff nz ?_)))))))
  refine name41 (by omega) r4 (fun hnm h5 c5 r5 => ?_) (fun hnm h5 c5 r5 => ?_)
  · -- a name
    rw [hpp1] at hnm r5 ⊢
    have c15 := c14.trans c5
    have hel : relem s names p = if (sgn s p1).1 ∈ names then .bad 5 p1
        else if 8 ≤ names.length then .bad 2 p1
        else if sgn s (adv s p1) = ([], 61) then
          match orr s (s.length + 1) 0 (adv s (adv s p1)) with
          | .bad e a => .bad e a
          | .ok m q => if sgn s q = ([], 59) then .ok ((sgn s p1).1, m) (adv s q) else .bad 1 q
        else .bad 1 (adv s p1) := by rw [hrel, elem, if_pos hnm]; try rfl
    have g5b : h5[h.length]? = some (.row [.string (bs root), .slice va names.length vc] true) := (c15.get _ (by omega) nX1).trans (x2.some g1')
    have hv5 : Nm h5 (.slice va names.length vc) names := (hv0.ext (x1.trans x2)).keep fun j hj => c15.get j (by have := hvl j hj; omega) fun e => hvX (by have : j = X := e; rw [← this]; exact hj)
    refine w_nilc (w_offP (w_rdP r5.g (v := .int .i64 0) rfl (w_eql (g_tt y0 (w_rdPA g5b (Nat.le_refl 2) (g_tt y0 (g_tt y0 (find44 hv5 (by omega) fun h6 i x6 hi => g_tt y0 (w_geq (pk_tt y0 ?_))))))))))
    have r6 := r5.ex x6
    have c16 := c15.trans (Chg.ex x6)
    have g6b := x6.some g5b
    refine c_dec (fun qm => ?_) (fun qm => ?_)
    · rw [if_pos (hi.1 qm)] at hel
      refine fail62 (e := 5) (a := p1) (by decide) r6 fun h7 v7 c7 r7 _ _ => ?_
      have c17 := c16.trans c7
      obtain ⟨PD, grD, _⟩ := (r7).g
      refine w_nilc (w_offP (w_rdP grD (v := .int .i64 (5)) rfl (w_eql ?_)))
      refine g_tf (r7).e (g_tf (r7).e (g_tf (r7).e (g_tf (r7).e (pk_ff (r7).e (c_f ?_)))))
      obtain ⟨PC, grC, _⟩ := (r7).g
      refine w_nilc (w_offP (w_rdP grC (v := .int .i64 (5)) rfl (w_eql (c_ff (r7).e ?_))))
      refine w_some (v := .agg #[.string (bs (sgn s p1).1), .int .i64 0, .string (bs []), .slice none 0 0]) rfl ?_
      refine n_rowv fun hA xA lA gA => ?_
      refine w_stPA gA rfl (by decide) rfl ?_
      have gB : (hA.set h7.length (.row (spliceL [(.string (bs [])), (.int .i64 0), (.string (bs [])), (.slice none 0 0)] 0 (cellsL (.agg #[.string (bs (sgn s p1).1), .int .i64 0, .string (bs []), .slice none 0 0]))) true))[h7.length]? = some (.row [.string (bs (sgn s p1).1), .int .i64 0, .string (bs []), .slice none 0 0] true) := get_set _ (lt_of_get gA) _
      have xB : Ex h7 (hA.set h7.length (.row (spliceL [(.string (bs [])), (.int .i64 0), (.string (bs [])), (.slice none 0 0)] 0 (cellsL (.agg #[.string (bs (sgn s p1).1), .int .i64 0, .string (bs []), .slice none 0 0]))) true)) := xA.set (Nat.le_refl _) _
      generalize hA.set h7.length (.row (spliceL [(.string (bs [])), (.int .i64 0), (.string (bs [])), (.slice none 0 0)] 0 (cellsL (.agg #[.string (bs (sgn s p1).1), .int .i64 0, .string (bs []), .slice none 0 0]))) true) = hB at gB xB ⊢
      have rB := (r7).ex xB
      obtain ⟨PB, grB, _⟩ := rB.g
      refine w_nilc (w_offP (w_rdP grB (v := .int .i64 (5)) rfl (w_eql (c_ff rB.e ?_))))
      refine w_nilc (w_offP (w_rdP grB (v := .int .i64 (5)) rfl (w_eql (c_ff rB.e ?_))))
      refine w_rdPA gB (Nat.le_refl 4) ?_
      exact finE _ hB (.agg #[.string (bs (sgn s p1).1), .int .i64 0, .string (bs []), .slice none 0 0]) (5) (p1) rfl ((c17).trans (Chg.ex xB)) rB ⟨_, _, [], _, _, _, rfl⟩ hel
    rw [if_neg (fun h => qm (hi.2 h))] at hel
    refine w_nilc (w_offP (w_rdP r6.g (v := .int .i64 0) rfl (w_eql (g_tt y0 (w_offP (g_tt y0 (w_rdP g6b (v := .slice va names.length vc) rfl (g_tt y0 (w_lenSl (g_tt y0 (w_geq (pk_tt y0 ?_))))))))))))
    refine c_dec (fun ql => ?_) (fun ql => ?_)
    · rw [if_pos (by omega)] at hel
      refine fail62 (e := 2) (a := p1) (by decide) r6 fun h7 v7 c7 r7 _ _ => ?_
      have c17 := c16.trans c7
      obtain ⟨PC, grC, _⟩ := (r7).g
      refine w_nilc (w_offP (w_rdP grC (v := .int .i64 (2)) rfl (w_eql (c_ff (r7).e ?_))))
      refine w_some (v := .agg #[.string (bs (sgn s p1).1), .int .i64 0, .string (bs []), .slice none 0 0]) rfl ?_
      refine n_rowv fun hA xA lA gA => ?_
      refine w_stPA gA rfl (by decide) rfl ?_
      have gB : (hA.set h7.length (.row (spliceL [(.string (bs [])), (.int .i64 0), (.string (bs [])), (.slice none 0 0)] 0 (cellsL (.agg #[.string (bs (sgn s p1).1), .int .i64 0, .string (bs []), .slice none 0 0]))) true))[h7.length]? = some (.row [.string (bs (sgn s p1).1), .int .i64 0, .string (bs []), .slice none 0 0] true) := get_set _ (lt_of_get gA) _
      have xB : Ex h7 (hA.set h7.length (.row (spliceL [(.string (bs [])), (.int .i64 0), (.string (bs [])), (.slice none 0 0)] 0 (cellsL (.agg #[.string (bs (sgn s p1).1), .int .i64 0, .string (bs []), .slice none 0 0]))) true)) := xA.set (Nat.le_refl _) _
      generalize hA.set h7.length (.row (spliceL [(.string (bs [])), (.int .i64 0), (.string (bs [])), (.slice none 0 0)] 0 (cellsL (.agg #[.string (bs (sgn s p1).1), .int .i64 0, .string (bs []), .slice none 0 0]))) true) = hB at gB xB ⊢
      have rB := (r7).ex xB
      obtain ⟨PB, grB, _⟩ := rB.g
      refine w_nilc (w_offP (w_rdP grB (v := .int .i64 (2)) rfl (w_eql (c_ff rB.e ?_))))
      refine w_nilc (w_offP (w_rdP grB (v := .int .i64 (2)) rfl (w_eql (c_ff rB.e ?_))))
      refine w_rdPA gB (Nat.le_refl 4) ?_
      exact finE _ hB (.agg #[.string (bs (sgn s p1).1), .int .i64 0, .string (bs []), .slice none 0 0]) (2) (p1) rfl ((c17).trans (Chg.ex xB)) rB ⟨_, _, [], _, _, _, rfl⟩ hel
    rw [if_neg (by omega)] at hel
    refine w_nilc (w_offP (w_rdP r6.g (v := .int .i64 0) rfl (w_eql (c_tt rfl ?_))))
    refine take40 (w := [61]) (tkC (by decide) (by decide)) (by omega) (by decide) r6 (fun q7 h7 c7 r7 => ?_) (fun q7 h7 c7 r7 => ?_)
    · have ea1 : skip s (p1 + tl s p1) = adv s p1 := rfl
      rw [ea1] at q7 r7
      rw [if_pos q7] at hel
      have c17 := c16.trans c7
      refine w_some (v := .agg #[.string (bs (sgn s p1).1), .int .i64 0, .string (bs []), .slice none 0 0]) rfl ?_
      refine n_rowv fun h8 x8 l8 g8 => ?_
      refine w_stPA g8 rfl (by decide) rfl ?_
      have g9 : (h8.set h7.length (.row (spliceL [(.string (bs [])), (.int .i64 0), (.string (bs [])), (.slice none 0 0)] 0 (cellsL (.agg #[.string (bs (sgn s p1).1), .int .i64 0, .string (bs []), .slice none 0 0]))) true))[h7.length]? = some (.row [.string (bs (sgn s p1).1), .int .i64 0, .string (bs []), .slice none 0 0] true) := get_set _ (lt_of_get g8) _
      have x9 : Ex h7 (h8.set h7.length (.row (spliceL [(.string (bs [])), (.int .i64 0), (.string (bs [])), (.slice none 0 0)] 0 (cellsL (.agg #[.string (bs (sgn s p1).1), .int .i64 0, .string (bs []), .slice none 0 0]))) true)) := x8.set (Nat.le_refl _) _
      generalize h8.set h7.length (.row (spliceL [(.string (bs [])), (.int .i64 0), (.string (bs [])), (.slice none 0 0)] 0 (cellsL (.agg #[.string (bs (sgn s p1).1), .int .i64 0, .string (bs []), .slice none 0 0]))) true) = h9 at g9 x9 ⊢
      have r9 := r7.ex x9
      have c19 := c17.trans (Chg.ex x9)
      have n7 : h7.length ≠ X := by have := lt_of_get r7.g; omega
      refine w_nilc (w_offP (w_rdP r9.g (v := .int .i64 0) rfl (w_eql (c_tt rfl ?_))))
      have ea2 : skip s (adv s p1 + tl s (adv s p1)) = adv s (adv s p1) := rfl
      refine rorSpec (X := X) hs (s.length + 1) 0 0 (by omega) (by omega) h9 _ (adv s (adv s p1)) _ ea2 (Nat.zero_le _) r9 (fun vm h10 m q P10 hm c10 r10 hq10 m10 => ?_) (fun vm h10 e a hm c10 r10 m10 => ?_)
      · rw [hm] at hel
        dsimp only at hel
        obtain ⟨k', n', a', l', cc, ev⟩ := m10.shape
        subst ev
        have g10 := (c10.get _ (lt_of_get g9) n7).trans g9
        refine w_offP (w_stPA g10 rfl (by show 0 + 1 + 3 ≤ 4; decide) rfl ?_)
        have g11 : (h10.set h7.length (.row (spliceL [.string (bs (sgn s p1).1), .int .i64 0, .string (bs []), .slice none 0 0] (0 + 1) (cellsL (.agg #[.int .i64 k', .string (bs n'), .slice a' l' cc]))) true))[h7.length]? = some (.row [.string (bs (sgn s p1).1), .int .i64 k', .string (bs n'), .slice a' l' cc] true) := get_set _ (lt_of_get g10) _
        have r11 : RO (h10.set h7.length (.row (spliceL [.string (bs (sgn s p1).1), .int .i64 0, .string (bs []), .slice none 0 0] (0 + 1) (cellsL (.agg #[.int .i64 k', .string (bs n'), .slice a' l' cc]))) true)) X s P10 0 := ⟨(get_ne n7 _).trans r10.g, r10.p⟩
        have m11 := m10.setNew (i := h7.length) (fun hg => by have := hg.1; have := lt_of_get g9; omega) (.row (spliceL [.string (bs (sgn s p1).1), .int .i64 0, .string (bs []), .slice none 0 0] (0 + 1) (cellsL (.agg #[.int .i64 k', .string (bs n'), .slice a' l' cc]))) true)
        have c111 := (c19.trans c10).setNew (i := h7.length) (by have := c17.len; omega) (.row (spliceL [.string (bs (sgn s p1).1), .int .i64 0, .string (bs []), .slice none 0 0] (0 + 1) (cellsL (.agg #[.int .i64 k', .string (bs n'), .slice a' l' cc]))) true)
        generalize h10.set h7.length (.row (spliceL [.string (bs (sgn s p1).1), .int .i64 0, .string (bs []), .slice none 0 0] (0 + 1) (cellsL (.agg #[.int .i64 k', .string (bs n'), .slice a' l' cc]))) true) = h11 at g11 r11 m11 c111 ⊢
        refine w_nilc (w_offP (w_rdP r11.g (v := .int .i64 0) rfl (w_eql (c_tt rfl ?_))))
        refine take40 (w := [59]) (tkC (by decide) (by decide)) (by omega) (by decide) r11 (fun q12 h12 c12 r12 => ?_) (fun q12 h12 c12 r12 => ?_)
        · rw [hq10] at q12 r12
          rw [if_pos q12] at hel
          have g12 := (c12.get _ (lt_of_get g11) n7).trans g11
          refine w_rdPA g12 (Nat.le_refl 4) ?_
          exact fin _ h12 k' n' a' l' cc (sgn s p1).1 m (adv s q) _ rfl (c111.trans c12) r12 rfl ((m11.chg c12).low (by have := c19.len; omega)) hel
        · rw [hq10] at q12 r12
          rw [if_neg q12] at hel
          have g12 := (c12.get _ (lt_of_get g11) n7).trans g11
          refine w_rdPA g12 (Nat.le_refl 4) ?_
          exact finE _ h12 (.agg #[.string (bs (sgn s p1).1), .int .i64 k', .string (bs n'), .slice a' l' cc]) 1 q rfl (c111.trans c12) r12 ⟨_, _, n', _, _, _, rfl⟩ hel
      · rw [hm] at hel
        dsimp only at hel
        obtain ⟨k', n', a', l', cc, ev⟩ := m10
        subst ev
        have g10 := (c10.get _ (lt_of_get g9) n7).trans g9
        refine w_offP (w_stPA g10 rfl (by show 0 + 1 + 3 ≤ 4; decide) rfl ?_)
        have g11 : (h10.set h7.length (.row (spliceL [.string (bs (sgn s p1).1), .int .i64 0, .string (bs []), .slice none 0 0] (0 + 1) (cellsL (.agg #[.int .i64 k', .string (bs n'), .slice a' l' cc]))) true))[h7.length]? = some (.row [.string (bs (sgn s p1).1), .int .i64 k', .string (bs n'), .slice a' l' cc] true) := get_set _ (lt_of_get g10) _
        obtain ⟨P10, gr10, hP10⟩ := r10.g
        have gr11 : (h10.set h7.length (.row (spliceL [.string (bs (sgn s p1).1), .int .i64 0, .string (bs []), .slice none 0 0] (0 + 1) (cellsL (.agg #[.int .i64 k', .string (bs n'), .slice a' l' cc]))) true))[X]? = some (.row (rrow s P10 e a 0) true) := (get_ne n7 _).trans gr10
        have c111 := (c19.trans c10).setNew (i := h7.length) (by have := c17.len; omega) (.row (spliceL [.string (bs (sgn s p1).1), .int .i64 0, .string (bs []), .slice none 0 0] (0 + 1) (cellsL (.agg #[.int .i64 k', .string (bs n'), .slice a' l' cc]))) true)
        generalize h10.set h7.length (.row (spliceL [.string (bs (sgn s p1).1), .int .i64 0, .string (bs []), .slice none 0 0] (0 + 1) (cellsL (.agg #[.int .i64 k', .string (bs n'), .slice a' l' cc]))) true) = h11 at g11 gr11 c111 ⊢
        refine w_nilc (w_offP (w_rdP gr11 (v := .int .i64 e) rfl (w_eql (c_ff r10.e ?_))))
        refine w_rdPA g11 (Nat.le_refl 4) ?_
        exact finE _ h11 (.agg #[.string (bs (sgn s p1).1), .int .i64 k', .string (bs n'), .slice a' l' cc]) e a rfl c111 ⟨⟨P10, gr11, hP10⟩, r10.e⟩ ⟨_, _, n', _, _, _, rfl⟩ hel
    · have ea1 : skip s (p1 + tl s p1) = adv s p1 := rfl
      rw [ea1] at q7 r7
      rw [if_neg q7] at hel
      have c17 := c16.trans c7
      refine w_some (v := .agg #[.string (bs (sgn s p1).1), .int .i64 0, .string (bs []), .slice none 0 0]) rfl ?_
      refine n_rowv fun hA xA lA gA => ?_
      refine w_stPA gA rfl (by decide) rfl ?_
      have gB : (hA.set h7.length (.row (spliceL [(.string (bs [])), (.int .i64 0), (.string (bs [])), (.slice none 0 0)] 0 (cellsL (.agg #[.string (bs (sgn s p1).1), .int .i64 0, .string (bs []), .slice none 0 0]))) true))[h7.length]? = some (.row [.string (bs (sgn s p1).1), .int .i64 0, .string (bs []), .slice none 0 0] true) := get_set _ (lt_of_get gA) _
      have xB : Ex h7 (hA.set h7.length (.row (spliceL [(.string (bs [])), (.int .i64 0), (.string (bs [])), (.slice none 0 0)] 0 (cellsL (.agg #[.string (bs (sgn s p1).1), .int .i64 0, .string (bs []), .slice none 0 0]))) true)) := xA.set (Nat.le_refl _) _
      generalize hA.set h7.length (.row (spliceL [(.string (bs [])), (.int .i64 0), (.string (bs [])), (.slice none 0 0)] 0 (cellsL (.agg #[.string (bs (sgn s p1).1), .int .i64 0, .string (bs []), .slice none 0 0]))) true) = hB at gB xB ⊢
      have rB := (r7).ex xB
      obtain ⟨PB, grB, _⟩ := rB.g
      refine w_nilc (w_offP (w_rdP grB (v := .int .i64 (1)) rfl (w_eql (c_ff rB.e ?_))))
      refine w_nilc (w_offP (w_rdP grB (v := .int .i64 (1)) rfl (w_eql (c_ff rB.e ?_))))
      refine w_rdPA gB (Nat.le_refl 4) ?_
      exact finE _ hB (.agg #[.string (bs (sgn s p1).1), .int .i64 0, .string (bs []), .slice none 0 0]) (1) (adv s p1) rfl ((c17).trans (Chg.ex xB)) rB ⟨_, _, [], _, _, _, rfl⟩ hel
  · -- none
    rw [hpp1] at hnm r5
    have hel : relem s names p = .bad 1 p1 := by rw [hrel, elem, if_neg (by rw [hnm]; decide)]
    have c15 := c14.trans c5
    obtain ⟨P5, gr5, _⟩ := r5.g
    refine w_nilc (w_offP (w_rdP gr5 (v := .int .i64 1) rfl (w_eql ?_)))
    refine g_tf r5.e (g_tf r5.e (g_tf r5.e (g_tf r5.e (pk_ff r5.e (c_f ?_)))))
    obtain ⟨PD, grD, _⟩ := (r5).g
    refine w_nilc (w_offP (w_rdP grD (v := .int .i64 (1)) rfl (w_eql ?_)))
    refine g_tf (r5).e (g_tf (r5).e (g_tf (r5).e (g_tf (r5).e (pk_ff (r5).e (c_f ?_)))))
    obtain ⟨PC, grC, _⟩ := (r5).g
    refine w_nilc (w_offP (w_rdP grC (v := .int .i64 (1)) rfl (w_eql (c_ff (r5).e ?_))))
    refine w_some (v := .agg #[.string (bs []), .int .i64 0, .string (bs []), .slice none 0 0]) rfl ?_
    refine n_rowv fun hA xA lA gA => ?_
    refine w_stPA gA rfl (by decide) rfl ?_
    have gB : (hA.set h5.length (.row (spliceL [(.string (bs [])), (.int .i64 0), (.string (bs [])), (.slice none 0 0)] 0 (cellsL (.agg #[.string (bs []), .int .i64 0, .string (bs []), .slice none 0 0]))) true))[h5.length]? = some (.row [.string (bs []), .int .i64 0, .string (bs []), .slice none 0 0] true) := get_set _ (lt_of_get gA) _
    have xB : Ex h5 (hA.set h5.length (.row (spliceL [(.string (bs [])), (.int .i64 0), (.string (bs [])), (.slice none 0 0)] 0 (cellsL (.agg #[.string (bs []), .int .i64 0, .string (bs []), .slice none 0 0]))) true)) := xA.set (Nat.le_refl _) _
    generalize hA.set h5.length (.row (spliceL [(.string (bs [])), (.int .i64 0), (.string (bs [])), (.slice none 0 0)] 0 (cellsL (.agg #[.string (bs []), .int .i64 0, .string (bs []), .slice none 0 0]))) true) = hB at gB xB ⊢
    have rB := (r5).ex xB
    obtain ⟨PB, grB, _⟩ := rB.g
    refine w_nilc (w_offP (w_rdP grB (v := .int .i64 (1)) rfl (w_eql (c_ff rB.e ?_))))
    refine w_nilc (w_offP (w_rdP grB (v := .int .i64 (1)) rfl (w_eql (c_ff rB.e ?_))))
    refine w_rdPA gB (Nat.le_refl 4) ?_
    exact finE _ hB (.agg #[.string (bs []), .int .i64 0, .string (bs []), .slice none 0 0]) (1) (p1) rfl ((c15).trans (Chg.ex xB)) rB ⟨_, _, [], _, _, _, rfl⟩ hel
end Go.Proofs.Ytlenlhlipmkeeaa.W
end

section
/- Schema's laws: the document's Parse: names. Conditions: none. -/
namespace Go.Proofs.Ytlenlhlipmkeeaa.W
open Go Go.AM SchM
set_option linter.unusedVariables false
set_option maxRecDepth 100000
theorem ML.get {h : AH} {G : Nat → Prop} : ∀ (l : List Mdl) (cs : List Value), ML h G l cs → ∀ i m, l[i]? = some m → ∃ x y z, (cs.drop (i * 3)).take 3 = [x, y, z] ∧ MH h G m (.agg #[x, y, z])
  | [], cs, _ => fun i m hi => by simp at hi
  | f :: l, cs, hx => fun i m hi => by
    unfold ML at hx
    obtain ⟨x, y, z, rest, e1, mm, r⟩ := hx
    subst e1
    cases i with
    | zero => cases hi; exact ⟨x, y, z, rfl, mm⟩
    | succ i =>
      obtain ⟨x', y', z', h1, h2⟩ := ML.get l rest r i m hi
      refine ⟨x', y', z', ?_, h2⟩
      have e2 : (i + 1) * 3 = i * 3 + 3 := by omega
      rw [e2]
      exact h1
theorem named45 {v : Value} {root : W} {names : List W} (hn : names.length ≤ 100000) : ∀ (N : Nat) (m : Mdl) (h : AH) (vm : Value) (K : Value → AH → Prop), sz m ≤ N → N ≤ 1000000 → MH h (fun j => j < h.length) m vm → Nm h v names → (∀ h' b, Ex h h' → (b = true ↔ ∀ w ∈ nms m, w ∈ names) → K (.bool b) h') → callW Try.prog 45 [.agg #[.string (bs root), v], vm] h K
  | 0, .mk k n l, h, vm, K, hN, _, _, _ => by simp [sz] at hN
  | N + 1, .mk k n l, h, vm, K, hN, hN2, hm, hv => fun kk => by
    have hN' : szL l ≤ N := by simp only [sz] at hN; omega
    have hll := szL_len l
    unfold MH at hm
    obtain ⟨a, c, cs, rfl, sl, _, ml⟩ := hm
    refine c45 ?_
    unfold s45
    have hv0 := hv
    obtain ⟨cs0, sl0, hc0⟩ := hv.ex
    obtain ⟨va, vc, rfl⟩ := sl0.shape
    refine n_boxv rfl fun h1 x1 l1 g1 => ?_
    refine n_boxv rfl fun h2 x2 l2 g2 => ?_
    have g1' : h2[h.length]? = some (.row [.string (bs root), .slice va names.length vc] true) := x2.some g1
    have g2' : h2[h1.length]? = some (.row [.int .i64 k, .string (bs n), .slice a l.length c] true) := g2
    have x12 := x1.trans x2
    refine w_offP (w_rdP g2' (v := .int .i64 k) rfl (w_eql ?_))
    by_cases q4 : k = 4
    · refine g_tt q4 (w_rdPA g1' (Nat.le_refl 2) (g_tt q4 (w_offP (g_tt q4 (w_rdP g2' (v := .string (bs n)) rfl (g_tt q4 (find44 (hv0.ext x12) hn fun h3 i x3 hi => g_tt q4 (w_lss (pk_tt q4 ?_)))))))))
      refine c_dec (fun qi => ?_) (fun qi => ?_)
      · refine kk h3 false (x12.trans x3) ⟨fun h => (by cases h), fun hh => absurd (hi.2 (hh n (by simp only [nms]; rw [if_pos q4]; simp))) (by omega)⟩
      · have hmem := hi.1 (by omega)
        refine loopE_intro (fun mm e h' => ∃ j : Nat, j ≤ l.length ∧ mm = l.length - j ∧ e 2 = .pointer (some ⟨h.length, 0, none⟩) ∧ e 3 = .pointer (some ⟨h1.length, 0, none⟩) ∧ e 5 = .int .i64 (j : Nat) ∧ Ex h2 h' ∧ ∀ w ∈ nmsL (l.take j), w ∈ names) l.length
          ⟨0, Nat.zero_le _, rfl, rfl, rfl, rfl, x3, by simp [nmsL]⟩ ?_
        rintro I mm e h4 ⟨j, hj, hmm, e2, e3, e5, x4, hall⟩ ih
        rw [e2, e3, e5]
        have gm := x4.some g2'
        have x04 := x12.trans x4
        refine w_offP (w_rdP gm (v := .slice a l.length c) rfl (w_lenSl (w_lss (c_dec (fun q => ?_) (fun q => ?_)))))
        · obtain ⟨m', hm'⟩ := getElem?_of_lt (l := l) (i := j) (by omega)
          obtain ⟨x, y, z, hc, mh⟩ := ML.get l cs ml j m' hm'
          have hsz := sz_get l j m' hm'
          refine w_rdPA (x4.some g1') (Nat.le_refl 2) ?_
          refine w_offP (w_rdP gm (v := .slice a l.length c) rfl (w_idx (sl.ex x04) (by omega) (by omega) fun p hp => ?_))
          rw [Int.toNat_natCast, hc] at hp
          refine w_rdA hp rfl ?_
          refine named45 hn N m' h4 (.agg #[x, y, z]) _ (by omega) (by omega) (MH.mono (fun j hj => ⟨x04.get j hj, x04.lt hj⟩) m' _ mh) (hv.ext x04) fun h5 b x5 hb => w_notb ?_
          cases b with
          | true =>
            refine c_f (w_add (by omega) (by omega) ?_)
            refine ih (l.length - (j + 1)) _ _ (by omega) ⟨j + 1, by omega, rfl, e2, e3, rfl, x4.trans x5, fun w hw => ?_⟩
            have et : l.take (j + 1) = l.take j ++ [m'] := by rw [List.take_add_one, hm']; rfl
            rw [et, nmsL_append] at hw
            rcases List.mem_append.1 hw with hw | hw
            · exact hall w hw
            · simp only [nmsL, List.append_nil] at hw
              exact hb.1 rfl w hw
          | false =>
            refine c_t (kk h5 false (x04.trans x5) ⟨fun h => (by cases h), fun hh => ?_⟩)
            refine hb.2 fun w hw => hh w ?_
            simp only [nms]
            refine List.mem_append.2 (.inr ?_)
            obtain ⟨l1, l2, e1, e2'⟩ := List.append_of_mem (List.mem_of_getElem? hm')
            rw [nmsL_append]
            simp only [nmsL]
            exact List.mem_append.2 (.inr (List.mem_append.2 (.inl hw)))
        · have ej : l.take j = l := List.take_of_length_le (by omega)
          rw [ej] at hall
          refine kk h4 true x04 ⟨fun _ w hw => ?_, fun _ => rfl⟩
          simp only [nms] at hw
          rcases List.mem_append.1 hw with hw | hw
          · rw [if_pos q4] at hw; have : w = n := by simpa using hw
            rw [this]; exact hmem
          · exact hall w hw
    · refine g_tf q4 (g_tf q4 (g_tf q4 (g_tf q4 (g_tf q4 (pk_ff q4 (c_f ?_))))))
      refine loopE_intro (fun mm e h' => ∃ j : Nat, j ≤ l.length ∧ mm = l.length - j ∧ e 2 = .pointer (some ⟨h.length, 0, none⟩) ∧ e 3 = .pointer (some ⟨h1.length, 0, none⟩) ∧ e 5 = .int .i64 (j : Nat) ∧ Ex h2 h' ∧ ∀ w ∈ nmsL (l.take j), w ∈ names) l.length
        ⟨0, Nat.zero_le _, rfl, rfl, rfl, rfl, Ex.refl _, by simp [nmsL]⟩ ?_
      rintro I mm e h4 ⟨j, hj, hmm, e2, e3, e5, x4, hall⟩ ih
      rw [e2, e3, e5]
      have gm := x4.some g2'
      have x04 := x12.trans x4
      refine w_offP (w_rdP gm (v := .slice a l.length c) rfl (w_lenSl (w_lss (c_dec (fun q => ?_) (fun q => ?_)))))
      · obtain ⟨m', hm'⟩ := getElem?_of_lt (l := l) (i := j) (by omega)
        obtain ⟨x, y, z, hc, mh⟩ := ML.get l cs ml j m' hm'
        have hsz := sz_get l j m' hm'
        refine w_rdPA (x4.some g1') (Nat.le_refl 2) ?_
        refine w_offP (w_rdP gm (v := .slice a l.length c) rfl (w_idx (sl.ex x04) (by omega) (by omega) fun p hp => ?_))
        rw [Int.toNat_natCast, hc] at hp
        refine w_rdA hp rfl ?_
        refine named45 hn N m' h4 (.agg #[x, y, z]) _ (by omega) (by omega) (MH.mono (fun j hj => ⟨x04.get j hj, x04.lt hj⟩) m' _ mh) (hv.ext x04) fun h5 b x5 hb => w_notb ?_
        cases b with
        | true =>
          refine c_f (w_add (by omega) (by omega) ?_)
          refine ih (l.length - (j + 1)) _ _ (by omega) ⟨j + 1, by omega, rfl, e2, e3, rfl, x4.trans x5, fun w hw => ?_⟩
          have et : l.take (j + 1) = l.take j ++ [m'] := by rw [List.take_add_one, hm']; rfl
          rw [et, nmsL_append] at hw
          rcases List.mem_append.1 hw with hw | hw
          · exact hall w hw
          · simp only [nmsL, List.append_nil] at hw
            exact hb.1 rfl w hw
        | false =>
          refine c_t (kk h5 false (x04.trans x5) ⟨fun h => (by cases h), fun hh => ?_⟩)
          refine hb.2 fun w hw => hh w ?_
          simp only [nms]
          refine List.mem_append.2 (.inr ?_)
          obtain ⟨l1, l2, e1, e2'⟩ := List.append_of_mem (List.mem_of_getElem? hm')
          rw [nmsL_append]
          simp only [nmsL]
          exact List.mem_append.2 (.inr (List.mem_append.2 (.inl hw)))
      · have ej : l.take j = l := List.take_of_length_le (by omega)
        rw [ej] at hall
        refine kk h4 true x04 ⟨fun _ w hw => ?_, fun _ => rfl⟩
        simp only [nms] at hw
        rcases List.mem_append.1 hw with hw | hw
        · rw [if_neg q4] at hw; cases hw
        · exact hall w hw
end Go.Proofs.Ytlenlhlipmkeeaa.W
end

section
/- Schema's laws: the document's Parse. Conditions: none. -/
namespace Go.Proofs.Ytlenlhlipmkeeaa.W
open Go Go.AM SchM
set_option linter.unusedVariables false
set_option maxRecDepth 100000
theorem _root_.Go.AM.QS.lt {s b : Nat} {h : AH} {v : Value} {n : Nat} {cs : List Value} (q : QS s b h v n cs) {j : Nat} (hj : onId v j) : j < h.length := by
  rcases q with (⟨rfl, _⟩ | ⟨id, hb, rfl, g, _⟩) | ⟨i, hb, hi, rfl, _⟩
  · exact hj.elim
  · have : id = j := hj
    subst this
    exact lt_of_get g
  · have : i = j := hj
    subst this
    exact hi
theorem appTwo {h : AH} {O a7 n : Nat} {w root n' : W} {k' : Int} {a' : Option Addr} {l' c' : Nat} {vl : Value} {cs z : List Value} {Q : List Value → Nat → Value → Value → Value → Value → List Value → Nat → Value → AH → Prop} (hz : z = [(.string (bs [])), (.int .i64 0), (.string (bs [])), (.slice none 0 0)]) (gO : h[O]? = some (.row [.string (bs root), vl] true)) (g7 : h[a7]? = some (.row [.string (bs w), .int .i64 k', .string (bs n'), .slice a' l' c'] true)) (sl : Sl 4 h vl n cs) (hn : n ≤ 100000)
    (k : ∀ c i v56 v57 v58 v59 c1 i1 v61 h', Ex h h' → Sl 4 h' v61 (n + 1) (cs ++ [.string (bs w), .int .i64 k', .string (bs n'), .slice a' l' c']) → (∀ j, onId v61 j → h.length ≤ j ∧ j < h'.length) → Q c i v56 v57 v58 v59 c1 i1 v61 h') :
    optW (bldSl 4 z 0 []) fun c => newW (some h.length) (.row c true) (reserve 2 h) fun i h_20 => optW (pOff 1 (.pointer (some ⟨O, 0, none⟩))) fun v56 => (∀ x ∈ (ceOf 1 v56), vw x (reserve 2 h) = vw x (h_20)) ∧ optW (rdRow false 1 v56 h_20) fun v57 => appSl 4 (.slice (some ⟨i, 0, none⟩) 0 0) v57 h_20 fun v58 h_21 => (∀ x ∈ ceOf 4 (.pointer (some ⟨a7, 0, none⟩)), vw x (h_20) = vw x (h_21)) ∧ (∀ x ∈ ceOf 4 (.pointer (some ⟨a7, 0, none⟩)), vw x (reserve 2 h) = vw x (h_20)) ∧ optW (rdRow true 4 (.pointer (some ⟨a7, 0, none⟩)) h_21) fun v59 => optW (bldSl 4 z 1 [(0, v59)]) fun c_1 => newW (some (h.length + 1)) (.row c_1 true) h_21 fun i_1 h_22 => appSl 4 v58 (.slice (some ⟨i_1, 0, none⟩) 1 1) h_22 fun v61 h_23 => Q c i v56 v57 v58 v59 c_1 i_1 v61 h_23 := by
  subst hz
  have er : reserve 2 h = (h ++ [.dead]) ++ [.dead] := rfl
  have xr : Ex h (reserve 2 h) := by rw [er]; exact (Ex.app _ _).trans (.app _ _)
  have lr : (reserve 2 h).length = h.length + 2 := by rw [er]; simp
  have hr1 : (reserve 2 h)[h.length + 1]? = some .dead := by rw [er]; simp
  have lO := lt_of_get gO
  have l7 := lt_of_get g7
  refine w_some (v := []) (by unfold bldSl; rw [if_pos ⟨rfl, by decide, by decide⟩]; rfl) (n_slot ?_)
  generalize reserve 2 h = hr at *
  have x16 : Ex h (hr.set h.length (.row [] true)) := xr.set (Nat.le_refl _) _
  have n16 : ∀ j, j ≠ h.length → (hr.set h.length (.row [] true))[j]? = hr[j]? := fun j hj => get_ne (Ne.symm hj) _
  have l16 : (hr.set h.length (.row [] true)).length = h.length + 2 := by rw [List.length_set, lr]
  generalize hr.set h.length (.row [] true) = h16 at x16 n16 l16 ⊢
  obtain ⟨va, vc, rfl⟩ := sl.shape
  refine w_offP ⟨ptr_id (n16 O (by omega)), w_rdP (x16.some gO) (v := .slice va n vc) rfl ?_⟩
  have hb := bigR3
  refine appSl_of ?_
  refine app_q (s := 4) (b := h.length) (by decide) (.inr ⟨h.length, Nat.le_refl _, by omega, rfl, rfl, rfl⟩) (srcL_sl (by decide) (sl.ex x16)) sl.1 (by omega) (by omega) fun v58 h17 q17 l17 same17 => ?_
  have e17 : ∀ j, j ≠ h.length → j < h16.length → h17[j]? = h16[j]? := fun j hj hl => same17 j hl fun hon => hj (by have : h.length = j := hon; omega)
  have g717 := (e17 a7 (by omega) (by omega)).trans (x16.some g7)
  refine ⟨ptr_id (e17 a7 (by omega) (by omega)), ptr_id (n16 a7 (by omega)), ?_⟩
  refine w_rdPA g717 (Nat.le_refl 4) ?_
  refine w_some (bldSl_one (v := .agg #[.string (bs w), .int .i64 k', .string (bs n'), .slice a' l' c']) rfl (by decide) rfl rfl) (n_slot ?_)
  have hd17 : h17[h.length + 1]? = some .dead := (e17 _ (by omega) (by omega)).trans ((n16 _ (by omega)).trans hr1)
  have g18 : (h17.set (h.length + 1) (.row [.string (bs w), .int .i64 k', .string (bs n'), .slice a' l' c'] true))[h.length + 1]? = some (.row [.string (bs w), .int .i64 k', .string (bs n'), .slice a' l' c'] true) := get_set _ (by omega) _
  have n18 : ∀ j, j ≠ h.length + 1 → (h17.set (h.length + 1) (.row [.string (bs w), .int .i64 k', .string (bs n'), .slice a' l' c'] true))[j]? = h17[j]? := fun j hj => get_ne (Ne.symm hj) _
  have l18 : (h17.set (h.length + 1) (.row [.string (bs w), .int .i64 k', .string (bs n'), .slice a' l' c'] true)).length = h17.length := List.length_set
  show appSl 4 v58 _ (h17.set (h.length + 1) (.row [.string (bs w), .int .i64 k', .string (bs n'), .slice a' l' c'] true)) _
  generalize h17.set (h.length + 1) (.row [.string (bs w), .int .i64 k', .string (bs n'), .slice a' l' c'] true) = h18 at g18 n18 l18 ⊢
  have q18 : QS 4 h.length h18 v58 (0 + n) ([] ++ cs) := by
    rcases q17 with (⟨e1, e2⟩ | ⟨id, hb, e1, g, r1⟩) | ⟨i, hb, hi, r⟩
    · exact .inl (.inl ⟨e1, e2⟩)
    · exact .inl (.inr ⟨id, hb, e1, (n18 id fun e => by rw [e, hd17] at g; cases g).trans g, r1⟩)
    · exact .inr ⟨i, hb, by omega, r⟩
  refine appSl_of ?_
  refine app_q (s := 4) (b := h.length) (by decide) q18 (srcL_new (n := 1) (s := 4) g18 (by decide) rfl) rfl (by omega) (by omega) fun v61 h19 q19 l19 same19 => ?_
  have x19 : Ex h h19 := ⟨by omega, fun j hj => (same19 j (by omega) fun hon => by have := q18.low hon; omega).trans ((n18 j (by omega)).trans ((e17 j (by omega) (by omega)).trans (x16.get j hj)))⟩
  have sl19 := q19.sl
  have e1 : 0 + n + 1 = n + 1 := by omega
  rw [e1, List.nil_append] at sl19
  exact k _ _ _ _ _ _ _ _ v61 h19 x19 sl19 fun j hj => ⟨q19.low hj, q19.lt hj⟩
end Go.Proofs.Ytlenlhlipmkeeaa.W
end
