/- Parts of a proof, joined by a program. Conditions: none. -/
import Derived.Test.YtlenlhlipmkeeaaRB2
import Derived.Test.YtlenlhlipmkeeaaRS0
import Derived.Test.YtlenlhlipmkeeaaRA0
import Derived.Test.YtlenlhlipmkeeaaRB1

section
/- Schema's laws: the program's Parse: how a schema is read. Conditions: none. -/
namespace Go.Proofs.Ytlenlhlipmkeeaa.W
open Go Go.AM SchM
set_option linter.unusedVariables false
set_option maxRecDepth 100000
def PR (h0 h' : AH) (r : R (W × List (W × Mdl))) (v : Value) : Prop :=
  match r with
  | .bad e a => v = .tuple #[.agg #[.string (bs []), .slice none 0 0], .int .i64 (a : Nat), .int .i64 e]
  | .ok x _ => ∃ a c cs, v = .tuple #[.agg #[.string (bs x.1), .slice a x.2.length c], .int .i64 0, .int .i64 0] ∧ Sl 4 h' (.slice a x.2.length c) x.2.length cs ∧ EL h' (fun j => h0.length ≤ j ∧ j < h'.length) x.2 cs
def ER (h4 : AH) (T X O : Nat) (s : W) (h : AH) : Prop := ∃ F er a w vl, PE h X F s 0 er a ∧ (∀ j, F j → j < h.length) ∧ BS h4 T X O h F w vl ∧ parse s = .bad er a
theorem ER.ex {h4 h h' : AH} {T X O : Nat} {s : W} (r : ER h4 T X O s h) (x : Ex h h') : ER h4 T X O s h' := by
  obtain ⟨F, er, a, w, vl, r, fb, b, hp⟩ := r
  exact ⟨F, er, a, w, vl, r.ex x, fun j hj => x.lt (fb j hj), b.ex x, hp⟩
theorem errEnd {h0 h4 h : AH} {T X O : Nat} {s : W} {E : Value → Value → Value → Value → Value → Value → Value → Env} {K : Value → AH → Prop} (b4 : B4 h0 h4 T X O) (r : ER h4 T X O s h) (e2 : ∀ a b c d e f g, E a b c d e f g 2 = .pointer (some ⟨T, 0, none⟩)) (e3 : ∀ a b c d e f g, E a b c d e f g 3 = d) (e4 : ∀ a b c d e f g, E a b c d e f g 4 = g) (k : ∀ h' v, Ex h0 h' → PR h0 h' (parse s) v → K v h') :
    optW (bld [(.string (bs [])), (.slice none 0 0)] [(0, 1), (1, 1)] []) fun v75 => optW (pNilCheck (.pointer (some ⟨X, 0, none⟩))) fun v77 => optW (pOff 7 v77) fun v78 => optW (rdRow false 1 v78 h) fun v79 => optW (pNilCheck (.pointer (some ⟨X, 0, none⟩))) fun v81 => optW (pOff 6 v81) fun v82 => optW (rdRow false 1 v82 h) fun v83 => optW (pStore 2 (.pointer (some ⟨T, 0, none⟩)) v75 h) fun h_17 =>
      (∀ x ∈ (ceOf 1 v82), vw x (h) = vw x (h_17)) ∧ (∀ x ∈ (ceOf 1 v78), vw x (h) = vw x (h_17)) ∧ optW (resList Try.prog (E v75 v77 v78 v79 v81 v82 v83) h_17 Try.f17.results.toList) fun vs => K (resOf vs) h_17 := by
  obtain ⟨F, er, a, w, vl, r, fb, b, hp⟩ := r
  obtain ⟨wE, frE, atE, cE, vnE, gE, oE⟩ := r.row
  refine w_some (v := .agg #[.string (bs []), .slice none 0 0]) rfl ?_
  refine w_nilc (w_offP (w_rdP gE (v := .int .i64 a) rfl (w_nilc (w_offP (w_rdP gE (v := .int .i64 er) rfl ?_)))))
  have gT := b.t b4
  refine w_stPA gT rfl (Nat.le_refl 2) rfl ?_
  refine ⟨ptr_id (get_ne b4.tX _), ptr_id (get_ne b4.tX _), ?_⟩
  refine endP (r := T) (h0 := h) (w := []) (a := none) (l := 0) (c := 0) (e2 _ _ _ _ _ _ _) (e3 _ _ _ _ _ _ _) (e4 _ _ _ _ _ _ _) rfl (lt_of_get gT) ?_
  refine k _ _ ((b.toEx b4).set b4.bT _) ?_
  rw [hp]
  rfl
theorem callK {f : FuncId} {args : List Value} {h : AH} {K K' : Value → AH → Prop} (hk : callW Try.prog f args h K) (hm : ∀ v h, K v h → K' v h) : callW Try.prog f args h K' := callW_mono _ _ _ _ _ hm hk
set_option maxHeartbeats 400000 in
theorem parse17 {h : AH} {s : W} {K : Value → AH → Prop} (hl : s.length < 1000000000) (k : ∀ h' v, Ex h h' → PR h h' (parse s) v → K v h') : callW Try.prog 17 [.string (bs s)] h K := by
  refine c17 ?_
  unfold s17
  refine n_rowv fun h1 x1 l1 g1 => ?_
  refine w_lenStr (w_gtr (c_dec (fun q => ?_) (fun q => ?_)))
  · refine w_some (v := .agg #[.string (bs []), .slice none 0 0]) rfl ?_
    refine w_stPA g1 rfl (Nat.le_refl 2) rfl ?_
    refine endP (r := h.length) (h0 := h1) (w := []) (a := none) (l := 0) (c := 0) rfl rfl rfl rfl (by omega) ?_
    refine k _ _ (x1.set (Nat.le_refl _) _) ?_
    unfold parse
    rw [if_pos (by omega)]
    rfl
  have hs : s.length ≤ 2000 := by omega
  refine w_some (v := .agg #[.string (bs s), .int .i64 0, .int .i64 0, .string (bs []), .int .u8 0, .int .i64 0, .int .i64 0, .int .i64 0, .slice none 0 0]) rfl ?_
  refine n_boxv rfl fun h3 x3 l3 g3 => ?_
  refine n_rowv fun h4 x4 l4 g4 => ?_
  have gX : h4[h1.length]? = some (.row (prow s [] 0 ((0 : Nat) : Int) 0 0 0 0 (.slice none 0 0)) true) := x4.some g3
  have b4 : B4 h h4 h.length h1.length h3.length := ⟨(x1.trans x3).trans x4, (x3.trans x4).some g1, by omega, by omega, by omega, by omega, by omega, Nat.le_refl _, by omega, by omega⟩
  have sB : BS h4 h.length h1.length h3.length h4 (At h1.length) [] (.slice none 0 0) := ⟨Chg.refl _ _, fun e => b4.xO e.symm, g4⟩
  clear g1 g3 g4 l1 l3 l4
  generalize h.length = T at *
  generalize h1.length = X at *
  generalize h3.length = O at *
  refine next32 (at_ := 0) gX hs (Nat.zero_le _) fun h5 c5 g5 => ?_
  have r5 : PO h5 X (At X) s (skip s 0) 0 [] := ⟨⟨_, g5, OwnG.nil _ _ _⟩, Nat.zero_le _, (skip_le s 0 (Nat.zero_le _)).2, rfl, fun j hj => by have : j = X := hj; rw [this]; exact lt_of_get g5⟩
  have s5 := sB.chg c5
  clear sB gX c5 g5
  generalize hp0 : skip s 0 = p0 at r5
  have parseO : sgn s p0 = (wRoot, 0) → isName (sgn s (adv s p0)).1 = true → sgn s (adv s (adv s p0)) = ([], 59) → parse s = finish (sgn s (adv s p0)).1 (elems s (s.length + 1) (adv s (adv s (adv s p0))) []) := fun a b c => by
    unfold parse
    rw [if_neg (by omega), hp0, if_pos a, if_pos b, if_pos c]
  refine w_some (v := .agg (eSg (wRoot, 0)).toArray) rfl ?_
  have hm : callW Try.prog 33 [.pointer (some ⟨X, 0, none⟩), .agg (eSg (wRoot, 0)).toArray] h5 fun v h6 => (∃ F, PO h6 X F s (adv s p0) 0 [] ∧ BS h4 T X O h6 F [] (.slice none 0 0) ∧ sgn s p0 = (wRoot, 0)) ∨ ER h4 T X O s h6 := by
    refine mustO (x := (wRoot, 0)) r5 hs (fun q6 h6 c6 r6 => .inl ⟨_, r6, s5.chg c6, q6⟩) (fun q6 h6 c6 r6 => .inr ⟨_, 1, p0, _, _, r6, fun j hj => Nat.lt_of_lt_of_le (r5.fb j hj) c6.len, s5.chg c6, ?_⟩)
    unfold parse
    rw [if_neg (by omega), hp0, if_neg q6]
  refine callK hm ?_
  clear hm r5 s5 h5
  intro v6 h6 inv0
  refine joinE_intro (fun e h7 => e 2 = .pointer (some ⟨T, 0, none⟩) ∧ e 5 = .pointer (some ⟨X, 0, none⟩) ∧ e 6 = .pointer (some ⟨O, 0, none⟩) ∧ ((∃ F, PO h7 X F s (adv s p0) 0 [] ∧ BS h4 T X O h7 F (sgn s (adv s p0)).1 (.slice none 0 0) ∧ sgn s p0 = (wRoot, 0) ∧ isName (sgn s (adv s p0)).1 = true) ∨ ER h4 T X O s h7)) ?_ ?_
  rotate_left
  · intro J hJ
    rcases inv0 with ⟨F, r6, s6, q6⟩ | er
    · obtain ⟨vn, g6, _⟩ := r6.row
      refine w_nilc (w_offP (w_rdP g6 (v := .int .i64 0) rfl (w_eql (c_tt rfl ?_))))
      refine nameO r6 (fun hn h7 x7 => ?_) (fun hn h7 c7 r7 => ?_)
      · have s7 := s6.ex x7
        refine w_offP (w_stP s7.o (by show 0 + 0 < 2; decide) rfl rfl ?_)
        exact hJ _ _ ⟨rfl, rfl, rfl, .inl ⟨F, (r6.ex x7).setO s7.nO _, s7.setO _ _, q6, hn⟩⟩
      · have s7 := s6.chg c7
        refine w_offP (w_stP s7.o (by show 0 + 0 < 2; decide) rfl rfl ?_)
        refine hJ _ _ ⟨rfl, rfl, rfl, .inr ⟨F, 1, adv s p0, _, _, r7.setNew (fun e => s7.nO (by rw [e]; exact r7.X)) _, fun j hj => by rw [List.length_set]; exact Nat.lt_of_lt_of_le (r6.fb j hj) c7.len, s7.setO _ _, ?_⟩⟩
        unfold parse
        rw [if_neg (by omega), hp0, if_pos q6, if_neg (by rw [hn]; decide)]
    · have er' := er
      obtain ⟨F, er, a, w, vl, r, fb, b, hp⟩ := er
      obtain ⟨wE, frE, atE, cE, vnE, gE, oE⟩ := r.row
      refine w_nilc (w_offP (w_rdP gE (v := .int .i64 er) rfl (w_eql (c_ff r.e ?_))))
      exact hJ _ _ ⟨rfl, rfl, rfl, .inr er'⟩
  clear inv0 h6
  rintro e h7 ⟨e2, e5, e6, inv⟩
  rw [e5, e6]
  refine joinE_intro (fun e h8 => e 2 = .pointer (some ⟨T, 0, none⟩) ∧ e 5 = .pointer (some ⟨X, 0, none⟩) ∧ e 6 = .pointer (some ⟨O, 0, none⟩) ∧ ((∃ F, PO h8 X F s (adv s (adv s p0)) 0 [(sgn s (adv s p0)).1] ∧ BS h4 T X O h8 F (sgn s (adv s p0)).1 (.slice none 0 0) ∧ sgn s p0 = (wRoot, 0) ∧ isName (sgn s (adv s p0)).1 = true) ∨ ER h4 T X O s h8)) ?_ ?_
  rotate_left
  · intro J hJ
    rcases inv with ⟨F, r7, s7, q6, hn⟩ | er
    · obtain ⟨vn, g7, o7⟩ := r7.row
      refine w_nilc (w_offP (w_rdP g7 (v := .int .i64 0) rfl (w_eql (c_tt rfl ?_))))
      have xr := Ex.res h7
      refine w_nilc (w_offP (w_rdP (xr.some g7) (v := vn) rfl (w_offP (w_rdP (xr.some s7.o) (v := .string (bs (sgn s (adv s p0)).1)) rfl ?_))))
      refine optW_mono (fun c hc => n_res hc) ?_
      refine appName (w := (sgn s (adv s p0)).1) hs r7 (fun e => by rw [e] at hn; exact absurd hn (by decide)) g7 o7 fun h8 F8 c8 r8 _ _ _ _ _ _ => ?_
      exact hJ _ _ ⟨e2, e5, e6, .inl ⟨F8, r8, s7.chg c8, q6, hn⟩⟩
    · have er' := er
      obtain ⟨F, er, a, w, vl, r, fb, b, hp⟩ := er
      obtain ⟨wE, frE, atE, cE, vnE, gE, oE⟩ := r.row
      refine w_nilc (w_offP (w_rdP gE (v := .int .i64 er) rfl (w_eql (c_ff r.e ?_))))
      exact hJ _ _ ⟨e2, e5, e6, .inr er'⟩
  clear inv e2 e5 e6 e h7
  rintro e h8 ⟨e2, e5, e6, inv⟩
  rw [e5]
  refine w_some (v := .agg (eSg ([], 59)).toArray) rfl ?_
  have hm : callW Try.prog 33 [.pointer (some ⟨X, 0, none⟩), .agg (eSg ([], 59)).toArray] h8 fun v h9 => (∃ F, PO h9 X F s (adv s (adv s (adv s p0))) 0 [(sgn s (adv s p0)).1] ∧ BS h4 T X O h9 F (sgn s (adv s p0)).1 (.slice none 0 0) ∧ sgn s p0 = (wRoot, 0) ∧ isName (sgn s (adv s p0)).1 = true ∧ sgn s (adv s (adv s p0)) = ([], 59)) ∨ ER h4 T X O s h9 := by
    rcases inv with ⟨F, r8, s8, q6, hn⟩ | er
    · refine mustO (x := ([], 59)) r8 hs (fun q9 h9 c9 r9 => .inl ⟨_, r9, s8.chg c9, q6, hn, q9⟩) (fun q9 h9 c9 r9 => .inr ⟨_, 1, adv s (adv s p0), _, _, r9, fun j hj => Nat.lt_of_lt_of_le (r8.fb j hj) c9.len, s8.chg c9, ?_⟩)
      unfold parse
      rw [if_neg (by omega), hp0, if_pos q6, if_pos hn, if_neg q9]
    · have er' := er
      obtain ⟨F, er, a, w, vl, r, fb, b, hp⟩ := er
      exact mustE (x := ([], 59)) r fun h9 x9 => .inr (er'.ex x9)
  refine callK hm ?_
  clear hm inv
  intro v9 h9 inv
  let IV : Nat → AH → Prop := fun mm h' => (∃ (F : Nat → Prop) (k : Nat) (l : List (W × Mdl)) (q : Nat) (vl : Value), mm = k + 1 ∧ PO h' X F s q 0 ((sgn s (adv s p0)).1 :: nmsE l) ∧ BS h4 T X O h' F (sgn s (adv s p0)).1 vl ∧ LE h4.length h' F vl l ∧ l.length ≤ q ∧ s.length < q + k ∧ l.length ≤ 8 ∧
          parse s = finish (sgn s (adv s p0)).1 (elems s k q l)) ∨ (mm = 0 ∧ ER h4 T X O s h')
  have hI : ∃ m0, IV m0 h9 := by
    rcases inv with ⟨F, r9, s9, q6, hn, q9⟩ | er
    · exact ⟨s.length + 2, .inl ⟨F, s.length + 1, [], _, _, rfl, r9, s9, ⟨⟨[], OwnG.nil _ _ _, rfl⟩⟩, Nat.zero_le _, by omega, Nat.zero_le _, parseO q6 hn q9⟩⟩
    · exact ⟨0, .inr ⟨rfl, er⟩⟩
  obtain ⟨m0, hI⟩ := hI
  refine loopE_intro (fun mm e h' => e 2 = .pointer (some ⟨T, 0, none⟩) ∧ e 5 = .pointer (some ⟨X, 0, none⟩) ∧ e 6 = .pointer (some ⟨O, 0, none⟩) ∧ IV mm h') m0 ⟨e2, e5, e6, hI⟩ ?_
  clear hI inv e2 e5 e6
  clear e h8 h9 m0
  rintro I mm e h11 ⟨e2, e5, e6, inv⟩ ih
  rw [e2, e5, e6]
  refine w_some (v := .agg (eSg (wElement, 0)).toArray) rfl ?_
  rcases inv with ⟨F, k0, l, q0, vl, hmm, r11, s11, L11, hlq, hk, hl8, hparse⟩ | ⟨hmm, er⟩
  · have hq0 := r11.p
    have hk0 : 0 < k0 := by omega
    obtain ⟨k1, rfl⟩ : ∃ k1, k0 = k1 + 1 := ⟨k0 - 1, by omega⟩
    refine takesO (x := (wElement, 0)) r11 hs (fun qe h12 c12 r12 => c_t ?_) (fun qe h12 x12 => c_f ?_)
    · -- an element
      have s12 := s11.chg c12
      have L12 := L11.chg c12
      rw [elems_step qe] at hparse
      have xr := Ex.res h12
      have lr : (reserve 1 h12).length = h12.length + 1 := by rw [reserve_one]; simp
      have hadv := adv_gt hq0 (by rw [qe]; decide)
      refine w_offP (w_rdP (xr.some s12.o) (v := vl) rfl (w_offP (w_rdP (xr.some s12.o) (v := vl) rfl ?_)))
      have hvF : ∀ j, onId vl j → ¬ F j ∧ j < (reserve 1 h12).length := fun j hj => ⟨(L12.on hj).2.2, xr.lt (L12.on hj).2.1⟩
      have lO12 := lt_of_get s12.o
      have appE : ∀ (h13 : AH) (F13 : Nat → Prop) (w n' : W) (k' : Int) (a' : Option Addr) (l' c' : Nat) (Q : List Value → Nat → Value → Value → AH → Prop), Chg F (reserve 1 h12) F13 h13 → (∀ j, F13 j → j < h13.length) →
          (∀ v' cs h14 h16 c i q, h14 = h13.set h12.length (.row [.string (bs w), .int .i64 k', .string (bs n'), .slice a' l' c'] true) → isSl v' → OwnG 4 (Gd h4.length h14 F13) h14 vl l.length cs → EL h14 (fun j => Gd h4.length h14 F13 j ∧ ¬ onId vl j) l cs → BS h4 T X O h16 F13 (sgn s (adv s p0)).1 v' → (∀ j, j < h14.length → ¬ onId vl j → j ≠ O → h16[j]? = h14[j]?) → h14.length ≤ h16.length → (∀ j, onId v' j → onId vl j ∨ j = h14.length) → OwnG 4 (Gd h4.length h16 F13) h16 v' (l.length + 1) (cs ++ [.string (bs w), .int .i64 k', .string (bs n'), .slice a' l' c']) → Q c i v' q h16) →
          (∀ x ∈ (ceOf 1 (.pointer (some ⟨O, 0 + 1, none⟩))), vw x ((reserve 1 h12)) = vw x (h13)) ∧
          optW (bldSl 4 [(.string (bs [])), (.int .i64 0), (.string (bs [])), (.slice none 0 0)] 1 [(0, .agg #[.string (bs w), .int .i64 k', .string (bs n'), .slice a' l' c'])]) fun c => newW (some (h12.length)) (.row c true) h13 fun i h_13 => appSl 4 vl (.slice (some ⟨i, 0, none⟩) 1 1) h_13 fun v60 h_14 => optW (pOff 1 (.pointer (some ⟨O, 0, none⟩))) fun v61 => optW (pStore 1 v61 v60 h_14) fun h_15 => Q c i v60 v61 h_15 := by
        intro h13 F13 w n' k' a' l' c' Q c13 fb13 kk
        refine ⟨ptr_id (c13.get O (xr.lt lO12) s12.nO), ?_⟩
        refine w_some (bldSl_one (v := .agg #[.string (bs w), .int .i64 k', .string (bs n'), .slice a' l' c']) rfl (by decide) rfl rfl) ?_
        refine n_slot ?_
        have l13 := c13.len
        have nf13 : ¬ F13 h12.length := fun hf => (c13.dom _ hf).elim (fun hf => by have := r12.fb _ hf; omega) (by omega)
        have c14 := ((Chg.ex (F := F) xr).trans c13).setNew (i := h12.length) (Nat.le_refl _) (.row [.string (bs w), .int .i64 k', .string (bs n'), .slice a' l' c'] true)
        have g14 : (h13.set h12.length (.row [.string (bs w), .int .i64 k', .string (bs n'), .slice a' l' c'] true))[h12.length]? = some (.row [.string (bs w), .int .i64 k', .string (bs n'), .slice a' l' c'] true) := get_set _ (by omega) _
        have l14 : (h13.set h12.length (.row [.string (bs w), .int .i64 k', .string (bs n'), .slice a' l' c'] true)).length = h13.length := List.length_set
        have kk' := fun v' cs h16 c i q => kk v' cs _ h16 c i q rfl
        clear kk
        show appSl 4 vl _ (h13.set h12.length (.row [.string (bs w), .int .i64 k', .string (bs n'), .slice a' l' c'] true)) _
        generalize h13.set h12.length (.row [.string (bs w), .int .i64 k', .string (bs n'), .slice a' l' c'] true) = h14 at c14 g14 l14 kk' ⊢
        have s14 := s12.chg c14
        obtain ⟨cs, o14, e14⟩ := (L12.chg c14).ex
        refine appSl_of ?_
        refine app_g (by decide) o14 (srcL_new (n := 1) (s := 4) g14 (by decide) rfl) rfl (by have := bigR3; omega) fun v' h15 a1 a2 a3 a4 => ?_
        have nvO : ¬ onId vl O := fun hon => by have := (o14.on hon).1.1; have := b4.lO; omega
        have gO := (a3 O (lt_of_get s14.o) nvO).trans s14.o
        obtain ⟨sa, sn, sc, rfl⟩ := Sl.isSl a1.sl
        refine w_offP (w_stP gO (by show 0 + 1 < 2; decide) rfl rfl ?_)
        have l16 : (h15.set O (.row ([Value.string (bs (sgn s (adv s p0)).1), vl].set (0 + 1) (.slice sa sn sc)) true)).length = h15.length := List.length_set
        have n16 : ∀ j, j ≠ O → (h15.set O (.row ([Value.string (bs (sgn s (adv s p0)).1), vl].set (0 + 1) (.slice sa sn sc)) true))[j]? = h15[j]? := fun j hj => get_ne (Ne.symm hj) _
        refine kk' (.slice sa sn sc) cs _ _ _ _ ⟨sa, sn, sc, rfl⟩ o14 e14 ⟨⟨by have := s14.c.len; omega, fun j hj hn => ?_, s14.c.dom⟩, s14.nO, get_set _ (lt_of_get gO) _⟩ (fun j hj hno hO => (n16 j hO).trans (a3 j hj hno)) (by omega) a4 ?_
        · have hjO : j ≠ O := fun e => hn (.inr e)
          refine (n16 j hjO).trans ((a3 j (by have := s14.c.len; omega) fun hon => by have := (o14.on hon).1.1; omega).trans (s14.c.get j hj hn))
        · refine a1.mono (fun j hj hF => ?_) fun j hj hF => ?_
          · have hj' := (a1.on hj).2
            rcases hF with hF | rfl
            · exact ⟨hF.1, by omega, hF.2.2⟩
            · exact ⟨by have := s14.c.len; omega, by omega, fun hf => by have := fb13 _ hf; omega⟩
          · refine n16 j fun e => ?_
            have := b4.lO
            have := s14.c.len
            rcases hF with hF | rfl
            · have := hF.1; omega
            · omega
      refine elem36 hs (r12.ex xr) (L12.nm.ext xr) hvF (by rw [List.length_map]; omega) (fun k' n' a' l' c' h13 F13 w m q he c13 r13 m13 => ?_) (fun v h13 F13 er a he c13 r13 fb13 m13 => ?_)
      · have hlt := elem_lt he
        rw [List.length_map] at hlt
        have hup := elem_up r12.p he
        rw [he] at hparse
        dsimp only at hparse
        refine appE h13 F13 w n' k' a' l' c' _ c13 r13.fb fun v' cs h14 h16 _ _ _ e14 sv' o14 el14 s16 same16 len16 ids16 o16 => ?_
        have l13 := c13.len
        have nf13 : ¬ F13 h12.length := fun hf => (c13.dom _ hf).elim (fun hf => by have := r12.fb _ hf; omega) (by omega)
        have r14 := r13.setNew nf13 (.row [.string (bs w), .int .i64 k', .string (bs n'), .slice a' l' c'] true)
        have m14 := m13.setNew (i := h12.length) (fun hg => by have := hg.1; omega) (.row [.string (bs w), .int .i64 k', .string (bs n'), .slice a' l' c'] true)
        rw [← e14] at r14 m14
        have nFv : ∀ j, F13 j → ¬ onId vl j := fun j hf hon => (o14.on hon).1.2.2 hf
        have lb := s16.c.len
        have lOb := b4.lO
        have l14 : h14.length = h13.length := by rw [e14]; exact List.length_set
        have r16 : PO h16 X F13 s q 0 ((sgn s (adv s p0)).1 :: nmsE (l ++ [(w, m)])) := by
          obtain ⟨vn, g, o⟩ := r14.row
          have en : (sgn s (adv s p0)).1 :: nmsE (l ++ [(w, m)]) = (sgn s (adv s p0)).1 :: nmsE l ++ nms m := by rw [nmsE_append]; simp [nmsE]
          rw [en]
          exact ⟨⟨vn, (same16 X (r14.fb X r14.X) (nFv X r14.X) b4.xO).trans g, o.mono (fun _ _ h => h) fun j hj hF => same16 j (o.on hj).2 (nFv j hF.1) (fun e => s16.nO (by rw [← e]; exact hF.1))⟩, r14.nb, r14.p, r14.X, fun j hj => Nat.lt_of_lt_of_le (r14.fb j hj) len16⟩
        have l12v : ∀ j, onId vl j → j < h12.length := fun j hj => (L12.on hj).2.1
        have up : ∀ j, Gd h4.length h14 F13 j ∧ ¬ onId vl j → h16[j]? = h14[j]? ∧ Gd h4.length h16 F13 j ∧ ¬ onId v' j := fun j hj => ⟨same16 j hj.1.2.1 hj.2 (fun e => by have := hj.1.1; omega), ⟨hj.1.1, Nat.lt_of_lt_of_le hj.1.2.1 len16, hj.1.2.2⟩, fun hon => (ids16 j hon).elim hj.2 fun e => by have := hj.1.2.1; omega⟩
        have L16 : LE h4.length h16 F13 v' (l ++ [(w, m)]) := by
          refine ⟨⟨cs ++ [.string (bs w), .int .i64 k', .string (bs n'), .slice a' l' c'], ?_, ?_⟩⟩
          · have elm : (l ++ [(w, m)]).length = l.length + 1 := by simp
            rw [elm]
            exact o16
          · refine EL.snoc (e := (w, m)) (MH.mono (fun j gj => up j ⟨⟨?_, gj.2⟩, fun hon => ?_⟩) m _ m14) l cs (EL.mono up l cs el14)
            · have := s12.c.len; have := gj.1; omega
            · have := l12v j hon; have := gj.1; omega
        exact ih (k1 + 1) _ _ (by omega) ⟨e2, e5, e6, .inl ⟨F13, k1, l ++ [(w, m)], q, v', rfl, r16, s16, L16, by simp; omega, by omega, by simp; omega, hparse⟩⟩
      · rw [he] at hparse
        obtain ⟨w, k', n', a', l', c', ev⟩ := m13
        subst ev
        refine appE h13 F13 w n' k' a' l' c' _ c13 fb13 fun v' cs h14 h16 _ _ _ e14 sv' o14 el14 s16 same16 len16 ids16 o16 => ?_
        have nFv : ∀ j, F13 j → ¬ onId vl j := fun j hf hon => (o14.on hon).1.2.2 hf
        have l13 := c13.len
        have nf13 : ¬ F13 h12.length := fun hf => (c13.dom _ hf).elim (fun hf => by have := r12.fb _ hf; omega) (by omega)
        have l14 : h14.length = h13.length := by rw [e14]; exact List.length_set
        have r14 := r13.setNew (i := h12.length) (fun e => nf13 (by rw [e]; exact r13.X)) (.row [.string (bs w), .int .i64 k', .string (bs n'), .slice a' l' c'] true)
        rw [← e14] at r14
        have r16 : PE h16 X F13 s 0 er a := by
          obtain ⟨w, fr, at_, c, vn, g, o⟩ := r14.row
          exact ⟨⟨w, fr, at_, c, vn, (same16 X (by rw [l14]; exact fb13 X r13.X) (nFv X r13.X) b4.xO).trans g, o⟩, r13.e, r13.X⟩
        exact ih 0 _ _ (by omega) ⟨e2, e5, e6, .inr ⟨rfl, F13, er, a, _, v', r16, fun j hj => by have := fb13 j hj; omega, s16, hparse⟩⟩
    · -- no element
      have r12 := r11.ex x12
      have s12 := s11.ex x12
      have L12 := L11.chg (Chg.ex x12)
      obtain ⟨vn, g12, o12⟩ := r12.row
      refine w_nilc (w_offP (w_rdPA (n := 2) g12 (by show 0 + 3 + 2 ≤ 9; decide) ?_))
      refine w_some (v := .agg (eSg ([], 0)).toArray) rfl ?_
      refine w_sgne (a := sgn s q0) (b := ([], 0)) (c_dec (fun qn => ?_) (fun qn => ?_))
      · rw [elems_bad qe qn] at hparse
        refine wrongO (e := 1) (by decide) r12 fun h13 c13 r13 => ?_
        have er13 : ER h4 T X O s h13 := ⟨F, 1, q0, _, vl, r13, fun j hj => Nat.lt_of_lt_of_le (r12.fb j hj) c13.len, s12.chg c13, hparse⟩
        obtain ⟨wE, frE, atE, cE, vnE, gE, oE⟩ := r13.row
        refine w_nilc (w_offP (w_rdP gE (v := .int .i64 1) rfl (w_neq (c_tt (by decide) ?_))))
        exact errEnd b4 er13 (fun _ _ _ _ _ _ _ => e2) (fun _ _ _ _ _ _ _ => rfl) (fun _ _ _ _ _ _ _ => rfl) k
      · have qn' : sgn s q0 = ([], 0) := Decidable.not_not.1 qn
        rw [elems_end qe qn'] at hparse
        refine w_nilc (w_offP (w_rdP g12 (v := .int .i64 0) rfl (w_neq (c_ff (fun h => h rfl) ?_))))
        refine w_nilc (w_offP (w_rdP g12 (v := vn) rfl ?_))
        have sl12 := o12.sl
        have sln := sl12
        obtain ⟨na, ncap, ev⟩ := sl12.shape
        have hcl : ((sgn s (adv s p0)).1 :: nmsE l).length ≤ 2000 := by have := r12.nb; omega
        generalize hnm : (sgn s (adv s p0)).1 :: nmsE l = names at sl12 sln ev hcl
        rw [ev]
        rw [ev] at sln
        refine w_lenSl ?_
        refine loopE_intro (fun mm e h' => ∃ j : Nat, j ≤ names.length ∧ mm = names.length - j ∧ e 2 = .pointer (some ⟨T, 0, none⟩) ∧ e 6 = .pointer (some ⟨O, 0, none⟩) ∧ e 87 = .slice na names.length ncap ∧ e 88 = .int .i64 (names.length : Nat) ∧ e 89 = .int .i64 (j : Nat) ∧ Ex h12 h' ∧ ∀ w ∈ names.take j, w ∈ l.map (·.1)) names.length
          ⟨0, Nat.zero_le _, rfl, e2, e6, rfl, rfl, rfl, Ex.refl _, by simp⟩ ?_
        clear e2 e5 e6 hmm ih
        clear e mm I
        rintro I mm e h18 ⟨j, hj, hmm, e2, e6, e87, e88, e89, x18, hall⟩ ih
        rw [e2, e6, e87, e88, e89]
        have s18 := s12.ex x18
        refine w_lss (c_dec (fun q => ?_) (fun q => ?_))
        · obtain ⟨w, hw⟩ := getElem?_of_lt (l := names) (i := j) (by omega)
          have hw' : (names.map fun w => Value.string (bs w))[j]? = some (.string (bs w)) := by rw [List.getElem?_map, hw]; rfl
          refine idxS1 (sln.ex x18) hw' fun p hp => w_rd1 hp rfl ?_
          refine w_offP (w_rdP s18.o (v := vl) rfl (has38 (L12.nm.ext x18) (by rw [List.length_map]; omega) fun h19 x19 => w_notb ?_))
          have s19 := s18.ex x19
          by_cases hm : w ∈ l.map (·.1)
          · rw [decide_eq_true hm]
            refine c_f (w_add (by omega) (by omega) ?_)
            refine ih (names.length - (j + 1)) _ _ (by omega) ⟨j + 1, by omega, rfl, e2, e6, e87, e88, rfl, x18.trans x19, fun w' hw'' => ?_⟩
            rw [List.take_add_one, hw] at hw''
            rcases List.mem_append.1 hw'' with h | h
            · exact hall w' h
            · have : w' = w := by simpa using h
              rw [this]; exact hm
          · rw [decide_eq_false hm]
            refine c_t ?_
            refine w_some (v := .agg #[.string (bs []), .slice none 0 0]) rfl ?_
            have gT := s19.t b4
            refine w_stPA gT rfl (Nat.le_refl 2) rfl ?_
            refine endP (r := T) (h0 := h19) (w := []) (a := none) (l := 0) (c := 0) e2 rfl rfl rfl (lt_of_get gT) ?_
            refine k _ _ ((s19.toEx b4).set b4.bT _) ?_
            have hk : known (sgn s (adv s p0)).1 l = false := by
              unfold known
              rw [hnm, List.all_eq_false]
              exact ⟨w, List.mem_of_getElem? hw, by rw [decide_eq_false hm]; decide⟩
            have : parse s = .bad 6 0 := by
              rw [hparse]
              unfold finish
              dsimp only
              rw [if_neg (by rw [hk]; decide)]
            rw [this]
            rfl
        · have hja : names.take j = names := List.take_of_length_le (by omega)
          rw [hja] at hall
          have hk : known (sgn s (adv s p0)).1 l = true := by
            unfold known
            rw [hnm, List.all_eq_true]
            exact fun w hw => decide_eq_true (hall w hw)
          have hp : parse s = .ok ((sgn s (adv s p0)).1, l) 0 := by
            rw [hparse]
            unfold finish
            dsimp only
            rw [if_pos hk]
          obtain ⟨cs, oL, eL⟩ := (L12.chg (Chg.ex x18)).ex
          refine w_offP (w_rdP s18.o (v := vl) rfl (clip39 oL.sl (by omega) fun a' sl' on' => ?_))
          refine w_offP (w_stP s18.o (by show 0 + 1 < 2; decide) rfl rfl ?_)
          have s20 := s18.setO (sgn s (adv s p0)).1 (.slice a' l.length l.length)
          have s20o : (h18.set O (.row ([Value.string (bs (sgn s (adv s p0)).1), vl].set (0 + 1) (.slice a' l.length l.length)) true))[O]? = some (.row [.string (bs (sgn s (adv s p0)).1), .slice a' l.length l.length] true) := s20.o
          have s20' : BS h4 T X O (h18.set O (.row ([Value.string (bs (sgn s (adv s p0)).1), vl].set (0 + 1) (.slice a' l.length l.length)) true)) F (sgn s (adv s p0)).1 (.slice a' l.length l.length) := s20
          have n20 : ∀ j, j ≠ O → (h18.set O (.row ([Value.string (bs (sgn s (adv s p0)).1), vl].set (0 + 1) (.slice a' l.length l.length)) true))[j]? = h18[j]? := fun j hj => get_ne (Ne.symm hj) _
          have l20 : (h18.set O (.row ([Value.string (bs (sgn s (adv s p0)).1), vl].set (0 + 1) (.slice a' l.length l.length)) true)).length = h18.length := List.length_set
          clear s20
          generalize h18.set O (.row ([Value.string (bs (sgn s (adv s p0)).1), vl].set (0 + 1) (.slice a' l.length l.length)) true) = h20 at s20o s20' n20 l20 ⊢
          refine w_rdPA s20o (Nat.le_refl 2) ?_
          have gT := s20'.t b4
          refine w_stPA gT rfl (Nat.le_refl 2) rfl ?_
          refine endP (r := T) (h0 := h20) (w := (sgn s (adv s p0)).1) (a := a') (l := l.length) (c := l.length) e2 rfl rfl rfl (lt_of_get gT) ?_
          refine k _ _ ((s20'.toEx b4).set b4.bT _) ?_
          rw [hp]
          have lT := lt_of_get b4.t
          have lOb := b4.lO
          have l4 := b4.x.len
          have big : ∀ (o : AObj) j, Gd h4.length h18 F j → (h20.set T o)[j]? = h18[j]? := fun o j hj => (get_ne (by have := hj.1; omega) _).trans (n20 j (by have := hj.1; omega))
          refine ⟨a', l.length, cs, rfl, Sl.keepOn sl' fun j hj => big _ j (oL.on (on' j hj)).1, EL.mono (fun j hj => ⟨big _ j hj.1, by have := hj.1.1; omega, by rw [List.length_set, l20]; exact hj.1.2.1⟩) l cs eL⟩
  · -- an error
    have er' := er
    obtain ⟨F, er, a, w, vl, r, fb, b, hp⟩ := er
    refine takesE (x := (wElement, 0)) r fun h12 x12 => c_f ?_
    have er12 := er'.ex x12
    have r12 := r.ex x12
    obtain ⟨wE, frE, atE, cE, vnE, gE, oE⟩ := r12.row
    refine w_nilc (w_offP (w_rdPA (n := 2) gE (by show 0 + 3 + 2 ≤ 9; decide) ?_))
    refine w_some (v := .agg (eSg ([], 0)).toArray) rfl ?_
    refine w_sgne (a := (wE, cE)) (b := ([], 0)) (c_dec (fun qn => ?_) (fun qn => ?_))
    · refine wrongE r12 ?_
      refine w_nilc (w_offP (w_rdP gE (v := .int .i64 er) rfl (w_neq (c_tt r12.e ?_))))
      exact errEnd b4 er12 (fun _ _ _ _ _ _ _ => e2) (fun _ _ _ _ _ _ _ => rfl) (fun _ _ _ _ _ _ _ => rfl) k
    · refine w_nilc (w_offP (w_rdP gE (v := .int .i64 er) rfl (w_neq (c_tt r12.e ?_))))
      exact errEnd b4 er12 (fun _ _ _ _ _ _ _ => e2) (fun _ _ _ _ _ _ _ => rfl) (fun _ _ _ _ _ _ _ => rfl) k
end Go.Proofs.Ytlenlhlipmkeeaa.W
end

section
/- Schema's laws: the document's reader: its words. Conditions: none. -/
namespace Go.Proofs.Ytlenlhlipmkeeaa.W
open Go Go.AM SchM
set_option linter.unusedVariables false
set_option maxRecDepth 100000
def rrow (s : W) (P e a D : Int) : List Value := [.string (bs s), .int .i64 P, .int .i64 e, .int .i64 a, .int .i64 D]
end Go.Proofs.Ytlenlhlipmkeeaa.W
end

section
/- Schema's laws: the document's reader: signs are taken. Conditions: none. -/
namespace Go.Proofs.Ytlenlhlipmkeeaa.W
open Go Go.AM SchM
set_option linter.unusedVariables false
set_option maxRecDepth 100000
structure RO (h : AH) (X : Nat) (s : W) (P D : Nat) : Prop where
  g : h[X]? = some (.row (rrow s P 0 0 D) true)
  p : P ≤ s.length
structure RE (h : AH) (X : Nat) (s : W) (D : Nat) (e : Int) (a : Nat) : Prop where
  g : ∃ P : Nat, h[X]? = some (.row (rrow s P e a D) true) ∧ P ≤ s.length
  e : e ≠ 0
theorem RO.ex {h h' : AH} {X : Nat} {s : W} {P D : Nat} (r : RO h X s P D) (x : Ex h h') : RO h' X s P D := ⟨x.some r.g, r.p⟩
theorem RE.ex {h h' : AH} {X : Nat} {s : W} {D : Nat} {e : Int} {a : Nat} (r : RE h X s D e a) (x : Ex h h') : RE h' X s D e a := by
  obtain ⟨P, g, hP⟩ := r.g
  exact ⟨⟨P, x.some g, hP⟩, r.e⟩
def Tk (w : W) (x : W × UInt8) : Prop := (x = (w, 0) ∧ 2 ≤ w.length ∧ w ≠ noneAt) ∨ ∃ c, w = [c] ∧ x = ([], c) ∧ low c = false ∧ c ≠ 0
section
variable {h : AH} {X P D : Nat} {s : W} {K : Value → AH → Prop}
end
end Go.Proofs.Ytlenlhlipmkeeaa.W
end

section
/- Schema's laws: the document's reader: rows of models. Conditions: none. -/
namespace Go.Proofs.Ytlenlhlipmkeeaa.W
open Go Go.AM SchM
set_option linter.unusedVariables false
set_option maxRecDepth 100000
end Go.Proofs.Ytlenlhlipmkeeaa.W
end

section
/- Schema's laws: the document's reader: models. Conditions: none. -/
namespace Go.Proofs.Ytlenlhlipmkeeaa.W
open Go Go.AM SchM
set_option linter.unusedVariables false
set_option maxRecDepth 100000
end Go.Proofs.Ytlenlhlipmkeeaa.W
end

section
/- Schema's laws: the document's reader: models, all of them. Conditions: none. -/
namespace Go.Proofs.Ytlenlhlipmkeeaa.W
open Go Go.AM SchM
set_option linter.unusedVariables false
set_option maxRecDepth 100000
end Go.Proofs.Ytlenlhlipmkeeaa.W
end

section
/- Schema's laws: the document's reader: elements. Conditions: none. -/
namespace Go.Proofs.Ytlenlhlipmkeeaa.W
open Go Go.AM SchM
set_option linter.unusedVariables false
set_option maxRecDepth 100000
theorem tkE : Tk wElement (wElement, 0) := .inl ⟨rfl, by decide, by decide⟩
end Go.Proofs.Ytlenlhlipmkeeaa.W
end

section
/- Schema's laws: the document's Parse: names. Conditions: none. -/
namespace Go.Proofs.Ytlenlhlipmkeeaa.W
open Go Go.AM SchM
set_option linter.unusedVariables false
set_option maxRecDepth 100000
theorem ML.get {h : AH} {G : Nat → Prop} : ∀ (l : List Mdl) (cs : List Value), ML h G l cs → ∀ i m, l[i]? = some m → ∃ x y z, (cs.drop (i * 3)).take 3 = [x, y, z] ∧ MH h G m (.agg #[x, y, z])
  | [], cs, _ => fun i m hi => by simp at hi
  | f :: l, cs, hx => fun i m hi => by
    unfold ML at hx
    obtain ⟨x, y, z, rest, e1, mm, r⟩ := hx
    subst e1
    cases i with
    | zero => cases hi; exact ⟨x, y, z, rfl, mm⟩
    | succ i =>
      obtain ⟨x', y', z', h1, h2⟩ := ML.get l rest r i m hi
      refine ⟨x', y', z', ?_, h2⟩
      have e2 : (i + 1) * 3 = i * 3 + 3 := by omega
      rw [e2]
      exact h1
end Go.Proofs.Ytlenlhlipmkeeaa.W
end

section
/- Schema's laws: the document's Parse. Conditions: none. -/
namespace Go.Proofs.Ytlenlhlipmkeeaa.W
open Go Go.AM SchM
set_option linter.unusedVariables false
set_option maxRecDepth 100000
theorem _root_.Go.AM.QS.lt {s b : Nat} {h : AH} {v : Value} {n : Nat} {cs : List Value} (q : QS s b h v n cs) {j : Nat} (hj : onId v j) : j < h.length := by
  rcases q with (⟨rfl, _⟩ | ⟨id, hb, rfl, g, _⟩) | ⟨i, hb, hi, rfl, _⟩
  · exact hj.elim
  · have : id = j := hj
    subst this
    exact lt_of_get g
  · have : i = j := hj
    subst this
    exact hi
end Go.Proofs.Ytlenlhlipmkeeaa.W
end

section
/- Schema's laws: the document's Parse: how a schema is read. Conditions: none. -/
namespace Go.Proofs.Ytlenlhlipmkeeaa.W
open Go Go.AM SchM
set_option linter.unusedVariables false
set_option maxRecDepth 100000
def ERr (h4 : AH) (T X O : Nat) (s : W) (h : AH) : Prop := ∃ er a w vl, RE h X s 0 er a ∧ BS h4 T X O h (At X) w vl ∧ parse s = .bad er a
theorem ERr.ex {h4 h h' : AH} {T X O : Nat} {s : W} (r : ERr h4 T X O s h) (x : Ex h h') : ERr h4 T X O s h' := by
  obtain ⟨er, a, w, vl, r, b, hp⟩ := r
  exact ⟨er, a, w, vl, r.ex x, b.ex x, hp⟩
structure LR (b : Nat) (h : AH) (v : Value) (l : List (W × Mdl)) : Prop where
  ex : ∃ cs, Sl 4 h v l.length cs ∧ (∀ j, onId v j → b ≤ j ∧ j < h.length) ∧ EL h (fun j => b ≤ j ∧ j < h.length) l cs
theorem LR.keep {b : Nat} {h h' : AH} {v : Value} {l : List (W × Mdl)} (x : LR b h v l) (hl : h.length ≤ h'.length) (hh : ∀ j, b ≤ j → j < h.length → h'[j]? = h[j]?) : LR b h' v l := by
  obtain ⟨cs, s, o, e⟩ := x.ex
  exact ⟨⟨cs, Sl.keepOn s fun j hj => hh j (o j hj).1 (o j hj).2, fun j hj => ⟨(o j hj).1, Nat.lt_of_lt_of_le (o j hj).2 hl⟩, EL.mono (fun j hj => ⟨hh j hj.1 hj.2, hj.1, Nat.lt_of_lt_of_le hj.2 hl⟩) l cs e⟩⟩
theorem LR.chg {b X : Nat} {h h' : AH} {v : Value} {l : List (W × Mdl)} (x : LR b h v l) (hX : X < b) (c : Chg (At X) h (At X) h') : LR b h' v l :=
  x.keep c.len fun j hj hl => c.get j hl fun e => by have : j = X := e; omega
theorem LR.nm {b : Nat} {h : AH} {v : Value} {l : List (W × Mdl)} (x : LR b h v l) : Nm h v (l.map (·.1)) := by
  obtain ⟨cs, s, o, r⟩ := x.ex
  refine ⟨⟨cs, by rw [List.length_map]; exact s, fun i w hw => ?_⟩⟩
  rw [List.getElem?_map] at hw
  cases hl : l[i]? with
  | none => rw [hl] at hw; cases hw
  | some e =>
    rw [hl] at hw
    cases hw
    obtain ⟨k, n, a, ll, c, h1, _⟩ := EL.get l cs r i e hl
    exact ⟨k, n, a, ll, c, h1⟩
end Go.Proofs.Ytlenlhlipmkeeaa.W
end

section
/- SchemaNames: the walk. Conditions: none. -/
namespace Go.Proofs.Ytlenlhlipmkeeaa.W
open Go Go.AM SchM
set_option linter.unusedVariables false
set_option maxRecDepth 100000
def erOf {α : Type} : R α → Int
  | .ok _ _ => 0
  | .bad e _ => e
def atOf {α : Type} : R α → Nat
  | .ok _ _ => 0
  | .bad _ a => a
theorem PR.shape {h0 h' : AH} {r : R (W × List (W × Mdl))} {v : Value} (p : PR h0 h' r v) : ∃ root a l c, v = .tuple #[.agg #[.string (bs root), .slice a l c], .int .i64 (atOf r : Nat), .int .i64 (erOf r)] ∧ ∀ x q, r = .ok x q → root = x.1 := by
  cases r with
  | bad e a => exact ⟨[], none, 0, 0, p, fun x q h => by cases h⟩
  | ok x q =>
    obtain ⟨a, c, cs, rfl, _⟩ := p
    exact ⟨x.1, a, x.2.length, c, rfl, fun y q h => by cases h; rfl⟩
end Go.Proofs.Ytlenlhlipmkeeaa.W
end

section
/- Schema's laws: models made of numbers. Conditions: none. -/
namespace Go.Proofs.Ytlenlhlipmkeeaa.W
open Go Go.AM SchM
set_option linter.unusedVariables false
set_option maxRecDepth 100000
abbrev ptr (X : Nat) : Value := .pointer (some ⟨X, 0, none⟩)
structure MkH (hb h : AH) (X : Nat) (nm : List W) (ns : List Int) (v0 v1 : Value) (a : Nat) : Prop where
  row : h[X]? = some (.row [v0, v1, .int .i64 a] true)
  n0 : SlT 1 eS hb v0 nm
  n1 : Ints hb v1 ns
  x : Ex hb h
  X : hb.length ≤ X
theorem MkH.ex {hb h h' : AH} {X : Nat} {nm : List W} {ns : List Int} {v0 v1 : Value} {a : Nat} (m : MkH hb h X nm ns v0 v1 a) (x : Ex h h') : MkH hb h' X nm ns v0 v1 a := ⟨x.some m.row, m.n0, m.n1, m.x.trans x, m.X⟩
theorem MkH.lt {hb h : AH} {X : Nat} {nm : List W} {ns : List Int} {v0 v1 : Value} {a : Nat} (m : MkH hb h X nm ns v0 v1 a) : X < h.length := lt_of_get m.row
theorem MkH.setNew {hb h : AH} {X i : Nat} {nm : List W} {ns : List Int} {v0 v1 : Value} {a : Nat} (m : MkH hb h X nm ns v0 v1 a) (hi : X < i) (o : AObj) : MkH hb (h.set i o) X nm ns v0 v1 a :=
  ⟨(get_ne (by omega) _).trans m.row, m.n0, m.n1, m.x.set (by have := m.X; omega) _, m.X⟩
theorem nx30 {hb h : AH} {X : Nat} {nm : List W} {ns : List Int} {v0 v1 : Value} {a : Nat} {n : Int} {K : Value → AH → Prop} (m : MkH hb h X nm ns v0 v1 a) (ha : a ≤ 10000000) (hn : 0 < n ∧ n ≤ 1000000)
    (k : ∀ h', Chg (At X) h (At X) h' → h'.length = h.length → MkH hb h' X nm ns v0 v1 (nxA ns a) → K (.int .i64 (nx ns a n)) h') : callW Try.prog 30 [.pointer (some ⟨X, 0, none⟩), .int .i64 n] h K := by
  refine c30 ?_
  unfold s30
  have g := m.row
  have lt := m.lt
  refine w_nilc (w_offP (w_rdP g (v := .int .i64 a) rfl (w_nilc (w_offP (w_rdP g (v := v1) rfl (w_len (m.n1.ex m.x) (w_geq ?_)))))))
  refine c_dec (fun q => ?_) (fun q => ?_)
  · have e1 : nx ns a n = 0 := by unfold nx; rw [List.getElem?_eq_none (by omega)]
    have e2 : nxA ns a = a := by unfold nxA; rw [if_neg (by omega)]
    have := k h (Chg.refl _ _) rfl (by rw [e2]; exact m)
    rw [e1] at this
    exact this
  · refine w_nilc (w_offP (w_rdP g (v := .int .i64 a) rfl (w_add (by omega) (by omega) (w_nilc (w_offP (w_stP g (by show 0 + 2 < 3; decide) rfl rfl ?_))))))
    have g1 : (h.set X (.row ([v0, v1, .int .i64 a].set (0 + 2) (.int .i64 ((a : Int) + 1))) true))[X]? = some (.row [v0, v1, .int .i64 ((a : Int) + 1)] true) := get_set _ lt _
    have c1 : Chg (At X) h (At X) (h.set X (.row ([v0, v1, .int .i64 a].set (0 + 2) (.int .i64 ((a : Int) + 1))) true)) := ⟨by rw [List.length_set]; exact Nat.le_refl _, fun j _ hj => get_ne (fun e => hj e.symm) _, fun j hj => .inl hj⟩
    have l1 : (h.set X (.row ([v0, v1, .int .i64 a].set (0 + 2) (.int .i64 ((a : Int) + 1))) true)).length = h.length := List.length_set ..
    have x1 : Ex hb (h.set X (.row ([v0, v1, .int .i64 a].set (0 + 2) (.int .i64 ((a : Int) + 1))) true)) := m.x.set m.X _
    generalize h.set X _ = h1 at *
    refine w_nilc (w_offP (w_rdP g1 (v := v1) rfl (w_nilc (w_offP (w_rdP g1 (v := .int .i64 ((a : Int) + 1)) rfl (w_sub (by omega) (by omega) ?_))))))
    have ea : ((a : Int) + 1 - 1) = (a : Nat) := by omega
    rw [ea]
    obtain ⟨z, hz⟩ := getElem?_of_lt (l := ns) (i := a) (by omega)
    refine w_idxN (enc := eI) eI_len (m.n1.ex x1) hz fun pp hpp => w_rd1 hpp rfl ?_
    refine within15 _ _ _ _ hn.1 (by omega) ?_
    have e1 : nx ns a n = z % n := by unfold nx; rw [hz]
    have e2 : nxA ns a = a + 1 := by unfold nxA; rw [if_pos (by omega)]
    have := k h1 c1 l1 (by rw [e2]; exact ⟨g1, m.n0, m.n1, x1, m.X⟩)
    rw [e1] at this
    exact this
theorem MH.rowN {h : AH} {G : Nat → Prop} {k : Int} {l : List Mdl} {cs : List Value} {i cap : Nat} (hml : ML h G l cs) (gi : h[i]? = some (.row cs true)) (Gi : G i) (hc : cap < openCap ∧ l.length ≤ cap ∨ cap = openCap + 3) : MH h G (.mk k [] l) (.agg #[.int .i64 k, .string (bs []), .slice (some ⟨i, 0, none⟩) l.length cap]) := by
  have hl := ML.len l cs hml
  unfold MH
  refine ⟨some ⟨i, 0, none⟩, cap, cs, rfl, ⟨hl, .inr ⟨i, 0, cap, rfl, hc, .inr ⟨cs, true, gi, by omega, by rw [List.drop_zero, ← hl, List.take_length]⟩⟩⟩, fun j hj => by have : i = j := hj; rw [← this]; exact Gi, hml⟩
theorem bld32 (k1 k2 : Int) (n1 n2 : W) (a1 a2 : Option Addr) (l1 l2 c1 c2 : Nat) : bldSl 3 [(.int .i64 0), (.string (bs [])), (.slice none 0 0)] 2 [(0, .agg #[.int .i64 k1, .string (bs n1), .slice a1 l1 c1]), (1, .agg #[.int .i64 k2, .string (bs n2), .slice a2 l2 c2])] = some [.int .i64 k1, .string (bs n1), .slice a1 l1 c1, .int .i64 k2, .string (bs n2), .slice a2 l2 c2] := by kernel_rfl
set_option maxHeartbeats 1000000 in
theorem mk31 {hb : AH} {X : Nat} {nm : List W} {ns : List Int} {v0 v1 : Value} (hnm : 0 < nm.length ∧ nm.length ≤ 100) : ∀ (d : Nat) (h : AH) (a : Nat) (K : Value → AH → Prop), MkH hb h X nm ns v0 v1 a → a + 4 ^ (d + 1) ≤ 1000000 → d ≤ 100 →
    (∀ v h', Chg (At X) h (At X) h' → MkH hb h' X nm ns v0 v1 (gen nm ns d a).2 → MG h.length h' (At X) (gen nm ns d a).1 v → K v h') → callW Try.prog 31 [.pointer (some ⟨X, 0, none⟩), .int .i64 (d : Nat)] h K := by
  intro d
  induction d using Nat.strongRecOn with
  | ind d ih =>
  intro h a K m ha hd k
  refine c31 ?_
  unfold s31
  have p4 : 4 ≤ 4 ^ (d + 1) := by
    have := Nat.pow_le_pow_right (n := 4) (by decide) (show 1 ≤ d + 1 by omega)
    simpa using this
  refine n_rowv fun h1 x1 l1 g1 => ?_
  have ltX := m.lt
  have a0 := nxA_le ns a
  have k14 := nx_in ns a (show (0 : Int) < 14 by decide)
  refine nx30 (m.ex x1) (by omega) (by decide) fun h2 c2 l2 m2 => ?_
  obtain ⟨kk, hkk⟩ : ∃ kk : Int, kk = if d = 0 then nx ns a 14 % 6 else nx ns a 14 := ⟨_, rfl⟩
  have kk0 : 0 ≤ kk ∧ kk < 14 := by
    rw [hkk]
    split <;> omega
  have glow : kk < 6 → gen nm ns d a = leaf nm ns kk (nxA ns a) := by
    intro q
    cases d with
    | zero => rw [hkk, if_pos rfl]; rfl
    | succ d =>
      rw [if_neg (by omega)] at hkk
      rw [hkk] at q ⊢
      rw [gen, if_neg (by omega), if_neg (by omega)]
  have fin : ∀ (E : Env) (h' : AH) (v : Value) (m' : Mdl) (a' : Nat), E 4 = .pointer (some ⟨h.length, 0, none⟩) → Chg (At X) h1 (At X) h' → MkH hb h' X nm ns v0 v1 a' → MG h1.length h' (At X) m' v → gen nm ns d a = (m', a') →
      optW (pStore 3 (.pointer (some ⟨h.length, 0, none⟩)) v h') fun h'' => optW (resList Try.prog E h'' Try.f31.results.toList) fun vs => K (resOf vs) h'' := fun E h' v m' a' hE c mk mv hg => by
    have g' : h'[h.length]? = some (.row [(.int .i64 0), (.string (bs [])), (.slice none 0 0)] true) := (c.get _ (by omega) (fun e => by have : h.length = X := e; omega)).trans g1
    refine endM (n := 4) (by kernel_rfl) hE g' rfl mv.shape fun o => ?_
    refine k v _ (((Chg.ex x1).trans c).setNew (Nat.le_refl _) o) ?_ ?_
    · rw [hg]; exact mk.setNew ltX o
    · rw [hg]; exact (mv.setNew (fun hg => by have := hg.1; omega) o).low (by omega)
  have fin2 : ∀ (E : Env) (kd : Int) (w : W) (a' : Nat) (h' : AH), E 4 = .pointer (some ⟨h.length, 0, none⟩) → Chg (At X) h1 (At X) h' → MkH hb h' X nm ns v0 v1 a' → gen nm ns d a = (.mk kd w [], a') →
      optW (pStore 3 (.pointer (some ⟨h.length, 0, none⟩)) (.agg #[.int .i64 kd, .string (bs w), .slice none 0 0]) h') fun h'' => optW (resList Try.prog E h'' Try.f31.results.toList) fun vs => K (resOf vs) h'' := fun E kd w a' h' hE c mk hg => fin E h' _ _ a' hE c mk (MH.leaf _ _ kd w) hg
  refine joinE_intro (fun e h' => e 0 = .pointer (some ⟨X, 0, none⟩) ∧ e 1 = .int .i64 (d : Nat) ∧ e 4 = .pointer (some ⟨h.length, 0, none⟩) ∧ e 5 = .int .i64 kk ∧ h2 = h') ?_ ?_
  case refine_2 =>
    intro J hJ
    refine w_leq (c_dec (fun q => ?_) (fun q => ?_))
    · refine w_rem (by decide) k14.1 (hJ _ _ ⟨rfl, rfl, rfl, ?_, rfl⟩)
      rw [hkk, if_pos (by omega)]
      rfl
    · refine hJ _ _ ⟨rfl, rfl, rfl, ?_, rfl⟩
      rw [hkk, if_neg (by omega)]
      rfl
  rintro e h' ⟨e0, e1, e4, e5, rfl⟩
  refine joinE_intro (fun e h' => e 0 = .pointer (some ⟨X, 0, none⟩) ∧ e 4 = .pointer (some ⟨h.length, 0, none⟩) ∧ h2 = h' ∧ gen nm ns d a = (.mk 4 (nm.getD (nx ns (nxA ns a) nm.length).toNat []) [], nxA ns (nxA ns a))) ?_ ?_
  case refine_1 =>
    rintro e h' ⟨e0, e4, rfl, hg⟩
    rw [e0, e4]
    have n0 := m2.n0.ex m2.x
    refine w_nilc (w_offP (w_rdP m2.row (v := v0) rfl (w_nilc (w_offP (w_rdP m2.row (v := v0) rfl (w_len n0 ?_))))))
    refine nx30 m2 (by omega) (by omega) fun h5 c5 l5 m5 => ?_
    refine ⟨idcell m2.row m5.row rfl rfl, ?_⟩
    have ni := nx_in ns (nxA ns a) (show (0 : Int) < (nm.length : Nat) by omega)
    obtain ⟨w, hw⟩ := getElem?_of_lt (l := nm) (i := (nx ns (nxA ns a) nm.length).toNat) (by omega)
    have hwd : nm.getD (nx ns (nxA ns a) nm.length).toNat [] = w := by rw [List.getD_eq_getElem?_getD, hw]; rfl
    rw [hwd] at hg
    refine w_idxT (enc := eS) eS_len (m2.n0.ex m5.x) ni.1 hw fun pp hpp => w_rd1 hpp rfl ?_
    refine w_some (v := .agg #[.int .i64 4, .string (bs w), .slice none 0 0]) rfl ?_
    exact fin2 _ 4 w _ h5 e4 (c2.trans c5) m5 hg
  intro J1 hJ1
  rw [e5]
  refine w_eql (c_dec (fun q0 => ?_) (fun q0 => ?_))
  · refine w_some (v := .agg #[.int .i64 1, .string (bs []), .slice none 0 0]) rfl ?_
    rw [e4]
    refine fin2 _ 1 [] _ h2 e4 c2 m2 ?_
    rw [glow (by omega), q0]
    rfl
  refine w_eql (c_dec (fun q1 => ?_) (fun q1 => ?_))
  · refine w_some (v := .agg #[.int .i64 2, .string (bs []), .slice none 0 0]) rfl ?_
    rw [e4]
    refine fin2 _ 2 [] _ h2 e4 c2 m2 ?_
    rw [glow (by omega), q1]
    rfl
  refine w_eql (c_dec (fun q2 => ?_) (fun q2 => ?_))
  · refine w_some (v := .agg #[.int .i64 3, .string (bs []), .slice none 0 0]) rfl ?_
    rw [e4]
    refine fin2 _ 3 [] _ h2 e4 c2 m2 ?_
    rw [glow (by omega), q2]
    rfl
  refine joinE_intro (fun e h' => e 0 = .pointer (some ⟨X, 0, none⟩) ∧ e 1 = .int .i64 (d : Nat) ∧ e 4 = .pointer (some ⟨h.length, 0, none⟩) ∧ e 5 = .int .i64 kk ∧ e 13 = .int .i64 kk ∧ e 23 = .bool (decide (6 ≤ kk ∧ kk ≤ 10)) ∧ h2 = h') ?_ ?_
  case refine_2 =>
    intro J hJ
    refine w_eql (c_dec (fun q6 => hJ _ _ ⟨e0, e1, e4, e5, rfl, congrArg Value.bool (decide_eq_decide.2 ⟨fun _ => by omega, fun _ => by omega⟩), rfl⟩) (fun q6 => ?_))
    refine w_eql (c_dec (fun q7 => hJ _ _ ⟨e0, e1, e4, e5, rfl, congrArg Value.bool (decide_eq_decide.2 ⟨fun _ => by omega, fun _ => by omega⟩), rfl⟩) (fun q7 => ?_))
    refine w_eql (c_dec (fun q8 => hJ _ _ ⟨e0, e1, e4, e5, rfl, congrArg Value.bool (decide_eq_decide.2 ⟨fun _ => by omega, fun _ => by omega⟩), rfl⟩) (fun q8 => ?_))
    refine w_eql (c_dec (fun q9 => hJ _ _ ⟨e0, e1, e4, e5, rfl, congrArg Value.bool (decide_eq_decide.2 ⟨fun _ => by omega, fun _ => by omega⟩), rfl⟩) (fun q9 => ?_))
    exact w_eql (hJ _ _ ⟨e0, e1, e4, e5, rfl, congrArg Value.bool (decide_eq_decide.2 ⟨fun _ => by omega, fun _ => by omega⟩), rfl⟩)
  clear e0 e1 e4 e5 e
  rintro e h' ⟨e0, e1, e4, e5, e13, e23, rfl⟩
  rw [e23]
  have dd : 6 ≤ kk → ∃ d', d = d' + 1 := by
    intro q
    cases d with
    | zero => rw [hkk, if_pos rfl] at q; omega
    | succ d => exact ⟨d, rfl⟩
  refine c_dec (fun q => ?_) (fun q => ?_)
  · obtain ⟨d, rfl⟩ := dd q.1
    rw [if_neg (by omega)] at hkk
    have pw : 4 ^ (d + 1 + 1) = 4 * 4 ^ (d + 1) := by rw [Nat.pow_succ]; omega
    have p5 : 4 ≤ 4 ^ (d + 1) := by
      have := Nat.pow_le_pow_right (n := 4) (by decide) (show 1 ≤ d + 1 by omega)
      simpa using this
    have ed : ((d + 1 : Nat) : Int) - 1 = (d : Nat) := by omega
    have s1 := gen_le nm ns d (nxA ns a)
    have s2 := gen_le nm ns d (gen nm ns d (nxA ns a)).2
    have s3 := nxA_le ns (gen nm ns d (gen nm ns d (nxA ns a)).2).2
    rw [e0, e1, e4, e5]
    refine w_sub (by omega) (by omega) ?_
    rw [ed]
    refine ih d (by omega) _ _ _ m2 (by omega) (by omega) fun v32 h11 c11 m11 g11 => ?_
    refine w_sub (by omega) (by omega) ?_
    rw [ed]
    refine ih d (by omega) _ _ _ m11 (by omega) (by omega) fun v36 h12 c12 m12 g12 => ?_
    have hgen : gen nm ns (d + 1) a = if nx ns (gen nm ns d (gen nm ns d (nxA ns a)).2).2 3 = 0 then
        (.mk (5 + kk % 2) [] [(gen nm ns d (nxA ns a)).1, (gen nm ns d (gen nm ns d (nxA ns a)).2).1, (gen nm ns d (nxA ns (gen nm ns d (gen nm ns d (nxA ns a)).2).2)).1],
          (gen nm ns d (nxA ns (gen nm ns d (gen nm ns d (nxA ns a)).2).2)).2)
      else (.mk (5 + kk % 2) [] [(gen nm ns d (nxA ns a)).1, (gen nm ns d (gen nm ns d (nxA ns a)).2).1], nxA ns (gen nm ns d (gen nm ns d (nxA ns a)).2).2) := by
      rw [hkk] at q ⊢
      rw [gen, if_pos q]
    generalize gen nm ns d (nxA ns a) = A1 at *
    generalize gen nm ns d A1.2 = A2 at *
    obtain ⟨k1, n1, a1, l1', c1, rfl⟩ := g11.shape
    obtain ⟨k2, n2, a2, l2', c2', rfl⟩ := g12.shape
    refine w_some (bld32 k1 k2 n1 n2 a1 a2 l1' l2' c1 c2') ?_
    refine n_newv fun h13 x13 l13 g13 => ?_
    refine nx30 (m12.ex x13) (by omega) (by decide) fun h14 c14 l14 m14 => ?_
    have cA := ((c2.trans c11).trans c12).trans ((Chg.ex x13).trans c14)
    have lA := c2.len
    have lB := c11.len
    have lC := c12.len
    have G1 : MG h1.length h14 (At X) A1.1 _ := (((g11.chg c12).ex x13).chg c14).low (by omega)
    have G2 : MG h1.length h14 (At X) A2.1 _ := ((g12.ex x13).chg c14).low (by omega)
    have g14 := (c14.get h12.length (by omega) (fun e => by have : h12.length = X := e; omega)).trans g13
    refine w_eql (c_dec (fun q3 => ?_) (fun q3 => ?_))
    · rw [if_pos q3] at hgen
      have s4 := gen_le nm ns d (nxA ns A2.2)
      refine w_sub (by omega) (by omega) ?_
      rw [ed]
      refine ih d (by omega) _ _ _ m14 (by omega) (by omega) fun v45 h15 c15 m15 g15 => ?_
      generalize gen nm ns d (nxA ns A2.2) = A3 at *
      obtain ⟨k3, n3, a3, l3', c3', rfl⟩ := g15.shape
      refine w_some (bldSl_one (v := .agg #[.int .i64 k3, .string (bs n3), .slice a3 l3' c3']) rfl (by decide) rfl rfl) ?_
      refine n_newv fun h16 x16 l16 g16 => ?_
      have lD := c15.len
      have g15' := x16.some ((c15.get h12.length (by omega) (fun e => by have : h12.length = X := e; omega)).trans g14)
      refine app_lit (n := 2) g15' rfl (by decide) (by decide) g16 rfl ?_
      refine w_rem (by decide) kk0.1 (w_add (by omega) (by omega) ?_)
      refine w_some (v := .agg #[.int .i64 (5 + kk % 2), .string (bs []), .slice (some ⟨h16.length, 0, none⟩) (2 + 1) (openCap + 3)]) rfl ?_
      refine fin _ _ _ _ _ e4 (cA.trans (c15.trans ((Chg.ex x16).trans (Chg.ex (.app _ _))))) ((m15.ex x16).ex (.app _ _)) ?_ hgen
      refine MH.rowN (l := [A1.1, A2.1, A3.1]) ?_ (get_new _ _) ⟨by omega, by simp, fun e => by have : h16.length = X := e; omega⟩ (.inr rfl)
      have G1' := ((G1.chg c15).ex x16).ex (.app _ [AObj.row ([.int .i64 k1, .string (bs n1), .slice a1 l1' c1, .int .i64 k2, .string (bs n2), .slice a2 l2' c2'] ++ [.int .i64 k3, .string (bs n3), .slice a3 l3' c3']) true])
      have G2' := ((G2.chg c15).ex x16).ex (.app _ [AObj.row ([.int .i64 k1, .string (bs n1), .slice a1 l1' c1, .int .i64 k2, .string (bs n2), .slice a2 l2' c2'] ++ [.int .i64 k3, .string (bs n3), .slice a3 l3' c3']) true])
      have G3' := ((g15.low (b := h1.length) (by omega)).ex x16).ex (.app _ [AObj.row ([.int .i64 k1, .string (bs n1), .slice a1 l1' c1, .int .i64 k2, .string (bs n2), .slice a2 l2' c2'] ++ [.int .i64 k3, .string (bs n3), .slice a3 l3' c3']) true])
      unfold ML
      refine ⟨_, _, _, _, rfl, G1', ?_⟩
      unfold ML
      refine ⟨_, _, _, _, rfl, G2', ?_⟩
      unfold ML
      refine ⟨_, _, _, _, rfl, G3', ?_⟩
      unfold ML
      rfl
    · rw [if_neg q3] at hgen
      refine w_rem (by decide) kk0.1 (w_add (by omega) (by omega) ?_)
      refine w_some (v := .agg #[.int .i64 (5 + kk % 2), .string (bs []), .slice (some ⟨h12.length, 0, none⟩) 2 2]) rfl ?_
      refine fin _ _ _ _ _ e4 cA m14 ?_ hgen
      refine MH.rowN (l := [A1.1, A2.1]) ?_ g14 ⟨by omega, by omega, fun e => by have : h12.length = X := e; omega⟩ (.inl ⟨by decide, Nat.le_refl _⟩)
      unfold ML
      refine ⟨_, _, _, _, rfl, G1, ?_⟩
      unfold ML
      refine ⟨_, _, _, _, rfl, G2, ?_⟩
      unfold ML
      rfl
  · have rp : ∀ (E : Value → Value → Value → Value → Nat → Value → Env), (∀ a b c d e f, E a b c d e f 4 = .pointer (some ⟨h.length, 0, none⟩)) → 11 ≤ kk →
        callW Try.prog 30 [.pointer (some ⟨X, 0, none⟩), (.int .i64 3)] h2 fun v58 h_20 =>
        optW (pBin Try.prog .add 3 (.int .i64 7) v58) fun v59 =>
        optW (pBin Try.prog .sub 3 (.int .i64 (d : Nat)) (.int .i64 1)) fun v62 =>
        callW Try.prog 31 [.pointer (some ⟨X, 0, none⟩), v62] h_20 fun v63 h_21 =>
        optW (bldSl 3 [(.int .i64 0), (.string (bs [])), (.slice none 0 0)] 1 [(0, v63)]) fun c_2 =>
        newW none (.row c_2 true) h_21 fun i_2 h_22 =>
        optW (bld [(.int .i64 0), (.string (bs [])), (.slice none 0 0)] [(0, 1), (1, 1), (2, 1)] [(0, v59), (2, (.slice (some ⟨i_2, 0, none⟩) 1 1))]) fun v65 =>
        optW (pStore 3 (.pointer (some ⟨h.length, 0, none⟩)) v65 h_22) fun h_23 =>
        optW (resList Try.prog (E v58 v59 v62 v63 i_2 v65) h_23 Try.f31.results.toList) fun vs => K (resOf vs) h_23 := by
      intro E hE q
      obtain ⟨d, rfl⟩ := dd (by omega)
      rw [if_neg (by omega)] at hkk
      have pw : 4 ^ (d + 1 + 1) = 4 * 4 ^ (d + 1) := by rw [Nat.pow_succ]; omega
      have p5 : 4 ≤ 4 ^ (d + 1) := by
        have := Nat.pow_le_pow_right (n := 4) (by decide) (show 1 ≤ d + 1 by omega)
        simpa using this
      have ed : ((d + 1 : Nat) : Int) - 1 = (d : Nat) := by omega
      have n3 := nx_in ns (nxA ns a) (show (0 : Int) < 3 by decide)
      have a1 := nxA_le ns (nxA ns a)
      refine nx30 m2 (by omega) (by decide) fun h20 c20 l20 m20 => ?_
      refine w_add (by omega) (by omega) (w_sub (by omega) (by omega) ?_)
      rw [ed]
      refine ih d (by omega) _ _ _ m20 (by omega) (by omega) fun v63 h21 c21 m21 g21 => ?_
      have hgen : gen nm ns (d + 1) a = (.mk (7 + nx ns (nxA ns a) 3) [] [(gen nm ns d (nxA ns (nxA ns a))).1], (gen nm ns d (nxA ns (nxA ns a))).2) := by
        rw [hkk] at q
        rw [gen, if_neg (by omega), if_pos q]
      generalize gen nm ns d (nxA ns (nxA ns a)) = A1 at *
      obtain ⟨k1, n1, a1', l1', c1, rfl⟩ := g21.shape
      refine w_some (bldSl_one (v := .agg #[.int .i64 k1, .string (bs n1), .slice a1' l1' c1]) rfl (by decide) rfl rfl) ?_
      refine n_newv fun h22 x22 l22 g22 => ?_
      refine w_some (v := .agg #[.int .i64 (7 + nx ns (nxA ns a) 3), .string (bs []), .slice (some ⟨h21.length, 0, none⟩) 1 1]) rfl ?_
      have lA := c2.len
      have lB := c20.len
      have lC := c21.len
      refine fin _ _ _ _ _ (hE _ _ _ _ _ _) (c2.trans (c20.trans (c21.trans (Chg.ex x22)))) (m21.ex x22) ?_ hgen
      exact MH.one ((g21.ex x22).low (by omega)) g22 ⟨by omega, by omega, fun e => by have : h21.length = X := e; omega⟩
    rw [e0, e1, e4, e13]
    refine w_eql (c_dec (fun r1 => c_tt r1 (rp _ (fun _ _ _ _ _ _ => e4) (by omega))) (fun r1 => ?_))
    refine w_eql (c_dec (fun r2 => c_tt r2 (rp _ (fun _ _ _ _ _ _ => e4) (by omega))) (fun r2 => ?_))
    refine w_eql (c_dec (fun r3 => rp _ (fun _ _ _ _ _ _ => e4) (by omega)) (fun r3 => ?_))
    refine hJ1 _ _ ⟨e0, e4, rfl, ?_⟩
    rw [glow (by omega)]
    unfold leaf
    rw [if_neg q0, if_neg q1, if_neg q2]
end Go.Proofs.Ytlenlhlipmkeeaa.W
end

section
/- Schema's laws: Make: a schema of numbers. Conditions: none. -/
namespace Go.Proofs.Ytlenlhlipmkeeaa.W
open Go Go.AM SchM
set_option linter.unusedVariables false
set_option maxRecDepth 100000
def SH (h : AH) (b : Nat) (x : W × List (W × Mdl)) (v : Value) : Prop :=
  ∃ a c cs, v = .agg #[.string (bs x.1), .slice a x.2.length c] ∧ Sl 4 h (.slice a x.2.length c) x.2.length cs ∧ (∀ j, onId (.slice a x.2.length c) j → b ≤ j ∧ j < h.length) ∧ EL h (fun j => b ≤ j ∧ j < h.length) x.2 cs
theorem SH.ex {h h' : AH} {b : Nat} {x : W × List (W × Mdl)} {v : Value} (s : SH h b x v) (e : Ex h h') : SH h' b x v := by
  obtain ⟨a, c, cs, ev, sl, on, el⟩ := s
  exact ⟨a, c, cs, ev, sl.ex e, fun j hj => ⟨(on j hj).1, e.lt (on j hj).2⟩, EL.mono (fun j hj => ⟨e.get j hj.2, hj.1, e.lt hj.2⟩) _ _ el⟩
theorem bld5 : bldSl 1 [(.string (bs []))] 5 [(0, (.string (bs [97]))), (1, (.string (bs [98, 98]))), (2, (.string (bs [99]))), (3, (.string (bs [122, 122, 122, 122, 122, 122, 122, 122]))), (4, (.string (bs [116, 101, 120, 116, 115])))] = some (flat eS five) := by kernel_rfl
theorem optW_so {α : Type} {v : α} {K : α → Prop} : optW (some v) K = K v := rfl
theorem strsAt {h : AH} {l : List W} {n i : Nat} (hg : h[i]? = some (.row (flat eS l) true)) (hn : n = l.length) (hl : l.length < 100) : SlT 1 eS h (.slice (some ⟨i, 0, none⟩) n n) l := by
  subst hn
  refine ⟨flat_length eS_len l, .inr ⟨i, 0, _, rfl, .inl ⟨?_, Nat.le_refl _⟩, .inr ⟨_, true, hg, ?_, ?_⟩⟩⟩
  · have : (100 : Nat) < openCap := by decide
    omega
  · rw [flat_length eS_len]; omega
  · rw [List.drop_zero, ← flat_length eS_len l, List.take_length]
theorem res14 (e : Env) (h : AH) : resList Try.prog e h Try.f14.results.toList = (rdRow true 2 (e 6) h).map fun v => [v] := by
  have h1 : Try.f14.results.toList = [.cell 6 27] := by kernel_rfl
  have h2 : ∀ x, pLoad Try.prog 27 x h = rdRow true 2 x h := fun x => by kernel_rfl
  rw [h1]
  show (match pLoad Try.prog 27 (e 6) h with
    | some v => match resList Try.prog e h [] with
      | some vs => some (v :: vs)
      | none => none
    | none => none) = _
  rw [h2]
  cases rdRow true 2 (e 6) h <;> rfl
set_option maxHeartbeats 1000000 in
theorem make14 {h : AH} {v1 : Value} {ns : List Int} {size : Int} {d : Nat} {K : Value → AH → Prop} (hns : Ints h v1 ns) (hd : d ≤ 6) (k : ∀ v h', Ex h h' → SH h' h.length (make size ns d) v → K v h') : callW Try.prog 14 [.int .i64 size, v1, .int .i64 (d : Nat)] h K := by
  refine c14 ?_
  unfold s14
  have z0 := Int.emod_nonneg size (show (5 : Int) ≠ 0 by decide)
  have z1 := Int.emod_lt_of_pos size (show (0 : Int) < 5 by decide)
  have nl := namesOf_len size
  refine n_rowv fun h1 x1 l1 g1 => ?_
  rw [bld5, optW_so]
  refine n_newv fun h2 x2 l2 g2 => ?_
  refine within15 _ _ _ _ (by decide) (by decide) ?_
  refine w_add (by omega) (by omega) ?_
  have ej : (1 : Int) + size % 5 = ((1 + (size % 5).toNat : Nat) : Int) := by omega
  rw [ej]
  refine w_sliceT (enc := eS) eS_len (i := 0) (j := 1 + (size % 5).toNat) (strsAt g2 rfl (by decide)) (by omega) (by show _ ≤ 5; omega) (.inl ⟨rfl, rfl⟩) (.inr ⟨_, rfl⟩) fun v14 s14 on14 => ?_
  have enm : (five.drop 0).take (1 + (size % 5).toNat - 0) = namesOf size := by rw [List.drop_zero, Nat.sub_zero]; rfl
  rw [enm] at s14
  have hns2 := hns.ex (x1.trans x2)
  obtain ⟨a14, n14, c14, rfl⟩ := s14.isSl
  obtain ⟨a1, n1, c1, rfl⟩ := hns2.isSl
  refine w_some (v := .agg #[.slice a14 n14 c14, .slice a1 n1 c1, .int .i64 0]) rfl ?_
  refine n_boxv rfl fun h4 x4 l4 g4 => ?_
  have g4' : h4[h2.length]? = some (.row [.slice a14 n14 c14, .slice a1 n1 c1, .int .i64 ((0 : Nat) : Int)] true) := g4
  obtain ⟨nm, hnm⟩ : ∃ nm, nm = namesOf size := ⟨_, rfl⟩
  rw [← hnm] at s14 nl
  have hnl : 0 < nm.length ∧ nm.length ≤ 100 := by omega
  have m4 : MkH h2 h4 h2.length nm ns (.slice a14 n14 c14) (.slice a1 n1 c1) 0 := ⟨g4', s14, hns2, x4, Nat.le_refl _⟩
  have xr := Ex.res h4
  have mr := m4.ex xr
  have ni := nx_in ns 0 (show (0 : Int) < (nm.length : Nat) by omega)
  refine w_nilc (w_offP (w_rdP mr.row (v := .slice a14 n14 c14) rfl (w_nilc (w_offP (w_rdP mr.row (v := .slice a14 n14 c14) rfl (w_len (s14.ex mr.x) ?_))))))
  refine nx30 mr (by omega) (by omega) fun h5 c5 l5 m5 => ?_
  refine ⟨idcell mr.row m5.row rfl rfl, ?_⟩
  obtain ⟨root, hro⟩ := getElem?_of_lt (l := nm) (i := (nx ns 0 nm.length).toNat) (by omega)
  refine w_idxT (enc := eS) eS_len (s14.ex m5.x) ni.1 hro fun pp hpp => w_rd1 hpp rfl ?_
  refine w_some (v := .agg #[.string (bs root), .slice none 0 0]) rfl ?_
  refine n_slot ?_
  have lr : (reserve 1 h4).length = h4.length + 1 := by rw [reserve_one]; simp
  have l5' : h5.length = h4.length + 1 := by rw [l5, lr]
  have m6 := m5.setNew (i := h4.length) (by omega) (.row [(.string (bs [])), (.slice none 0 0)] true)
  have g6 : (h5.set h4.length (.row [(.string (bs [])), (.slice none 0 0)] true))[h4.length]? = some (.row [(.string (bs [])), (.slice none 0 0)] true) := get_set _ (by omega) _
  have T6 : (h5.set h4.length (.row [(.string (bs [])), (.slice none 0 0)] true))[h.length]? = some (.row zS true) := by
    rw [get_ne (by omega)]
    exact (c5.get _ (by omega) (fun e => by have : h.length = h2.length := e; omega)).trans ((x2.trans (x4.trans xr)).some g1)
  have x6 : Ex h (h5.set h4.length (.row [(.string (bs [])), (.slice none 0 0)] true)) := (c5.toEx (x1.trans (x2.trans (x4.trans xr))) fun j hj => by have : j = h2.length := hj; omega).set (by omega) _
  have l6 : (h5.set h4.length (.row [(.string (bs [])), (.slice none 0 0)] true)).length = h4.length + 1 := by rw [List.length_set, l5']
  generalize h5.set h4.length (.row [(.string (bs [])), (.slice none 0 0)] true) = h6 at *
  refine w_stPA g6 rfl (Nat.le_refl 2) rfl ?_
  have g7 : (h6.set h4.length (.row (spliceL [(.string (bs [])), (.slice none 0 0)] 0 (cellsL (.agg #[.string (bs root), .slice none 0 0]))) true))[h4.length]? = some (.row [.string (bs root), .slice none 0 0] true) := get_set _ (lt_of_get g6) _
  have m7 := m6.setNew (i := h4.length) (by omega) (.row (spliceL [(.string (bs [])), (.slice none 0 0)] 0 (cellsL (.agg #[.string (bs root), .slice none 0 0]))) true)
  have T7 := (get_ne (h := h6) (i := h4.length) (j := h.length) (by omega) (.row (spliceL [(.string (bs [])), (.slice none 0 0)] 0 (cellsL (.agg #[.string (bs root), .slice none 0 0]))) true)).trans T6
  have x7 := x6.set (i := h4.length) (by omega) (.row (spliceL [(.string (bs [])), (.slice none 0 0)] 0 (cellsL (.agg #[.string (bs root), .slice none 0 0]))) true)
  have l7 : (h6.set h4.length (.row (spliceL [(.string (bs [])), (.slice none 0 0)] 0 (cellsL (.agg #[.string (bs root), .slice none 0 0]))) true)).length = h4.length + 1 := by rw [List.length_set, l6]
  generalize h6.set h4.length (.row (spliceL [(.string (bs [])), (.slice none 0 0)] 0 (cellsL (.agg #[.string (bs root), .slice none 0 0]))) true) = h7 at *
  clear g6 m6 T6 x6 l6 h6
  have hmake : make size ns d = (root, (genS nm ns d (nxA ns 0) nm.length).1) := by
    unfold make
    rw [← hnm, List.getD_eq_getElem?_getD, hro]
    rfl
  generalize ha0 : nxA ns 0 = a0 at *
  have ha0' : a0 ≤ 1 := by rw [← ha0]; exact (nxA_le ns 0).2
  have pw : 4 ^ (d + 1) ≤ 16384 := Nat.le_trans (Nat.pow_le_pow_right (by decide) (show d + 1 ≤ 7 by omega)) (by decide)
  have hLE : LE h7.length h7 (At h2.length) (.slice none 0 0) (genS nm ns d a0 0).1 := ⟨⟨[], OwnG.nil _ _ _, rfl⟩⟩
  have m7' : MkH h2 h7 h2.length nm ns (.slice a14 n14 c14) (.slice a1 n1 c1) (genS nm ns d a0 0).2 := m7
  refine loopE_intro (fun m e h' => ∃ (i : Nat) (vl : Value), i ≤ nm.length ∧ m = nm.length - i ∧ e 2 = .int .i64 (d : Nat) ∧ e 6 = .pointer (some ⟨h.length, 0, none⟩) ∧ e 7 = .pointer (some ⟨h2.length, 0, none⟩) ∧ e 8 = .pointer (some ⟨h4.length, 0, none⟩) ∧ e 9 = .int .i64 (i : Nat) ∧
      MkH h2 h' h2.length nm ns (.slice a14 n14 c14) (.slice a1 n1 c1) (genS nm ns d a0 i).2 ∧ h'[h.length]? = some (.row zS true) ∧ h'[h4.length]? = some (.row [.string (bs root), vl] true) ∧ LE h7.length h' (At h2.length) vl (genS nm ns d a0 i).1 ∧ Ex h h' ∧ h7.length ≤ h'.length) nm.length
    ⟨0, _, Nat.zero_le _, rfl, rfl, rfl, rfl, rfl, rfl, m7', T7, g7, hLE, x7, Nat.le_refl _⟩ ?_
  rintro I m e0 h' ⟨i, vl, hi, hm, e2, e6, e7, e8, e9, mk, T, g, L, x, hl⟩ ih
  rw [e2, e6, e7, e8, e9]
  refine w_nilc (w_offP (w_rdP mk.row (v := .slice a14 n14 c14) rfl (w_len (s14.ex mk.x) (w_lss ?_))))
  refine c_dec (fun q => ?_) (fun q => ?_)
  · obtain ⟨w, hw⟩ := getElem?_of_lt (l := nm) (i := i) (by omega)
    have xr := Ex.res h'
    have mr := mk.ex xr
    refine w_offP (w_rdP (xr.some g) (v := vl) rfl (w_nilc (w_offP (w_rdP mr.row (v := .slice a14 n14 c14) rfl ?_))))
    refine w_idxN (enc := eS) eS_len s14 hw fun pp hpp => w_rd1 (hpp.ex mr.x) rfl ?_
    have hle := genS_le nm ns d a0 i
    have hmul : i * 4 ^ (d + 1) ≤ 10 * 16384 := Nat.mul_le_mul (by omega) pw
    refine mk31 hnl d _ _ _ mr (by omega) (by omega) fun v52 h9 c9 m9 g9 => ?_
    have lS := lt_of_get g
    refine ⟨PtrTo.ids hpp mr.x m9.x, idcell mr.row m9.row rfl rfl, ptr_id (c9.get _ (xr.lt lS) (fun e => by have : h4.length = h2.length := e; omega)), ?_⟩
    obtain ⟨k', n', a', ll, cc, rfl⟩ := g9.shape
    refine w_some (v := .agg #[.string (bs w), .int .i64 k', .string (bs n'), .slice a' ll cc]) rfl ?_
    refine w_some (bldSl_one (v := .agg #[.string (bs w), .int .i64 k', .string (bs n'), .slice a' ll cc]) rfl (by decide) rfl rfl) ?_
    refine n_slot ?_
    have lr : (reserve 1 h').length = h'.length + 1 := by rw [reserve_one]; simp
    have l9 := c9.len
    have ltX := mk.lt
    have c10 := ((Chg.ex (F := At h2.length) xr).trans c9).setNew (i := h'.length) (Nat.le_refl _) (.row [.string (bs w), .int .i64 k', .string (bs n'), .slice a' ll cc] true)
    have m10 := m9.setNew (i := h'.length) (by omega) (.row [.string (bs w), .int .i64 k', .string (bs n'), .slice a' ll cc] true)
    have G10 := g9.setNew (i := h'.length) (fun hg => by have := hg.1; omega) (.row [.string (bs w), .int .i64 k', .string (bs n'), .slice a' ll cc] true)
    have g10 : (h9.set h'.length (.row [.string (bs w), .int .i64 k', .string (bs n'), .slice a' ll cc] true))[h'.length]? = some (.row [.string (bs w), .int .i64 k', .string (bs n'), .slice a' ll cc] true) := get_set _ (by omega) _
    have l10 : (h9.set h'.length (.row [.string (bs w), .int .i64 k', .string (bs n'), .slice a' ll cc] true)).length = h9.length := List.length_set ..
    show appSl 4 vl _ (h9.set h'.length (.row [.string (bs w), .int .i64 k', .string (bs n'), .slice a' ll cc] true)) _
    generalize h9.set h'.length (.row [.string (bs w), .int .i64 k', .string (bs n'), .slice a' ll cc] true) = h10 at *
    obtain ⟨cs, o10, el10⟩ := (L.chg c10).ex
    have lvl : ∀ j, onId vl j → h7.length ≤ j ∧ j < h'.length := fun j hj => ⟨(L.on hj).1, (L.on hj).2.1⟩
    have len1 := genS_len nm ns d a0 i
    refine appSl_of ?_
    refine app_g (by decide) o10 (srcL_new (n := 1) (s := 4) g10 (by decide) rfl) rfl (by have := bigR3; omega) fun v' h15 a1 a2 a3 a4 => ?_
    have nS : ¬ onId vl h4.length := fun hon => by have := lvl _ hon; omega
    have gS10 : h10[h4.length]? = some (.row [.string (bs root), vl] true) := (c10.get _ lS (fun e => by have : h4.length = h2.length := e; omega)).trans g
    have gS := (a3 _ (lt_of_get gS10) nS).trans gS10
    obtain ⟨sa, sn, sc, rfl⟩ := Sl.isSl a1.sl
    refine w_offP (w_stP gS (by show 0 + 1 < 2; decide) rfl rfl ?_)
    have l16 : (h15.set h4.length (.row ([Value.string (bs root), vl].set (0 + 1) (.slice sa sn sc)) true)).length = h15.length := List.length_set ..
    have n16 : ∀ j, j ≠ h4.length → (h15.set h4.length (.row ([Value.string (bs root), vl].set (0 + 1) (.slice sa sn sc)) true))[j]? = h15[j]? := fun j hj => get_ne (Ne.symm hj) _
    have g16 : (h15.set h4.length (.row ([Value.string (bs root), vl].set (0 + 1) (.slice sa sn sc)) true))[h4.length]? = some (.row [.string (bs root), .slice sa sn sc] true) := get_set _ (lt_of_get gS) _
    generalize h15.set h4.length (.row ([Value.string (bs root), vl].set (0 + 1) (.slice sa sn sc)) true) = h16 at *
    have same : ∀ j, j < h10.length → ¬ onId vl j → j ≠ h4.length → h16[j]? = h10[j]? := fun j hj hn hS => (n16 j hS).trans (a3 j hj hn)
    refine w_add (by omega) (by omega) ?_
    have c10l := c10.len
    have hwd : nm.getD i [] = w := by rw [List.getD_eq_getElem?_getD, hw]; rfl
    have eG : genS nm ns d a0 (i + 1) = ((genS nm ns d a0 i).1 ++ [(w, (gen nm ns d (genS nm ns d a0 i).2).1)], (gen nm ns d (genS nm ns d a0 i).2).2) := by
      show ((genS nm ns d a0 i).1 ++ [(nm.getD i [], _)], _) = _
      rw [hwd]
    have up : ∀ j, Gd h7.length h10 (At h2.length) j ∧ ¬ onId vl j → h16[j]? = h10[j]? ∧ Gd h7.length h16 (At h2.length) j ∧ ¬ onId (.slice sa sn sc) j := fun j hj => ⟨same j hj.1.2.1 hj.2 (fun e => by have := hj.1.1; omega), ⟨hj.1.1, by have := hj.1.2.1; omega, hj.1.2.2⟩, fun hon => (a4 j hon).elim hj.2 fun e => by have := hj.1.2.1; omega⟩
    refine ih (nm.length - (i + 1)) _ _ (by omega) ⟨i + 1, .slice sa sn sc, by omega, rfl, e2, e6, e7, e8, rfl, ?_, ?_, g16, ?_, ?_, by omega⟩
    · rw [eG]
      refine ⟨(same _ (by omega) (fun hon => by have := lvl _ hon; omega) (by omega)).trans m10.row, m10.n0, m10.n1, ⟨by have := m10.x.len; omega, fun j hj => ?_⟩, Nat.le_refl _⟩
      exact (same j (by omega) (fun hon => by have := lvl _ hon; omega) (by omega)).trans (m10.x.get j hj)
    · exact (same _ (by omega) (fun hon => by have := lvl _ hon; omega) (by omega)).trans ((c10.get _ (lt_of_get T) (fun e => by have : h.length = h2.length := e; omega)).trans T)
    · rw [eG]
      refine ⟨⟨cs ++ [.string (bs w), .int .i64 k', .string (bs n'), .slice a' ll cc], ?_, ?_⟩⟩
      · have elm : ((genS nm ns d a0 i).1 ++ [(w, (gen nm ns d (genS nm ns d a0 i).2).1)]).length = (genS nm ns d a0 i).1.length + 1 := by simp
        show OwnG 4 _ h16 (.slice sa sn sc) ((genS nm ns d a0 i).1 ++ [(w, (gen nm ns d (genS nm ns d a0 i).2).1)]).length _
        rw [elm]
        refine a1.mono (fun j hj hF => ?_) fun j hj hF => ?_
        · have hj' := (a1.on hj).2
          rcases hF with hF | rfl
          · exact ⟨hF.1, by omega, hF.2.2⟩
          · exact ⟨by omega, by omega, fun e => by have : h10.length = h2.length := e; omega⟩
        · refine n16 j fun e => ?_
          rcases hF with hF | rfl
          · have := hF.1; omega
          · omega
      · refine EL.snoc (e := (w, _)) (MH.mono (fun j gj => up j ⟨⟨?_, gj.2⟩, fun hon => ?_⟩) _ _ G10) _ cs (EL.mono up _ cs el10)
        · have := gj.1; omega
        · have := lvl j hon; have := gj.1; omega
    · refine ⟨by have := x.len; omega, fun j hj => ?_⟩
      have hx := x.len
      exact ((same j (by omega) (fun hon => by have := lvl _ hon; omega) (by omega)).trans (c10.get j (by omega) (fun e => by have : j = h2.length := e; omega))).trans (x.get j hj)
  · have ei : i = nm.length := by omega
    subst ei
    obtain ⟨cs, o, el⟩ := L.ex
    obtain ⟨sa', sc', rfl⟩ := Sl.shape o.sl
    refine w_rdPA g (Nat.le_refl 2) ?_
    refine w_stPA T rfl (Nat.le_refl 2) rfl ?_
    have gT : (h'.set h.length (.row (spliceL zS 0 (cellsL (.agg #[.string (bs root), .slice sa' (genS nm ns d a0 nm.length).1.length sc']))) true))[h.length]? = some (.row [.string (bs root), .slice sa' (genS nm ns d a0 nm.length).1.length sc'] true) := get_set _ (lt_of_get T) _
    rw [res14]
    refine w_some (v := [Value.agg #[.string (bs root), .slice sa' (genS nm ns d a0 nm.length).1.length sc']]) ?_ (show K (.agg #[.string (bs root), .slice sa' (genS nm ns d a0 nm.length).1.length sc']) _ from ?_)
    · have e := hopt (o := rdRow true 2 (.pointer (some ⟨h.length, 0, none⟩)) _) (w_rdPA gT (Nat.le_refl 2) rfl)
      show (rdRow true 2 (e0 6) _).map _ = _
      rw [e6]
      exact congrArg (Option.map fun v => [v]) e
    · refine k _ _ (x.set (Nat.le_refl _) _) ?_
      rw [hmake]
      have hon : ∀ j, onId (.slice sa' (genS nm ns d a0 nm.length).1.length sc') j → h7.length ≤ j ∧ j < h'.length := fun j hj => ⟨(L.on hj).1, (L.on hj).2.1⟩
      refine ⟨sa', sc', cs, rfl, Sl.keepOn o.sl fun j hj => get_ne (by have := hon j hj; omega) _, fun j hj => ?_, EL.mono (fun j hj => ⟨get_ne (by have := hj.1.1; omega) _, by have := hj.1.1; omega, by rw [List.length_set]; exact hj.1.2.1⟩) _ _ el⟩
      have := hon j hj
      rw [List.length_set]
      omega
end Go.Proofs.Ytlenlhlipmkeeaa.W
end

section
/- Schema's laws: the document's texts of models. Conditions: none. -/
namespace Go.Proofs.Ytlenlhlipmkeeaa.W
open Go Go.AM SchM
set_option linter.unusedVariables false
set_option maxRecDepth 100000
theorem par1 {h : AH} {r : Nat} {k : Int} {n a : Value} {Q : Value → AH → Prop} (g : h[r]? = some (.row [.int .i64 k, n, a] true)) (q : Q (.bool (decide (k = 7) || decide (k = 8) || decide (k = 9))) h) :
  gopD (gB (.bool (decide (k = 7))) false) (fun k_0 =>
    optW (pOff 0 (.pointer (some ⟨r, 0, none⟩))) fun v18_1 =>
    k_0 v18_1 h [] ((7, (ceOf 1 (.pointer (some ⟨r, 0 + 0, none⟩)))) :: ((4, (ceOf 1 (.pointer (some ⟨r, 0 + 0, none⟩)))) :: ((1, (ceOf 1 (.pointer (some ⟨r, 0 + 0, none⟩)))) :: [])))) h [] ((7, (ceOf 1 (.pointer (some ⟨r, 0 + 0, none⟩)))) :: ((4, (ceOf 1 (.pointer (some ⟨r, 0 + 0, none⟩)))) :: ((1, (ceOf 1 (.pointer (some ⟨r, 0 + 0, none⟩)))) :: []))) fun v18 h_2 H S =>
  gopD (gB (.bool (decide (k = 7))) false) (fun k_1 =>
    histC #[0, 1, 3, 0, 8, 24, 0, 64, 192, 448, 960, 1984, 4032, 8128, 16320, 32704, 65472, 131008, 262080, 32711, 557055, 2097151] 11 (ceOf 1 v18) H (
      optW (rdRow false 1 v18 h_2) fun v19_1 =>
      k_1 v19_1 h_2 H ((11, (ceOf 1 v18)) :: S))) h_2 H S fun v19 h_3 H_1 S_1 =>
  gopD (gB (.bool (decide (k = 7))) false) (fun k_2 =>
    optW (pBin Try.prog .eql 3 v19 (.int .i64 8)) fun v20_1 =>
    k_2 v20_1 h_3 H_1 S_1) h_3 H_1 S_1 fun v20 h_4 H_2 S_2 =>
  optW (pPick (.bool (decide (k = 7))) (.bool true) v20) fun v21 =>
  gopD (gB v21 false) (fun k_3 =>
    optW (pOff 0 (.pointer (some ⟨r, 0, none⟩))) fun v23_1 =>
    k_3 v23_1 h_4 H_2 S_2) h_4 H_2 S_2 fun v23 h_5 H_3 S_3 =>
  gopD (gB v21 false) (fun k_4 =>
    histC #[0, 1, 3, 0, 8, 24, 0, 64, 192, 448, 960, 1984, 4032, 8128, 16320, 32704, 65472, 131008, 262080, 32711, 557055, 2097151] 16 (ceOf 1 v23) H_3 (
      optW (rdRow false 1 v23 h_5) fun v24_1 =>
      k_4 v24_1 h_5 H_3 ((16, (ceOf 1 v23)) :: S_3))) h_5 H_3 S_3 fun v24 h_6 H_4 S_4 =>
  gopD (gB v21 false) (fun k_5 =>
    optW (pBin Try.prog .eql 3 v24 (.int .i64 9)) fun v25_1 =>
    k_5 v25_1 h_6 H_4 S_4) h_6 H_4 S_4 fun v25 h_7 H_5 S_5 =>
  optW (pPick v21 (.bool true) v25) fun v26 =>
  Q v26 h_7 := by
  by_cases q7 : k = 7
  · refine gd_ft q7 (gd_ft q7 (gd_ft q7 (pk_tt q7 (gdc_ft (gdc_ft (gdc_ft (pk_t ?_)))))))
    have e : (decide (k = 7) || decide (k = 8) || decide (k = 9)) = true := by simp [q7]
    rw [e] at q
    exact q
  · refine gd_ff q7 (w_offP (gd_ff q7 (hist_nil (w_rdP g (v := .int .i64 k) rfl (gd_ff q7 (w_eql (pk_ff q7 ?_)))))))
    by_cases q8 : k = 8
    · refine gd_ft q8 (gd_ft q8 (gd_ft q8 (pk_tt q8 ?_)))
      have e : (decide (k = 7) || decide (k = 8) || decide (k = 9)) = true := by simp [q8]
      rw [e] at q
      exact q
    · refine gd_ff q8 (w_offP (gd_ff q8 (hist_nil (w_rdP g (v := .int .i64 k) rfl (gd_ff q8 (w_eql (pk_ff q8 ?_)))))))
      have e : (decide (k = 7) || decide (k = 8) || decide (k = 9)) = decide (k = 9) := by simp [q7, q8]
      rw [e] at q
      exact q
theorem par2 {h : AH} {b10 b13 b26 : Bool} {inn : Int} {Q : Value → AH → Prop} (q : Q (.bool (b10 || (b13 && decide (¬ inn = 6)) || (b26 && decide (inn = 7)))) h) :
  gopW (gB (.bool b10) false) (fun k_6 =>
    k_6 (.bool b13) h) h fun v29 h_8 =>
  gopW (gB (.bool b10) false) (fun k_7 =>
    k_7 v29 h_8) h_8 fun v30 h_9 =>
  gopW (gB v30 true) (fun k_8 =>
    k_8 (.int .i64 inn) h_9) h_9 fun v31 h_10 =>
  gopW (gB v30 true) (fun k_9 =>
    optW (pBin Try.prog .neq 3 v31 (.int .i64 6)) fun v32_1 =>
    k_9 v32_1 h_10) h_10 fun v32 h_11 =>
  gopW (gB (.bool b10) false) (fun k_10 =>
    optW (pPick v30 v32 (.bool false)) fun v33_1 =>
    k_10 v33_1 h_11) h_11 fun v33 h_12 =>
  optW (pPick (.bool b10) (.bool true) v33) fun v34 =>
  gopW (gB v34 false) (fun k_11 =>
    k_11 (.bool b26) h_12) h_12 fun v36 h_13 =>
  gopW (gB v34 false) (fun k_12 =>
    k_12 v36 h_13) h_13 fun v37 h_14 =>
  gopW (gB v37 true) (fun k_13 =>
    k_13 (.int .i64 inn) h_14) h_14 fun v38 h_15 =>
  gopW (gB v37 true) (fun k_14 =>
    optW (pBin Try.prog .eql 3 v38 (.int .i64 7)) fun v39_1 =>
    k_14 v39_1 h_15) h_15 fun v39 h_16 =>
  gopW (gB v34 false) (fun k_15 =>
    optW (pPick v37 v39 (.bool false)) fun v40_1 =>
    k_15 v40_1 h_16) h_16 fun v40 h_17 =>
  optW (pPick v34 (.bool true) v40) fun v41 =>
  Q v41 h_17 := by
  have last : ∀ (K : Value → Prop), (K (.bool (b26 && decide (inn = 7)))) → (∀ (c : Bool), c = false → K (.bool (c || (b26 && decide (inn = 7))))) := fun K hk c hc => by
    rw [hc, Bool.false_or]
    exact hk
  cases b10 with
  | true =>
    refine gc_ft (gc_ft (gwu (gwu (gc_ft (pk_t (gc_ft (gc_ft (gwu (gwu (gc_ft (pk_t ?_)))))))))))
    have e : (true || (b13 && decide (¬ inn = 6)) || (b26 && decide (inn = 7))) = true := by simp
    rw [e] at q
    exact q
  | false =>
    cases b13 with
    | false =>
      have e : (false || (false && decide (¬ inn = 6)) || (b26 && decide (inn = 7))) = (b26 && decide (inn = 7)) := by simp
      rw [e] at q
      refine gc_ff (gc_ff (gc_tf (gc_tf (gc_ff (pk_f (pk_f ?_))))))
      cases b26 with
      | true =>
        refine gc_ff (gc_ff (gc_tt (gc_tt (w_eql (gc_ff (pk_t (pk_f ?_)))))))
        rw [Bool.true_and] at q
        exact q
      | false => exact gc_ff (gc_ff (gc_tf (gc_tf (gc_ff (pk_f (pk_f q))))))
    | true =>
      refine gc_ff (gc_ff (gc_tt (gc_tt (w_neq (gc_ff (pk_t (pk_f ?_)))))))
      by_cases q6 : ¬ inn = 6
      · have e : (false || (true && decide (¬ inn = 6)) || (b26 && decide (inn = 7))) = true := by simp [q6]
        rw [e] at q
        exact g_ft q6 (g_ft q6 (gwu (gwu (g_ft q6 (pk_tt q6 q)))))
      · have q6' := Decidable.not_not.1 q6
        have e : (false || (true && decide (¬ inn = 6)) || (b26 && decide (inn = 7))) = (b26 && decide (inn = 7)) := by simp [q6']
        rw [e] at q
        cases b26 with
        | true =>
          refine g_ff q6 (g_ff q6 (gc_tt (gc_tt (w_eql (g_ff q6 (pk_t (pk_ff q6 ?_)))))))
          rw [Bool.true_and] at q
          exact q
        | false => exact g_ff q6 (g_ff q6 (gc_tf (gc_tf (g_ff q6 (pk_f (pk_ff q6 q))))))
theorem held54 {h : AH} {m : Mdl} {inn : Int} {v : Value} {K : Value → AH → Prop} (hm : MH h (fun j => j < h.length) m v) (hl : (txt m).length ≤ 1000000)
    (hM : ∀ (h2 : AH) (K : Value → AH → Prop), Ex h h2 → (∀ h', Ex h2 h' → K (.string (bs (txt m))) h') → callW Try.prog 29 [v] h2 K)
    (k : ∀ h', Ex h h' → K (.string (bs (hw inn m))) h') : callW Try.prog 54 [v, .int .i64 inn] h K := by
  refine c54 ?_
  unfold s54
  obtain ⟨kk, n, l⟩ := m
  unfold MH at hm
  obtain ⟨a, c, cs, rfl, sl, _, ml⟩ := hm
  refine n_boxv rfl fun h1 x1 l1 g1 => ?_
  have g1' : h1[h.length]? = some (.row [.int .i64 kk, .string (bs n), .slice a l.length c] true) := g1
  refine w_offP (w_rdP g1' (v := .int .i64 kk) rfl (w_eql (w_offP (w_rdP g1' (v := .int .i64 kk) rfl (w_eql (w_offP (w_rdP g1' (v := .int .i64 kk) rfl (w_eql ?_))))))))
  refine par1 g1' ?_
  refine par2 ?_
  have ep : par (kd (.mk kk n l)) inn = (decide (kk = 6) || (decide (kk = 5) && decide (¬ inn = 6)) || ((decide (kk = 7) || decide (kk = 8) || decide (kk = 9)) && decide (inn = 7))) := rfl
  rw [← ep]
  refine c_b (fun q => ?_) (fun q => ?_)
  · refine w_rdPA g1' (Nat.le_refl 3) (hM _ _ x1 fun h2 x2 => ?_)
    refine w_cat (by simp; omega) (w_cat (by simp; omega) ?_)
    have := k h2 (x1.trans x2)
    unfold hw at this
    rw [if_pos q] at this
    exact this
  · refine w_rdPA g1' (Nat.le_refl 3) (hM _ _ x1 fun h2 x2 => ?_)
    have := k h2 (x1.trans x2)
    unfold hw at this
    rw [if_neg (by rw [q]; decide)] at this
    exact this
set_option maxHeartbeats 1000000 in
theorem model29 : ∀ (N : Nat) (m : Mdl) (h : AH) (v : Value) (K : Value → AH → Prop), sz m ≤ N → N ≤ 1000000 → MH h (fun j => j < h.length) m v → okT m = true → (txt m).length ≤ 1000000 → (∀ h', Ex h h' → K (.string (bs (txt m))) h') → callW Try.prog 29 [v] h K
  | 0, .mk k n l, h, v, K, hN, _, _, _, _, _ => by simp [sz] at hN
  | N + 1, .mk k n l, h, v, K, hN, hN2, hm, hok, hlen, kk => by
    have hN' : szL l ≤ N := by simp only [sz] at hN; omega
    have hll := szL_len l
    unfold okT at hok
    rw [Bool.and_eq_true] at hok
    obtain ⟨hok1, hok2⟩ := hok
    unfold MH at hm
    obtain ⟨a, c, cs, rfl, sl, _, ml⟩ := hm
    refine c29 ?_
    unfold s29
    refine n_boxv rfl fun h1 x1 l1 g1 => ?_
    have g1' : h1[h.length]? = some (.row [.int .i64 k, .string (bs n), .slice a l.length c] true) := g1
    have part : ∀ (i : Nat) (m' : Mdl) (h2 : AH) (K : Value → AH → Prop) (x y z : Value) (inn : Int), l[i]? = some m' → MH h (fun j => j < h.length) m' (.agg #[x, y, z]) → Ex h h2 → (hw inn m').length ≤ 1000000 → (∀ h', Ex h2 h' → K (.string (bs (hw inn m'))) h') → callW Try.prog 54 [.agg #[x, y, z], .int .i64 inn] h2 K := by
      intro i m' h2 K x y z inn hi mh x2 hlen k2
      have hsz := sz_get l i m' hi
      have hge := hw_ge inn m'
      refine held54 (MH.mono (fun j hj => ⟨x2.get j hj, x2.lt hj⟩) m' _ mh) (by omega) (fun h3 K x3 k3 => ?_) k2
      exact model29 N m' h3 _ K (by omega) (by omega) (MH.mono (fun j hj => ⟨(x2.trans x3).get j hj, (x2.trans x3).lt hj⟩) m' _ mh) (okTL_get l hok2 i m' hi) (by omega) k3
    have done : ∀ w : W, txt (.mk k n l) = w → K (.string (bs w)) h1 := fun w e => by
      have := kk h1 x1
      rw [e] at this
      exact this
    have rep : ∀ (b : UInt8) , (k = 7 ∨ k = 8 ∨ k = 9) → txt (.mk k n l) = (txtL 7 l).headD [] ++ [b] →
        optW (pOff 2 (.pointer (some ⟨h.length, 0, none⟩))) fun v20 => optW (rdRow false 1 v20 h1) fun v21 => optW (pIdxS 3 v21 (.int .i64 0)) fun v22 => optW (rdRow true 3 v22 h1) fun v23 => callW Try.prog 54 [v23, (.int .i64 7)] h1 fun v24 h_2 => optW (pBin Try.prog .add 9 v24 (.string (bs [b]))) fun v25 => K v25 h_2 := by
      intro b hk e
      have hpos : 0 < l.length := by
        have : (decide (k = 7) || decide (k = 8) || decide (k = 9)) = true := by rcases hk with rfl | rfl | rfl <;> rfl
        rw [this] at hok1
        exact of_decide_eq_true hok1
      obtain ⟨m', hm'⟩ := getElem?_of_lt (l := l) (i := 0) hpos
      obtain ⟨x, y, z, hc, mh⟩ := ML.get l cs ml 0 m' hm'
      have et : (txtL 7 l).headD [] = hw 7 m' := by
        cases l with
        | nil => simp at hpos
        | cons m0 l => cases hm'; rfl
      rw [et] at e
      rw [e] at hlen
      rw [List.length_append] at hlen
      refine w_offP (w_rdP g1' (v := .slice a l.length c) rfl (w_idx (sl.ex x1) (by decide) (by omega) fun p hp => ?_))
      have hp' : PtrTo h1 p [x, y, z] := by rw [← hc]; exact hp
      refine w_rdA hp' rfl (part 0 m' h1 _ x y z 7 hm' mh x1 (by omega) fun h2 x2 => w_cat (by simp; omega) ?_)
      have := kk h2 (x1.trans x2)
      rw [e] at this
      exact this
    refine w_offP (w_rdP g1' (v := .int .i64 k) rfl ?_)
    refine w_eql (c_dec (fun q1 => done _ (by rw [txt, if_pos q1]; rfl)) (fun q1 => ?_))
    refine w_eql (c_dec (fun q2 => done _ (by rw [txt, if_neg q1, if_pos q2]; rfl)) (fun q2 => ?_))
    refine w_eql (c_dec (fun q3 => done _ (by rw [txt, if_neg q1, if_neg q2, if_pos q3]; rfl)) (fun q3 => ?_))
    refine w_eql (c_dec (fun q4 => w_offP (w_rdP g1' (v := .string (bs n)) rfl (done _ (by rw [txt, if_neg q1, if_neg q2, if_neg q3, if_pos q4])))) (fun q4 => ?_))
    refine w_eql (c_dec (fun q7 => rep 42 (by omega) (by rw [txt, if_neg q1, if_neg q2, if_neg q3, if_neg q4, if_pos q7])) (fun q7 => ?_))
    refine w_eql (c_dec (fun q8 => rep 43 (by omega) (by rw [txt, if_neg q1, if_neg q2, if_neg q3, if_neg q4, if_neg q7, if_pos q8])) (fun q8 => ?_))
    refine w_eql (c_dec (fun q9 => rep 63 (by omega) (by rw [txt, if_neg q1, if_neg q2, if_neg q3, if_neg q4, if_neg q7, if_neg q8, if_pos q9])) (fun q9 => ?_))
    have etx : txt (.mk k n l) = joinW (if k = 6 then [32, 124, 32] else [44, 32]) (txtL k l) := by rw [txt, if_neg q1, if_neg q2, if_neg q3, if_neg q4, if_neg q7, if_neg q8, if_neg q9]
    have lp : ∀ (e0 : Env) (b : W), txt (.mk k n l) = joinW b (txtL k l) → e0 1 = .pointer (some ⟨h.length, 0, none⟩) → e0 3 = .string (bs []) → e0 4 = .string (bs b) → e0 5 = .int .i64 0 → b.length ≤ 10 →
                  loopE (fun I_1 e_1 h_8 =>
                    optW (pOff 2 (e_1 1)) fun v46_1 =>
                    optW (rdRow false 1 v46_1 h_8) fun v47_1 =>
                    optW (lenSl v47_1) fun v48_1 =>
                    optW (pBin Try.prog .lss 3 (e_1 5) v48_1) fun v49_1 =>
                    condW v49_1 (
                      optW (pBin Try.prog .gtr 3 (e_1 5) (.int .i64 0)) fun v53_1 =>
                      condW v53_1 (
                        optW (pBin Try.prog .add 9 (e_1 3) (e_1 4)) fun v56_1 =>
                        optW (pOff 2 (e_1 1)) fun v58_2 =>
                        optW (rdRow false 1 v58_2 h_8) fun v59_2 =>
                        optW (pIdxS 3 v59_2 (e_1 5)) fun v61_2 =>
                        optW (rdRow true 3 v61_2 h_8) fun v62_2 =>
                        optW (pOff 0 (e_1 1)) fun v63_2 =>
                        optW (rdRow false 1 v63_2 h_8) fun v64_2 =>
                        callW Try.prog 54 [v62_2, v64_2] h_8 fun v65_2 h_9 =>
                        optW (pBin Try.prog .add 9 v56_1 v65_2) fun v66_2 =>
                        optW (pBin Try.prog .add 3 (e_1 5) (.int .i64 1)) fun v51_2 =>
                        I_1 (pt (pt (pt (pt (pt (pt (pt (pt (pt (pt (pt (pt (pt (pt (pt (pt (pt (pt (pt (pt (pt (pt (pt (pt (pt e_1 45 (e_1 5)) 46 v46_1) 47 v47_1) 48 v48_1) 49 v49_1) 52 (e_1 5)) 53 v53_1) 54 (e_1 3)) 55 (e_1 4)) 56 v56_1) 3 v56_1) 57 v56_1) 58 v58_2) 59 v59_2) 60 (e_1 5)) 61 v61_2) 62 v62_2) 63 v63_2) 64 v64_2) 65 v65_2) 66 v66_2) 3 v66_2) 50 (e_1 5)) 51 v51_2) 5 v51_2) h_9
                      ) (
                        optW (pOff 2 (e_1 1)) fun v58_3 =>
                        optW (rdRow false 1 v58_3 h_8) fun v59_3 =>
                        optW (pIdxS 3 v59_3 (e_1 5)) fun v61_3 =>
                        optW (rdRow true 3 v61_3 h_8) fun v62_3 =>
                        optW (pOff 0 (e_1 1)) fun v63_3 =>
                        optW (rdRow false 1 v63_3 h_8) fun v64_3 =>
                        callW Try.prog 54 [v62_3, v64_3] h_8 fun v65_3 h_10 =>
                        optW (pBin Try.prog .add 9 (e_1 3) v65_3) fun v66_3 =>
                        optW (pBin Try.prog .add 3 (e_1 5) (.int .i64 1)) fun v51_3 =>
                        I_1 (pt (pt (pt (pt (pt (pt (pt (pt (pt (pt (pt (pt (pt (pt (pt (pt (pt (pt (pt (pt (pt e_1 45 (e_1 5)) 46 v46_1) 47 v47_1) 48 v48_1) 49 v49_1) 52 (e_1 5)) 53 v53_1) 57 (e_1 3)) 58 v58_3) 59 v59_3) 60 (e_1 5)) 61 v61_3) 62 v62_3) 63 v63_3) 64 v64_3) 65 v65_3) 66 v66_3) 3 v66_3) 50 (e_1 5)) 51 v51_3) 5 v51_3) h_10)
                    ) (
                      K (e_1 3) h_8))
        e0 h1 := by
      intro e0 b et f1 f3 f4 f5 hb
      rw [et] at hlen
      refine loopE_intro (fun mm e h' => ∃ i : Nat, i ≤ l.length ∧ mm = l.length - i ∧ e 1 = .pointer (some ⟨h.length, 0, none⟩) ∧ e 3 = .string (bs (joinW b ((txtL k l).take i))) ∧ e 4 = .string (bs b) ∧ e 5 = .int .i64 (i : Nat) ∧ Ex h1 h') l.length
        ⟨0, Nat.zero_le _, rfl, f1, by rw [f3]; rfl, f4, f5, Ex.refl _⟩ ?_
      clear f1 f3 f4 f5 e0
      rintro I mm e h' ⟨i, hi, hmm, f1, f3, f4, f5, x2⟩ ih
      rw [f1, f3, f4, f5]
      have g2 := x2.some g1'
      refine w_offP (w_rdP g2 (v := .slice a l.length c) rfl (w_lenSl (w_lss (c_dec (fun q => ?_) (fun q => ?_)))))
      · obtain ⟨m', hm'⟩ := getElem?_of_lt (l := l) (i := i) (by omega)
        obtain ⟨x, y, z, hc, mh⟩ := ML.get l cs ml i m' hm'
        have hx : (txtL k l)[i]? = some (hw k m') := by rw [txtL_map, List.getElem?_map, hm']; rfl
        have et1 : (txtL k l).take (i + 1) = (txtL k l).take i ++ [hw k m'] := by rw [List.take_add_one, hx]; rfl
        have len0 := joinW_le b (txtL k l) i
        have len1 := joinW_le b (txtL k l) (i + 1)
        have ll : ((txtL k l).take i).length = i := by rw [List.length_take, txtL_map, List.length_map]; omega
        rw [et1, joinW_snoc] at len1
        refine w_gtr (c_dec (fun qp => ?_) (fun qp => ?_))
        · have ne : (txtL k l).take i ≠ [] := fun e => by rw [e] at ll; simp at ll; omega
          rw [if_neg ne] at len1
          simp only [List.length_append] at len1
          refine w_cat (by omega) ?_
          refine w_offP (w_rdP g2 (v := .slice a l.length c) rfl (w_idx (sl.ex (x1.trans x2)) (by omega) (by omega) fun p hp => ?_))
          have hp' : PtrTo h' p [x, y, z] := by rw [← hc]; rw [Int.toNat_natCast] at hp; exact hp
          refine w_rdA hp' rfl (w_offP (w_rdP g2 (v := .int .i64 k) rfl (part i m' h' _ x y z k hm' mh (x1.trans x2) (by omega) fun h3 x3 => w_cat (by simp only [List.length_append]; omega) (w_add (by omega) (by omega) ?_))))
          refine ih (l.length - (i + 1)) _ _ (by omega) ⟨i + 1, by omega, rfl, f1, ?_, f4, rfl, x2.trans x3⟩
          rw [et1, joinW_snoc, if_neg ne]
          rfl
        · have e0 : (txtL k l).take i = [] := List.eq_nil_of_length_eq_zero (by omega)
          rw [if_pos e0] at len1
          rw [e0]
          refine w_offP (w_rdP g2 (v := .slice a l.length c) rfl (w_idx (sl.ex (x1.trans x2)) (by omega) (by omega) fun p hp => ?_))
          have hp' : PtrTo h' p [x, y, z] := by rw [← hc]; rw [Int.toNat_natCast] at hp; exact hp
          refine w_rdA hp' rfl (w_offP (w_rdP g2 (v := .int .i64 k) rfl (part i m' h' _ x y z k hm' mh (x1.trans x2) (by omega) fun h3 x3 => w_cat (by simp only [joinW, List.length_nil]; omega) (w_add (by omega) (by omega) ?_))))
          refine ih (l.length - (i + 1)) _ _ (by omega) ⟨i + 1, by omega, rfl, f1, ?_, f4, rfl, x2.trans x3⟩
          rw [et1, joinW_snoc, if_pos e0]
          rfl
      · have ei : (txtL k l).take i = txtL k l := List.take_of_length_le (by rw [txtL_map, List.length_map]; omega)
        rw [ei]
        have := kk h' (x1.trans x2)
        rw [et] at this
        exact this
    refine w_offP (w_rdP g1' (v := .int .i64 k) rfl (w_eql (c_dec (fun q6 => ?_) (fun q6 => ?_))))
    · rw [if_pos q6] at etx
      exact lp _ _ etx rfl rfl rfl rfl (by decide)
    · rw [if_neg q6] at etx
      exact lp _ _ etx rfl rfl rfl rfl (by decide)
end Go.Proofs.Ytlenlhlipmkeeaa.W
end

section
/- Schema's laws: the document's text of a schema; schemas that are the same. Conditions: none. -/
namespace Go.Proofs.Ytlenlhlipmkeeaa.W
open Go Go.AM SchM
set_option linter.unusedVariables false
set_option maxRecDepth 100000
theorem flat_le : ∀ (l : List W) (i : Nat), ((l.take i).flatten).length ≤ l.flatten.length
  | [], i => by simp
  | x :: l, 0 => by simp
  | x :: l, i + 1 => by
    have := flat_le l i
    simp only [List.take_succ_cons, List.flatten_cons, List.length_append]
    omega
theorem text13 {h : AH} {b : Nat} {x : W × List (W × Mdl)} {v : Value} {K : Value → AH → Prop} (s : SH h b x v) (hok : ∀ e ∈ x.2, okT e.2 = true ∧ sz e.2 ≤ 1000000) (hlen : (text x).length ≤ 1000000) (hl : x.2.length ≤ 1000)
    (k : ∀ h', Ex h h' → K (.string (bs (text x))) h') : callW Try.prog 13 [v] h K := by
  obtain ⟨root, l⟩ := x
  obtain ⟨a, c, cs, rfl, sl, on, el⟩ := s
  dsimp only at sl on el hok hl
  refine c13 ?_
  unfold s13
  refine n_boxv rfl fun h1 x1 l1 g1 => ?_
  have g1' : h1[h.length]? = some (.row [.string (bs root), .slice a l.length c] true) := g1
  have tl : (text (root, l)).length = 6 + root.length + ((l.map elT).flatten).length := by
    simp only [text, List.length_append, List.length_cons, List.length_nil]
    omega
  refine w_offP (w_rdP g1' (v := .string (bs root)) rfl (w_cat (by simp; omega) (w_cat (by simp; omega) ?_)))
  refine loopE_intro (fun mm e h' => ∃ i : Nat, i ≤ l.length ∧ mm = l.length - i ∧ e 1 = .pointer (some ⟨h.length, 0, none⟩) ∧ e 3 = .string (bs ([114, 111, 111, 116, 32] ++ root ++ [59] ++ ((l.map elT).take i).flatten)) ∧ e 4 = .int .i64 (i : Nat) ∧ Ex h1 h') l.length
    ⟨0, Nat.zero_le _, rfl, rfl, congrArg (fun w => Value.string (bs w)) (by simp), rfl, Ex.refl _⟩ ?_
  rintro I mm e h2 ⟨i, hi, hmm, f1, f3, f4, x2⟩ ih
  rw [f1, f3, f4]
  have g2 := x2.some g1'
  have len0 := flat_le (l.map elT) i
  have len1 := flat_le (l.map elT) (i + 1)
  refine w_offP (w_rdP g2 (v := .slice a l.length c) rfl (w_lenSl (w_lss (c_dec (fun q => ?_) (fun q => ?_)))))
  · obtain ⟨⟨w, m⟩, hm⟩ := getElem?_of_lt (l := l) (i := i) (by omega)
    obtain ⟨k', n', a', ll, cc, hc, mh⟩ := EL.get l cs el i _ hm
    have hmem := hok _ (List.mem_of_getElem? hm)
    have hx : (l.map elT)[i]? = some (elT (w, m)) := by rw [List.getElem?_map, hm]; rfl
    have et1 : (l.map elT).take (i + 1) = (l.map elT).take i ++ [elT (w, m)] := by rw [List.take_add_one, hx]; rfl
    rw [et1, List.flatten_append, List.length_append] at len1
    have el1 : [elT (w, m)].flatten.length = 9 + w.length + 3 + (txt m).length + 1 := by simp [elT]; omega
    rw [el1] at len1
    have ln : ([114, 111, 111, 116, 32] ++ root ++ [59] ++ ((l.map elT).take i).flatten : W).length = 6 + root.length + (((l.map elT).take i).flatten).length := by
      simp only [List.length_append, List.length_cons, List.length_nil]
      omega
    refine w_cat (by rw [ln]; simp only [List.length_cons, List.length_nil]; omega) ?_
    generalize hS : ([114, 111, 111, 116, 32] ++ root ++ [59] ++ ((l.map elT).take i).flatten : W) = S at ln ⊢
    refine w_offP (w_rdP g2 (v := .slice a l.length c) rfl (w_idx (sl.ex (x1.trans x2)) (by omega) (by omega) fun p hp => ?_))
    have hp' : PtrTo h2 p [.string (bs w), .int .i64 k', .string (bs n'), .slice a' ll cc] := by rw [Int.toNat_natCast, hc] at hp; exact hp
    refine w_off hp' (by show 0 ≤ 4; decide) fun p0 hp0 => w_rd1 hp0 rfl ?_
    refine w_cat (by simp only [List.length_append, List.length_cons, List.length_nil]; omega) (w_cat (by simp only [List.length_append, List.length_cons, List.length_nil]; omega) ?_)
    refine w_offP (w_rdP g2 (v := .slice a l.length c) rfl (w_idx (sl.ex (x1.trans x2)) (by omega) (by omega) fun p3 hp3 => ?_))
    have hp3' : PtrTo h2 p3 [.string (bs w), .int .i64 k', .string (bs n'), .slice a' ll cc] := by rw [Int.toNat_natCast, hc] at hp3; exact hp3
    refine w_off hp3' (by show 1 ≤ 4; decide) fun p4 hp4 => w_rdA hp4 rfl ?_
    refine model29 1000000 m h2 _ _ hmem.2 (Nat.le_refl _) (MH.mono (fun j hj => ⟨(x1.trans x2).get j hj.2, (x1.trans x2).lt hj.2⟩) m _ mh) hmem.1 (by omega) fun h3 x3 => ?_
    refine ⟨PtrTo.ids hp0 (Ex.refl _) x3, ptr_id (x3.get _ (lt_of_get g2)), ?_⟩
    refine w_cat (by simp only [List.length_append, List.length_cons, List.length_nil]; omega) (w_cat (by simp only [List.length_append, List.length_cons, List.length_nil]; omega) (w_add (by omega) (by omega) ?_))
    refine ih (l.length - (i + 1)) _ _ (by omega) ⟨i + 1, by omega, rfl, f1, ?_, rfl, x2.trans x3⟩
    rw [et1, List.flatten_append, ← List.append_assoc, hS]
    show Value.string (bs _) = Value.string (bs _)
    congr 2
    simp [elT]
  · have ei : (l.map elT).take i = l.map elT := List.take_of_length_le (by rw [List.length_map]; omega)
    rw [ei]
    exact k h2 (x1.trans x2)
theorem nn {p : Prop} (h : p) : ¬ ¬ p := fun n => n h
set_option maxHeartbeats 1000000 in
theorem one46 : ∀ (N : Nat) (m : Mdl) (h : AH) (v w : Value) (K : Value → AH → Prop), sz m ≤ N → N ≤ 1000000 → MH h (fun j => j < h.length) m v → MH h (fun j => j < h.length) m w → (∀ h', Ex h h' → K (.bool true) h') → callW Try.prog 46 [v, w] h K
  | 0, .mk k n l, h, v, w, K, hN, _, _, _, _ => by simp [sz] at hN
  | N + 1, .mk k n l, h, v, w, K, hN, hN2, hm, hw, kk => by
    have hN' : szL l ≤ N := by simp only [sz] at hN; omega
    have hll := szL_len l
    unfold MH at hm hw
    obtain ⟨a, c, cs, rfl, sl, _, ml⟩ := hm
    obtain ⟨a', c', cs', rfl, sl', _, ml'⟩ := hw
    refine c46 ?_
    unfold s46
    refine n_boxv rfl fun h1 x1 l1 g1 => ?_
    refine n_boxv rfl fun h2 x2 l2 g2 => ?_
    have g1' : h2[h.length]? = some (.row [.int .i64 k, .string (bs n), .slice a l.length c] true) := x2.some g1
    have g2' : h2[h1.length]? = some (.row [.int .i64 k, .string (bs n), .slice a' l.length c'] true) := g2
    have x12 := x1.trans x2
    refine w_offP (w_rdP g1' (v := .int .i64 k) rfl (w_offP (w_rdP g2' (v := .int .i64 k) rfl (w_neq ?_))))
    have t1 : ¬ ¬ (k = k) := nn rfl
    have t2 : ¬ ¬ (n = n) := nn rfl
    have t3 : ¬ ¬ (((l.length : Nat) : Int) = (l.length : Nat)) := nn rfl
    refine g_ff t1 (w_offP (g_ff t1 (w_rdP g1' (v := .string (bs n)) rfl (g_ff t1 (w_offP (g_ff t1 (w_rdP g2' (v := .string (bs n)) rfl (g_ff t1 (w_sneq (pk_ff t1 ?_))))))))))
    refine g_ff t2 (w_offP (g_ff t2 (w_rdP g1' (v := .slice a l.length c) rfl (g_ff t2 (w_lenSl (g_ff t2 (w_offP (g_ff t2 (w_rdP g2' (v := .slice a' l.length c') rfl (g_ff t2 (w_lenSl (g_ff t2 (w_neq (pk_ff t2 (c_ff t3 ?_)))))))))))))))
    refine loopE_intro (fun mm e h' => ∃ i : Nat, i ≤ l.length ∧ mm = l.length - i ∧ e 2 = .pointer (some ⟨h.length, 0, none⟩) ∧ e 3 = .pointer (some ⟨h1.length, 0, none⟩) ∧ e 5 = .int .i64 (i : Nat) ∧ Ex h2 h') l.length
      ⟨0, Nat.zero_le _, rfl, rfl, rfl, rfl, Ex.refl _⟩ ?_
    rintro I mm e h3 ⟨i, hi, hmm, f2, f3, f5, x3⟩ ih
    rw [f2, f3, f5]
    have g1'' := x3.some g1'
    have g2'' := x3.some g2'
    have x03 := x12.trans x3
    refine w_offP (w_rdP g1'' (v := .slice a l.length c) rfl (w_lenSl (w_lss (c_dec (fun q => ?_) (fun q => kk _ x03)))))
    obtain ⟨m', hm'⟩ := getElem?_of_lt (l := l) (i := i) (by omega)
    obtain ⟨x, y, z, hc, mh⟩ := ML.get l cs ml i m' hm'
    obtain ⟨x', y', z', hc', mh'⟩ := ML.get l cs' ml' i m' hm'
    have hsz := sz_get l i m' hm'
    refine w_offP (w_rdP g1'' (v := .slice a l.length c) rfl (w_idx (sl.ex x03) (by omega) (by omega) fun p hp => ?_))
    have hp1 : PtrTo h3 p [x, y, z] := by rw [← hc]; rw [Int.toNat_natCast] at hp; exact hp
    refine w_rdA hp1 rfl ?_
    refine w_offP (w_rdP g2'' (v := .slice a' l.length c') rfl (w_idx (sl'.ex x03) (by omega) (by omega) fun p' hp' => ?_))
    have hp2 : PtrTo h3 p' [x', y', z'] := by rw [← hc']; rw [Int.toNat_natCast] at hp'; exact hp'
    refine w_rdA hp2 rfl ?_
    refine one46 N m' h3 _ _ _ (by omega) (by omega) (MH.mono (fun j hj => ⟨x03.get j hj, x03.lt hj⟩) m' _ mh) (MH.mono (fun j hj => ⟨x03.get j hj, x03.lt hj⟩) m' _ mh') fun h4 x4 => ?_
    refine w_notb (c_f (w_add (by omega) (by omega) ?_))
    exact ih (l.length - (i + 1)) _ _ (by omega) ⟨i + 1, by omega, rfl, f2, f3, rfl, x3.trans x4⟩
end Go.Proofs.Ytlenlhlipmkeeaa.W
end

section
/- Schema's laws: schemas that are the same. Conditions: none. -/
namespace Go.Proofs.Ytlenlhlipmkeeaa.W
open Go Go.AM SchM
set_option linter.unusedVariables false
set_option maxRecDepth 100000
def SM (h : AH) (x : W × List (W × Mdl)) (v : Value) : Prop :=
  ∃ a c cs, v = .agg #[.string (bs x.1), .slice a x.2.length c] ∧ Sl 4 h (.slice a x.2.length c) x.2.length cs ∧ EL h (fun j => j < h.length) x.2 cs
theorem SM.ex {h h' : AH} {x : W × List (W × Mdl)} {v : Value} (s : SM h x v) (e : Ex h h') : SM h' x v := by
  obtain ⟨a, c, cs, ev, sl, el⟩ := s
  exact ⟨a, c, cs, ev, sl.ex e, EL.mono (fun j hj => ⟨e.get j hj, e.lt hj⟩) _ _ el⟩
theorem SH.sm {h : AH} {b : Nat} {x : W × List (W × Mdl)} {v : Value} (s : SH h b x v) : SM h x v := by
  obtain ⟨a, c, cs, ev, sl, on, el⟩ := s
  exact ⟨a, c, cs, ev, sl, EL.mono (fun j hj => ⟨rfl, hj.2⟩) _ _ el⟩
theorem SM.nil (h : AH) : SM h ([], []) (.agg #[.string (bs []), .slice none 0 0]) := ⟨none, 0, [], rfl, ⟨rfl, .inl ⟨rfl, rfl⟩⟩, rfl⟩
set_option maxHeartbeats 1000000 in
theorem same19 {h : AH} {x : W × List (W × Mdl)} {v w : Value} {K : Value → AH → Prop} (s1 : SM h x v) (s2 : SM h x w) (hz : ∀ e ∈ x.2, sz e.2 ≤ 1000000) (hl : x.2.length ≤ 1000000) (k : ∀ h', Ex h h' → K (.bool true) h') : callW Try.prog 19 [v, w] h K := by
  obtain ⟨root, l⟩ := x
  obtain ⟨a, c, cs, rfl, sl, el⟩ := s1
  obtain ⟨a', c', cs', rfl, sl', el'⟩ := s2
  dsimp only at sl el sl' el' hz hl
  refine c19 ?_
  unfold s19
  refine n_boxv rfl fun h1 x1 l1 g1 => ?_
  refine n_boxv rfl fun h2 x2 l2 g2 => ?_
  have g1' : h2[h.length]? = some (.row [.string (bs root), .slice a l.length c] true) := x2.some g1
  have g2' : h2[h1.length]? = some (.row [.string (bs root), .slice a' l.length c'] true) := g2
  have x12 := x1.trans x2
  have t1 : ¬ ¬ (root = root) := nn rfl
  have t3 : ¬ ¬ (((l.length : Nat) : Int) = (l.length : Nat)) := nn rfl
  refine w_offP (w_rdP g1' (v := .string (bs root)) rfl (w_offP (w_rdP g2' (v := .string (bs root)) rfl (w_sneq ?_))))
  refine g_ff t1 (w_offP (g_ff t1 (w_rdP g1' (v := .slice a l.length c) rfl (g_ff t1 (w_lenSl (g_ff t1 (w_offP (g_ff t1 (w_rdP g2' (v := .slice a' l.length c') rfl (g_ff t1 (w_lenSl (g_ff t1 (w_neq (pk_ff t1 (c_ff t3 ?_)))))))))))))))
  refine loopE_intro (fun mm e h' => ∃ i : Nat, i ≤ l.length ∧ mm = l.length - i ∧ e 2 = .pointer (some ⟨h.length, 0, none⟩) ∧ e 3 = .pointer (some ⟨h1.length, 0, none⟩) ∧ e 5 = .int .i64 (i : Nat) ∧ Ex h2 h') l.length
    ⟨0, Nat.zero_le _, rfl, rfl, rfl, rfl, Ex.refl _⟩ ?_
  rintro I mm e h3 ⟨i, hi, hmm, f2, f3, f5, x3⟩ ih
  rw [f2, f3, f5]
  have g1'' := x3.some g1'
  have g2'' := x3.some g2'
  have x03 := x12.trans x3
  refine w_offP (w_rdP g1'' (v := .slice a l.length c) rfl (w_lenSl (w_lss (c_dec (fun q => ?_) (fun q => k _ x03)))))
  obtain ⟨⟨nw, m⟩, hm⟩ := getElem?_of_lt (l := l) (i := i) (by omega)
  obtain ⟨k1, n1, a1, l1', c1, hc, mh⟩ := EL.get l cs el i _ hm
  obtain ⟨k2, n2, a2, l2', c2, hc', mh'⟩ := EL.get l cs' el' i _ hm
  have hsz := hz _ (List.mem_of_getElem? hm)
  have t2 : ¬ ¬ (nw = nw) := nn rfl
  refine w_offP (w_rdP g1'' (v := .slice a l.length c) rfl (w_idx (sl.ex x03) (by omega) (by omega) fun p hp => ?_))
  have hp1 : PtrTo h3 p [.string (bs nw), .int .i64 k1, .string (bs n1), .slice a1 l1' c1] := by rw [Int.toNat_natCast, hc] at hp; exact hp
  refine w_off hp1 (by show 0 ≤ 4; decide) fun p0 hp0 => w_rd1 hp0 rfl ?_
  refine w_offP (w_rdP g2'' (v := .slice a' l.length c') rfl (w_idx (sl'.ex x03) (by omega) (by omega) fun q hq => ?_))
  have hq1 : PtrTo h3 q [.string (bs nw), .int .i64 k2, .string (bs n2), .slice a2 l2' c2] := by rw [Int.toNat_natCast, hc'] at hq; exact hq
  refine w_off hq1 (by show 0 ≤ 4; decide) fun q0 hq0 => w_rd1 hq0 rfl ?_
  refine w_sneq ?_
  refine gd_ff t2 (w_offP (gd_ff t2 (hist_nil (w_rdP g1'' (v := .slice a l.length c) rfl (gd_ff t2 (gd_ff t2 (w_idx (sl.ex x03) (by omega) (by omega) fun p2 hp2 => ?_)))))))
  have hp3 : PtrTo h3 p2 [.string (bs nw), .int .i64 k1, .string (bs n1), .slice a1 l1' c1] := by rw [Int.toNat_natCast, hc] at hp2; exact hp2
  refine gd_ff t2 (w_off hp3 (by show 1 ≤ 4; decide) fun p4 hp4 => gd_ff t2 (hist_nil (w_rdA hp4 rfl ?_)))
  refine gd_ff t2 (w_offP (gd_ff t2 (hist_nil (w_rdP g2'' (v := .slice a' l.length c') rfl (gd_ff t2 (gd_ff t2 (w_idx (sl'.ex x03) (by omega) (by omega) fun q2 hq2 => ?_)))))))
  have hq3 : PtrTo h3 q2 [.string (bs nw), .int .i64 k2, .string (bs n2), .slice a2 l2' c2] := by rw [Int.toNat_natCast, hc'] at hq2; exact hq2
  refine gd_ff t2 (w_off hq3 (by show 1 ≤ 4; decide) fun q4 hq4 => gd_ff t2 (hist_nil (w_rdA hq4 rfl ?_)))
  refine gd_ff t2 ?_
  refine one46 1000000 m h3 _ _ _ hsz (Nat.le_refl _) (MH.mono (fun j hj => ⟨x03.get j hj, x03.lt hj⟩) m _ mh) (MH.mono (fun j hj => ⟨x03.get j hj, x03.lt hj⟩) m _ mh') fun h4 x4 => ?_
  refine read_all ?_ fun t ht y hy => ?_
  · refine gd_ff t2 (w_notb (pk_ff t2 (c_f (w_add (by omega) (by omega) ?_))))
    exact ih (l.length - (i + 1)) _ _ (by omega) ⟨i + 1, by omega, rfl, f2, f3, rfl, x3.trans x4⟩
  · simp only [List.mem_cons, List.not_mem_nil, or_false] at ht
    rcases ht with rfl | rfl | rfl | rfl | rfl | rfl | rfl | rfl
    · exact PtrTo.ids hq4 (Ex.refl _) x4 y hy
    · exact ptr_id (x4.get _ (lt_of_get g2'')) y hy
    · exact PtrTo.ids hp4 (Ex.refl _) x4 y hy
    · exact ptr_id (x4.get _ (lt_of_get g1'')) y hy
    · exact PtrTo.ids hq0 (Ex.refl _) x4 y hy
    · exact ptr_id (x4.get _ (lt_of_get g2'')) y hy
    · exact PtrTo.ids hp0 (Ex.refl _) x4 y hy
    · exact ptr_id (x4.get _ (lt_of_get g1'')) y hy
end Go.Proofs.Ytlenlhlipmkeeaa.W
end

section
/- SchemaBlanks: the walk. Conditions: none. -/
namespace Go.Proofs.Ytlenlhlipmkeeaa.W
open Go Go.AM SchM
set_option linter.unusedVariables false
set_option maxRecDepth 100000
theorem pre9 {c : UInt8} {i gap : Int} {h : AH} {Q : Value → Value → Value → Value → Value → Value → Value → AH → Prop} (q : ∀ x32 x34 x35 x36 x37 x38 (b : Bool), (b = true → c = 32) → Q x32 x34 x35 x36 x37 x38 (.bool b) h) :
        optW (pBin Try.prog .eql 5 (.int .u8 (c.toNat : Nat)) (.int .u8 32)) fun v32 =>
        gopW (gB v32 true) (fun k =>
          k (.int .i64 i) h) h fun v34 h_7 =>
        gopW (gB v32 true) (fun k_1 =>
          k_1 (.int .i64 gap) h_7) h_7 fun v35 h_8 =>
        gopW (gB v32 true) (fun k_2 =>
          optW (pBin Try.prog .add 3 v34 v35) fun v36_1 =>
          k_2 v36_1 h_8) h_8 fun v36 h_9 =>
        gopW (gB v32 true) (fun k_3 =>
          callW Try.prog 15 [v36, (.int .i64 3)] h_9 fun v37_1 h_11 =>
          k_3 v37_1 h_11) h_9 fun v37 h_10 =>
        gopW (gB v32 true) (fun k_4 =>
          optW (pBin Try.prog .eql 3 v37 (.int .i64 0)) fun v38_1 =>
          k_4 v38_1 h_10) h_10 fun v38 h_12 =>
        optW (pPick v32 v38 (.bool false)) fun v39 =>
  Q v32 v34 v35 v36 v37 v38 v39 h_12 := by
  refine w_eql ?_
  by_cases k : ((c.toNat : Nat) : Int) = 32
  · have hc : c = 32 := UInt8.toNat_inj.1 (by show c.toNat = 32; omega)
    refine g_tt k (g_tt k (g_tt k (w_addw (g_tt k (within15 _ _ _ _ (by decide) (by decide) (g_tt k (w_eql (pk_tt k ?_))))))))
    exact q _ _ _ _ _ _ _ fun _ => hc
  · refine g_tf k (g_tf k (g_tf k (g_tf k (g_tf k (pk_ff k ?_)))))
    exact q _ _ _ _ _ _ false fun h => by cases h
theorem post9 {c : UInt8} {i gap : Int} {h : AH} {Q : Value → Value → Value → Value → Value → Value → Value → Value → Value → Value → Value → AH → Prop} (hi : 0 ≤ i ∧ i ≤ 10000000) (q : ∀ x48 x50 x51 x52 x54 x55 x56 x57 x58 x59 (b : Bool), (b = true → low c = false) → Q x48 x50 x51 x52 x54 x55 x56 x57 x58 x59 (.bool b) h) :
          optW (pBin Try.prog .lss 5 (.int .u8 (c.toNat : Nat)) (.int .u8 97)) fun v48 =>
          gopW (gB v48 false) (fun k_5 =>
            k_5 (.int .u8 (c.toNat : Nat)) h) h fun v50 h_14 =>
          gopW (gB v48 false) (fun k_6 =>
            optW (pBin Try.prog .gtr 5 v50 (.int .u8 122)) fun v51_1 =>
            k_6 v51_1 h_14) h_14 fun v51 h_15 =>
          optW (pPick v48 (.bool true) v51) fun v52 =>
          gopW (gB v52 true) (fun k_7 =>
            k_7 (.int .i64 i) h_15) h_15 fun v54 h_16 =>
          gopW (gB v52 true) (fun k_8 =>
            optW (pBin Try.prog .mul 3 v54 (.int .i64 3)) fun v55_1 =>
            k_8 v55_1 h_16) h_16 fun v55 h_17 =>
          gopW (gB v52 true) (fun k_9 =>
            k_9 (.int .i64 gap) h_17) h_17 fun v56 h_18 =>
          gopW (gB v52 true) (fun k_10 =>
            optW (pBin Try.prog .add 3 v55 v56) fun v57_1 =>
            k_10 v57_1 h_18) h_18 fun v57 h_19 =>
          gopW (gB v52 true) (fun k_11 =>
            callW Try.prog 15 [v57, (.int .i64 4)] h_19 fun v58_1 h_21 =>
            k_11 v58_1 h_21) h_19 fun v58 h_20 =>
          gopW (gB v52 true) (fun k_12 =>
            optW (pBin Try.prog .eql 3 v58 (.int .i64 0)) fun v59_1 =>
            k_12 v59_1 h_20) h_20 fun v59 h_22 =>
          optW (pPick v52 v59 (.bool false)) fun v60 =>
  Q v48 v50 v51 v52 v54 v55 v56 v57 v58 v59 v60 h_22 := by
  refine w_lss ?_
  by_cases k : ((c.toNat : Nat) : Int) < 97
  · have hc : low c = false := decide_eq_false (by omega)
    refine g_ft k (g_ft k (pk_tt k (gc_tt (gc_tt (w_mul (by omega) (by omega) (gc_tt (gc_tt (w_addw (gc_tt (within15 _ _ _ _ (by decide) (by decide) (gc_tt (w_eql (pk_t ?_)))))))))))))
    exact q _ _ _ _ _ _ _ _ _ _ _ fun _ => hc
  · refine g_ff k (g_ff k (w_gtr (pk_ff k ?_)))
    by_cases k2 : (122 : Int) < ((c.toNat : Nat) : Int)
    · have hc : low c = false := decide_eq_false (by omega)
      refine g_tt k2 (g_tt k2 (w_mul (by omega) (by omega) (g_tt k2 (g_tt k2 (w_addw (g_tt k2 (within15 _ _ _ _ (by decide) (by decide) (g_tt k2 (w_eql (pk_tt k2 ?_))))))))))
      exact q _ _ _ _ _ _ _ _ _ _ _ fun _ => hc
    · refine g_tf k2 (g_tf k2 (g_tf k2 (g_tf k2 (g_tf k2 (g_tf k2 (pk_ff k2 ?_))))))
      exact q _ _ _ _ _ _ _ _ _ _ false fun h => by cases h
theorem byte1 {c : UInt8} {h : AH} {Q : List Value → Nat → Value → AH → Prop} (q : ∀ cs i h', Ex h h' → Q cs i (.string (bs [c])) h') :
    optW (bldSl 1 [(.int .u8 0)] 1 [(0, (.int .u8 (c.toNat : Nat)))]) fun cs => newW none (.row cs true) h fun i h' => optW (pBytesStr (.slice (some ⟨i, 0, none⟩) 1 1) h') fun v => Q cs i v h' := by
  refine w_some (bldSl_one (v := .int .u8 (c.toNat : Nat)) rfl (by decide) rfl rfl) ?_
  refine n_newv fun h1 x1 l1 g1 => ?_
  have sl : Sl 1 h1 (.slice (some ⟨h.length, 0, none⟩) 1 1) ([c] : W).length (flat eB [c]) := ⟨rfl, .inr ⟨h.length, 0, 1, rfl, .inl ⟨by decide, Nat.le_refl _⟩, .inr ⟨_, true, g1, Nat.le_refl _, rfl⟩⟩⟩
  exact w_bstr sl (Nat.succ_pos _) (q _ _ _ x1)
theorem bl_nz {t u : W} (h : Bl t u) : nz t → nz u := by
  induction h with
  | nil => exact id
  | @cons c t u pre post h1 h2 _ ih =>
    intro hz
    refine nz_app ?_ (fun x hx => ?_)
    · rcases h1 with rfl | ⟨rfl, _⟩
      · exact fun _ h => by cases h
      · unfold nz; decide
    · rcases List.mem_cons.1 hx with rfl | hx
      · exact hz _ (List.mem_cons_self ..)
      · rcases List.mem_append.1 hx with hx | hx
        · rcases h2 with rfl | ⟨rfl, _⟩
          · cases hx
          · have : nz [32, 32] := by unfold nz; decide
            exact this x hx
        · exact ih (fun y hy => hz y (List.mem_cons_of_mem _ hy)) x hx
theorem bl_len {t u : W} (h : Bl t u) : t.length ≤ u.length := by
  induction h with
  | nil => exact Nat.le_refl _
  | cons pre post h1 h2 _ ih => simp only [List.length_cons, List.length_append]; omega
set_option maxHeartbeats 1000000 in
theorem schemaBlanks_walk (h : AH) (size : Int) (_ : -9223372036854775808 ≤ size ∧ size ≤ 9223372036854775807) (v1 : Value) (ns : List Int) (i1 : Ints h v1 ns) (_ : ∀ n ∈ ns, -9223372036854775808 ≤ n ∧ n ≤ 9223372036854775807) (gap : Int) (_ : -9223372036854775808 ≤ gap ∧ gap ≤ 9223372036854775807) (hm : h.length = 1) :
    callW Try.prog 9 [.int .i64 size, v1, .int .i64 gap] h fun v _ => v = .bool true := by
  refine c9 ?_
  unfold s9
  refine known12 (.inr (.inl hm)) fun h1 x1 => w_notb (c_f ?_)
  refine make14 (d := 3) (i1.ex x1) (by decide) fun v19 h2 x2 sh => ?_
  have mk := make_ok size ns 3
  generalize make size ns 3 = x at *
  obtain ⟨a, c, cs, rfl, sl, on, el⟩ := id sh
  refine n_rowv fun h3 x3 l3 g3 => w_stPA g3 rfl (Nat.le_refl 2) rfl ?_
  have g4 : (h3.set h2.length (.row (spliceL [.string (bs []), .slice none 0 0] 0 (cellsL (.agg #[.string (bs x.1), .slice a x.2.length c]))) true))[h2.length]? = some (.row [.string (bs x.1), .slice a x.2.length c] true) := get_set _ (lt_of_get g3) _
  have x4 : Ex h2 (h3.set h2.length (.row (spliceL [.string (bs []), .slice none 0 0] 0 (cellsL (.agg #[.string (bs x.1), .slice a x.2.length c]))) true)) := x3.set (Nat.le_refl _) _
  generalize h3.set h2.length _ = h4 at *
  refine w_rdPA g4 (Nat.le_refl 2) ?_
  have hl := mk.len
  have p3 : (4 : Nat) ^ 3 = 64 := by decide
  have p4 : (4 : Nat) ^ (3 + 1) = 256 := by decide
  have gz : ∀ e ∈ x.2, okT e.2 = true ∧ sz e.2 ≤ 1000000 := fun e he => by
    obtain ⟨nm, g⟩ := mk.g e he
    have := g.s
    rw [p4] at this
    exact ⟨g.okt, by omega⟩
  have l5 := mk.l
  refine text13 (sh.ex x4) gz (by omega) (by omega) fun h5 x5 => ?_
  generalize ht : text x = t at *
  have g5 := x5.some g4
  refine loopE_intro (fun m e h' => ∃ (i : Nat) (u : W), i ≤ t.length ∧ m = t.length - i ∧ e 2 = .int .i64 gap ∧ e 7 = .pointer (some ⟨h2.length, 0, none⟩) ∧ e 8 = .string (bs t) ∧ e 9 = .string (bs u) ∧ e 10 = .int .i64 (i : Nat) ∧ Ex h5 h' ∧ Bl (t.take i) u ∧ u.length ≤ 4 * i) t.length
    ⟨0, [], Nat.zero_le _, rfl, rfl, rfl, rfl, rfl, rfl, Ex.refl _, .nil, Nat.le_refl _⟩ ?_
  rintro I m e h6 ⟨i, u, hi, hmm, f2, f7, f8, f9, f10, x6, bl, ul⟩ ih
  rw [f2, f7, f8, f9, f10]
  refine w_lenStr (w_lss (c_dec (fun q => ?_) (fun q => ?_)))
  · obtain ⟨b, hb⟩ := getElem?_of_lt (l := t) (i := i) (by omega)
    have et : t.take (i + 1) = t.take i ++ [b] := by rw [List.take_add_one, hb]; rfl
    refine w_idxStr (Int.natCast_nonneg i) (by rw [Int.toNat_natCast]; exact hb) ?_
    refine pre9 fun _ _ _ _ _ _ b1 hb1 => ?_
    have next : ∀ (pre post : W) (e' : Env) (h' : AH) (u' : W), u' = u ++ (pre ++ b :: post) → (pre = [] ∨ pre = [10] ∧ b = 32) → (post = [] ∨ post = [32, 32] ∧ low b = false) → e' 2 = .int .i64 gap → e' 7 = .pointer (some ⟨h2.length, 0, none⟩) → e' 8 = .string (bs t) → e' 9 = .string (bs u') → e' 10 = .int .i64 ((i : Int) + 1) → Ex h6 h' → I e' h' := by
      intro pre post e' h' u' eu hp1 hp2 g2 g7 g8 g9 g10 x7
      refine ih (t.length - (i + 1)) _ _ (by omega) ⟨i + 1, u', by omega, rfl, g2, g7, g8, g9, g10, x6.trans x7, ?_, ?_⟩
      · rw [et, eu]
        exact bl.snoc hp1 hp2
      · rw [eu]
        have q1 : pre.length ≤ 1 := by rcases hp1 with rfl | ⟨rfl, _⟩ <;> simp
        have q2 : post.length ≤ 2 := by rcases hp2 with rfl | ⟨rfl, _⟩ <;> simp
        simp only [List.length_append, List.length_cons]
        omega
    refine c_b (fun q1 => ?_) (fun q1 => ?_)
    · refine w_cat (by simp; omega) (byte1 fun _ _ h7 x7 => w_cat (by simp; omega) (post9 (by omega) fun _ _ _ _ _ _ _ _ _ _ b2 hb2 => c_b (fun q2 => ?_) (fun q2 => ?_)))
      · refine w_cat (by simp; omega) (w_add (by omega) (by omega) ?_)
        exact next [10] [32, 32] _ _ _ (by simp) (.inr ⟨rfl, hb1 q1⟩) (.inr ⟨rfl, hb2 q2⟩) f2 f7 f8 rfl rfl x7
      · refine w_add (by omega) (by omega) ?_
        exact next [10] [] _ _ _ (by simp) (.inr ⟨rfl, hb1 q1⟩) (.inl rfl) f2 f7 f8 rfl rfl x7
    · refine byte1 fun _ _ h7 x7 => w_cat (by simp; omega) (post9 (by omega) fun _ _ _ _ _ _ _ _ _ _ b2 hb2 => c_b (fun q2 => ?_) (fun q2 => ?_))
      · refine w_cat (by simp; omega) (w_add (by omega) (by omega) ?_)
        exact next [] [32, 32] _ _ _ (by simp) (.inl rfl) (.inr ⟨rfl, hb2 q2⟩) f2 f7 f8 rfl rfl x7
      · refine w_add (by omega) (by omega) ?_
        exact next [] [] _ _ _ (by simp) (.inl rfl) (.inl rfl) f2 f7 f8 rfl rfl x7
  · have ei : t.take i = t := List.take_of_length_le (by omega)
    rw [ei] at bl
    refine w_cat (by simp; omega) (w_cat (by simp; omega) ?_)
    have hs : ([10, 32] ++ u ++ [32] : W).length = u.length + 3 := by simp
    refine parse17 (by rw [hs]; omega) fun h7 v67 x7 r7 => ?_
    obtain ⟨root, a', l', c', ev, _⟩ := r7.shape
    have pr := r7
    rw [ev]
    refine w_some rfl (w_some rfl (w_some rfl ?_))
    refine n_rowv fun h8 x8 l8 g8 => w_stPA g8 rfl (Nat.le_refl 2) rfl ?_
    have g9 : (h8.set h7.length (.row (spliceL [.string (bs []), .slice none 0 0] 0 (cellsL (.agg #[.string (bs root), .slice a' l' c']))) true))[h7.length]? = some (.row [.string (bs root), .slice a' l' c'] true) := get_set _ (lt_of_get g8) _
    have x9 : Ex h7 (h8.set h7.length (.row (spliceL [.string (bs []), .slice none 0 0] 0 (cellsL (.agg #[.string (bs root), .slice a' l' c']))) true)) := x8.set (Nat.le_refl _) _
    generalize h8.set h7.length _ = h9 at *
    refine w_lenStr (w_gtr ?_)
    by_cases qu : (1990 : Int) < (u.length : Nat)
    · exact g_ft qu (g_ft qu (g_ft qu (gwu (gwu (g_ft qu (g_ft qu (gwu (gwu (gwu (g_ft qu (pk_tt qu rfl)))))))))))
    · have hz : nz ([10, 32] ++ u ++ [32]) := nz_app (nz_app (by unfold nz; decide) (bl_nz bl (by rw [← ht]; exact mk.z))) (by unfold nz; decide)
      have hlx : lx [] ([10, 32] ++ u ++ [32]) = tkX x := by
        rw [lx_end, lx_blanks [10, 32] u (by decide), lx_bl bl, ← ht, lx_text mk.ok]
      have htk := toks_of hz
      rw [hlx] at htk
      have bll := bl_len bl
      have ge := mk.ge
      rw [ht] at ge
      have hp : parse ([10, 32] ++ u ++ [32]) = .ok x 0 := by
        refine rd_parse mk.ok (by rw [hs]; omega) (fun e he => ?_) mk.nd (by omega) (by rw [hs]; omega) mk.kn htk
        obtain ⟨nm, g⟩ := mk.g e he
        have := g.dp
        rw [hs]
        omega
      rw [hp] at pr
      obtain ⟨pa, pc, pcs, pv, psl, pel⟩ := pr
      rw [hp] at ev
      rw [pv] at ev
      simp only [Value.tuple.injEq, Array.mk.injEq, List.cons.injEq, Value.agg.injEq, Value.string.injEq, Value.slice.injEq, bs_inj, and_true] at ev
      obtain ⟨⟨er, ea, el', ec⟩, _⟩ := ev
      subst er ea el' ec
      rw [hp]
      have x59 := x6.trans (x7.trans x9)
      refine g_ff qu (g_ff qu (w_eql (g_ff qu (g_tt rfl (g_tt rfl (w_eql (g_ff qu (pk_tt rfl (g_ff qu ?_)))))))))
      refine g_tt rfl (w_rdPA g9 (Nat.le_refl 2) (g_tt rfl (w_rdPA (x59.some g5) (Nat.le_refl 2) (g_tt rfl ?_))))
      have sm1 : SM h9 x (.agg #[.string (bs x.1), .slice pa x.2.length pc]) := SM.ex ⟨pa, pc, pcs, rfl, psl, EL.mono (fun j hj => ⟨rfl, hj.2⟩) _ _ pel⟩ x9
      have sm2 : SM h9 x (.agg #[.string (bs x.1), .slice a x.2.length c]) := sh.sm.ex (x4.trans (x5.trans x59))
      refine same19 sm1 sm2 (fun e he => (gz e he).2) (by omega) fun h10 x10 => ?_
      exact g_ff qu (pk_tt rfl (pk_ff qu rfl))
end Go.Proofs.Ytlenlhlipmkeeaa.W
end
