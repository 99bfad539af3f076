/- Parts of a proof, joined by a program. Conditions: none. -/
import Derived.Test.YtlenlhlipmkeeaaRA2
import Derived.Test.YtlenlhlipmkeeaaRS0
import Derived.Test.YtlenlhlipmkeeaaChecked
import Derived.Shelf.Strings.OnBuilder

section
/- The law's within. Conditions: none. -/
namespace Go.Proofs.Ytlenlhlipmkeeaa.W
open Go Go.AM
set_option maxRecDepth 100000
theorem within15 (a n : Int) (h : AH) (K : Value → AH → Prop) (h1 : 0 < n) (h2 : n ≤ 1152921504606846976)
   (k : K (.int .i64 (a % n)) h) : callW Try.prog 15 [.int .i64 a, .int .i64 n] h K := by
  obtain ⟨_, q1, q2, q3, q4⟩ := tmod_emod a n h1
  refine c15 ?_
  unfold s15
  refine w_tmod (by omega) ?_
  generalize hm : a.tmod n = m at *
  (repeat' (with_reducible first | refine w_lss ?_ | refine w_leq ?_ | refine w_gtr ?_ | refine w_geq ?_ | refine w_eql ?_ | refine w_neq ?_ | refine w_lenSl ?_ | refine w_lenStr ?_ | refine w_not ?_ | refine w_add (by omega) (by omega) ?_ | refine w_sub (by omega) (by omega) ?_ | refine w_rem (by omega) (by omega) ?_ | refine w_quo (by omega) (by omega) (by omega) ?_ | refine w_seql ?_ | refine w_sneq ?_ | refine c_t ?_ | refine c_f ?_ | refine c_tt (by first | assumption | omega) ?_ | refine c_ff (by first | assumption | omega) ?_ | refine c_dec (fun hc => ?_) (fun hc => ?_) | refine c_b (fun hc => ?_) (fun hc => ?_) | refine gc_tt ?_ | refine gc_ft ?_ | refine gc_tf ?_ | refine gc_ff ?_ | refine g_tt (by first | assumption | omega) ?_ | refine g_tf (by first | assumption | omega) ?_ | refine g_ft (by first | assumption | omega) ?_ | refine g_ff (by first | assumption | omega) ?_ | refine g_dec (fun hc => ?_) (fun hc => ?_) | refine g_decf (fun hc => ?_) (fun hc => ?_) | refine pk_t ?_ | refine pk_f ?_ | refine pk_tt (by first | assumption | omega) ?_ | refine pk_ff (by first | assumption | omega) ?_))
  · rw [q1 (by assumption)]; exact k
  · rw [q2 (by assumption)]; exact k
theorem within15_inv (a n : Int) (h : AH) (K : Value → AH → Prop) (h0 : 0 ≤ a) (h1 : a < n) (hc : callW Try.prog 15 [.int .i64 a, .int .i64 n] h K) : K (.int .i64 a) h := by
  have h2 := callW_body Try.func15 hc
  rw [e15] at h2
  unfold s15 at h2
  have e : pBin Try.prog .rem 3 (.int .i64 a) (.int .i64 n) = some (.int .i64 a) := by
    show (if IntKind.i64 = IntKind.i64 then pBinI .rem .i64 a n else none) = _
    rw [if_pos rfl, pBinI, if_neg (by omega), Int.tmod_eq_of_lt h0 h1]
  have e2 : pBin Try.prog .lss 3 (.int .i64 a) (.int .i64 0) = some (.bool false) := by
    show (if IntKind.i64 = IntKind.i64 then pBinI .lss .i64 a 0 else none) = _
    rw [if_pos rfl, pBinI, decide_eq_false (by omega)]
  rw [e, optW_some, e2, optW_some] at h2
  exact h2
end Go.Proofs.Ytlenlhlipmkeeaa.W
end

section
/- strings.Join of this program is the kit's. Conditions: none. -/
namespace Go.Proofs.Ytlenlhlipmkeeaa.W
open Go Go.AM Go.Proofs Go.Shelf
set_option maxRecDepth 100000
def jf : Nat → Nat := fun x => cond (Nat.beq x 156) 88 ( cond (Nat.beq x 165) 94 ( cond (Nat.beq x 166) 95 ( cond (Nat.beq x 169) 96 ( cond (Nat.beq x 240) 100 ( cond (Nat.beq x 241) 101 ( cond (Nat.beq x 276) 102 ( cond (Nat.beq x 277) 103 (x))))))))
def jt : Nat → Nat := fun x => cond (Nat.beq x 0) 0 ( cond (Nat.beq x 3) 3 ( cond (Nat.beq x 4) 4 ( cond (Nat.beq x 5) 5 ( cond (Nat.beq x 9) 9 ( cond (Nat.beq x 20) 20 ( cond (Nat.beq x 31) 30 ( cond (Nat.beq x 37) 54 ( cond (Nat.beq x 70) 131 ( cond (Nat.beq x 72) 133 ( cond (Nat.beq x 75) 136 ( cond (Nat.beq x 76) 137 ( cond (Nat.beq x 80) 75 ( cond (Nat.beq x 127) 140 ( cond (Nat.beq x 164) 141 (x)))))))))))))))
def ren : Ren := ⟨jf, jt, fun x => x⟩
theorem lays : Lays.n156 Try.prog ren where
  mixed := by kernel_rfl
  f156 := by kernel_rfl
  f165 := by kernel_rfl
  f166 := by kernel_rfl
  f169 := by kernel_rfl
  f240 := by kernel_rfl
  f241 := by kernel_rfl
  f276 := by kernel_rfl
  f277 := by kernel_rfl
  t0 := Try.underlying0
  a0 := Try.isAgg0
  z0 := Try.sizeOf0
  v0 := Try.zeroValue0
  t3 := Try.underlying3
  a3 := Try.isAgg3
  z3 := Try.sizeOf3
  v3 := Try.zeroValue3
  t4 := Try.underlying4
  a4 := Try.isAgg4
  z4 := Try.sizeOf4
  v4 := Try.zeroValue4
  t9 := Try.underlying9
  a9 := Try.isAgg9
  z9 := Try.sizeOf9
  v9 := Try.zeroValue9
  t20 := Try.underlying20
  a20 := Try.isAgg20
  z20 := Try.sizeOf20
  v20 := Try.zeroValue20
  t31 := Try.underlying30
  a31 := Try.isAgg30
  z31 := Try.sizeOf30
  v31 := Try.zeroValue30
  t37 := Try.underlying54
  a37 := Try.isAgg54
  z37 := Try.sizeOf54
  v37 := Try.zeroValue54
  t70 := Try.underlying131
  a70 := Try.isAgg131
  z70 := Try.sizeOf131
  v70 := Try.zeroValue131
  t72 := Try.underlying133
  a72 := Try.isAgg133
  z72 := Try.sizeOf133
  v72 := Try.zeroValue133
  t75 := Try.underlying136
  a75 := Try.isAgg136
  z75 := Try.sizeOf136
  v75 := Try.zeroValue136
  t76 := Try.underlying137
  a76 := Try.isAgg137
  z76 := Try.sizeOf137
  v76 := Try.zeroValue137
  t127 := Try.underlying140
  a127 := Try.isAgg140
  z127 := Try.sizeOf140
  v127 := Try.zeroValue140
  t164 := Try.underlying141
  a164 := Try.isAgg141
  z164 := Try.sizeOf141
  v164 := Try.zeroValue141
theorem extra : Builder.Extra Try.prog ren where
  sizeBuilder := by kernel_rfl
  liesBuilder := by kernel_rfl
  t5 := Try.underlying5
  a5 := Try.isAgg5
  z5 := Try.sizeOf5
  v5 := Try.zeroValue5
  infoByte := by kernel_rfl
  cellsByte := by kernel_rfl
  sizeByte := by kernel_rfl
  neB5 := by decide
theorem join88 : isJoin Try.prog 88 := ⟨ren, rfl, lays, extra⟩
end Go.Proofs.Ytlenlhlipmkeeaa.W
end

section
/- SchemaModels: what its runs may take. Conditions: none. -/
namespace Go.Proofs.Ytlenlhlipmkeeaa.W
open Go Go.AM
set_option maxRecDepth 100000
def six (L : List Nat) : List Value := L.map fun k => .int .i64 (Int.ofNat k)
def orcM (L : List Nat) : Orc := fun f args look => match orcJoin 88 f args look with
  | some outs => some outs
  | none => cond (Nat.beq f 15) (match args with
    | [.int .i64 (.ofNat 0), .int .i64 (.ofNat 6)] => some (six L)
    | _ => none) none
theorem orcM_ok {L : List Nat} (h0 : 0 ∈ L) : OrcOK Try.prog (orcM L) := fun f args outs h ho K hK => by
  unfold orcM at ho
  split at ho
  · rename_i o2 h2
    cases ho
    exact orcJoin_ok join88 f args _ h h2 K hK
  · rw [Tr.cond_beq] at ho
    split at ho
    · rename_i hf
      subst hf
      split at ho
      · cases ho
        exact within15 0 6 h K (by decide) (by decide) (hK _ (List.mem_map.2 ⟨0, h0, rfl⟩))
      · cases ho
    · cases ho
open Classical in
noncomputable def CallZ (L : List Nat) (a b i : Int) : CallT := fun f args h K => if f = 15 ∧ args = [.int .i64 a, .int .i64 ((15 : Nat) : Int)] then K (.int .i64 i) h else if f = 15 ∧ args = [.int .i64 b, .int .i64 6] then (∀ x ∈ six L, K x h) else callW Try.prog f args h K
theorem n15 {x y : Value} : ([x, .int .i64 6] : List Value) ≠ [y, .int .i64 ((15 : Nat) : Int)] := fun e => by injection e with _ e; injection e with e _; injection e with _ e; exact absurd e (by decide)
theorem CallZ_15 {L : List Nat} {a b i : Int} : CallZ L a b i 15 [.int .i64 a, .int .i64 ((15 : Nat) : Int)] = fun h K => K (.int .i64 i) h := by
  funext h K
  unfold CallZ
  rw [if_pos ⟨rfl, rfl⟩]
theorem CallZ_six {L : List Nat} {a b i : Int} : CallZ L a b i 15 [.int .i64 b, .int .i64 6] = fun h K => ∀ x ∈ six L, K x h := by
  funext h K
  unfold CallZ
  rw [if_neg (fun e => n15 e.2), if_pos ⟨rfl, rfl⟩]
theorem CallZ_ne {L : List Nat} {a b i : Int} {f : FuncId} {args : List Value} (hne : f ≠ 15) : CallZ L a b i f args = callW Try.prog f args := by
  funext h K
  unfold CallZ
  rw [if_neg (fun e => hne e.1), if_neg (fun e => hne e.1)]
theorem CallZ_mono {L : List Nat} {a b i : Int} (hai : a % ((15 : Nat) : Int) = i) (hb : (b % 6).toNat ∈ L) : XMono (CallZ L a b i) (callW Try.prog) := by
  intro f args h K K' hm hx
  unfold CallZ at hx
  split at hx
  · rename_i he
    rw [he.1, he.2]
    exact within15 a _ h K' (by decide) (by decide) (by rw [hai]; exact hm _ _ hx)
  · split at hx
    · rename_i he
      rw [he.1, he.2]
      refine within15 b 6 h K' (by decide) (by decide) (hm _ _ (hx _ ?_))
      have h0 := Int.emod_nonneg b (show (6 : Int) ≠ 0 by decide)
      refine List.mem_map.2 ⟨_, hb, ?_⟩
      show Value.int .i64 (((b % 6).toNat : Nat) : Int) = _
      rw [Int.toNat_of_nonneg h0]
    · exact callW_mono _ _ _ _ _ hm hx
theorem CallZ_xok {L : List Nat} (hL : 0 ∈ L) {fuel : Nat} {i : Int} (h0 : 0 ≤ i) (h1 : i < ((15 : Nat) : Int)) : ∀ d, XOK (callB Try.prog (orcM L) fuel d) (CallZ L i 0 i)
  | 0 => fun f args s k h K R hk hb => by cases hb
  | d + 1 => fun f args s k h K R hk hb => by
    unfold CallZ
    split
    · rename_i he
      obtain ⟨rfl, rfl⟩ := he
      have := callB_ok (orcM_ok hL) (d + 1) 15 _ s k h K R hk hb
      exact within15_inv i _ h K h0 h1 this
    · split
      · rename_i he
        obtain ⟨rfl, rfl⟩ := he
        simp only [callB] at hb
        have e : orcM L 15 [.int .i64 0, .int .i64 6] s.lookF = some (six L) := rfl
        rw [e] at hb
        exact fun x hx => hk _ _ _ R (List.all_eq_true.1 hb x hx)
      · exact callB_ok (orcM_ok hL) (d + 1) f args s k h K R hk hb
theorem runY {L : List Nat} (hL : 0 ∈ L) {d : Nat} {i : Int} (h0 : 0 ≤ i) (h1 : i < ((15 : Nat) : Int)) (hb : callB Try.prog (orcM L) 10000 (d + 1) 8 [.int .i64 i, .int .i64 0] hs0 (fun v _ => isTrueV v) = true) : s8 (CallZ L i 0 i) (.int .i64 i) (.int .i64 0) [] fun v _ => v = .bool true := by
  have e : orcM L 8 [.int .i64 i, .int .i64 0] hs0.lookF = none := rfl
  simp only [callB, e, Try.func8] at hb
  rw [← e8, cwp2_eq]
  split at hb
  · rename_i c hc hok
    simp only [Bool.and_eq_true] at hok
    have hnt := blt_lt hok.2
    have hlen : ([.int .i64 i, .int .i64 0] : List Value).length ≤ Try.f8.ntmps := of_decide_eq_true hok.1.2
    have hco : codeOK Try.f8.ntmps c = true := by
      have := hok.1.1
      unfold fnOK at this
      rw [hc, Bool.and_eq_true] at this
      exact this.2
    rw [hc]
    refine codeB_ok (CallZ_xok hL h0 h1 d) hnt c hco ?_ (teOf_rep (by omega)) hs0_rep hb
    intro x te e s h E R hh
    cases x with
    | normal =>
      simp only [endB, resListB_eq E R] at hh
      exact optB_ok hh fun v hv => isTrueV_eq hv
    | ret =>
      simp only [endB, resListB_eq E R] at hh
      exact optB_ok hh fun v hv => isTrueV_eq hv
    | _ => cases hh
  · cases hb
theorem callZ_of {L : List Nat} {a b i : Int} (hai : a % ((15 : Nat) : Int) = i) (hb : (b % 6).toNat ∈ L) {K : Value → AH → Prop} {h : AH} (hs : s8 (CallZ L a b i) (.int .i64 a) (.int .i64 b) h K) : callW Try.prog 8 [.int .i64 a, .int .i64 b] h K := by
  rw [← e8, cwp2_eq] at hs
  refine callW_of Try.func8 (by kernel_rfl) ?_
  rw [cwp2_eq]
  exact cwp_mono (CallZ_mono hai hb) _ (fun _ _ _ h => h) hs
theorem lenSl_lit (a : Option Addr) (n c : Nat) : lenSl (.slice a n c) = some (.int .i64 n) := rfl
theorem loop_env {F : (Env → AH → Prop) → Env → AH → Prop} {A : Env → Env → Prop} (hF : ∀ (I I' : Env → AH → Prop) e e' h, A e e' → (∀ e e' h, A e e' → I e h → I' e' h) → F I e h → F I' e' h) {e e' : Env} {h : AH} (hA : A e e') (hl : loopE F e h) : loopE F e' h := by
  intro I' hI'
  exact hl (fun e h => ∀ e', A e e' → I' e' h) (fun e h hk e' hA => hI' e' h (hF _ I' e e' h hA (fun e e' h hA hI => hI e' hA) hk)) e' hA
theorem condW_imp {v : Value} {A B A' B' : Prop} (ha : A → A') (hb : B → B') (hk : condW v A B) : condW v A' B' := by
  unfold condW at *
  split at hk
  · exact ha hk
  · exact hb hk
  · exact hk.elim
theorem appSl_mono {s : Nat} {b x : Value} {h : AH} {K K' : Value → AH → Prop} (hm : ∀ v h, K v h → K' v h) (hk : appSl s b x h K) : appSl s b x h K' := by
  unfold appSl at *
  split at hk
  · exact appS_mono hm hk
  · exact hk.elim
theorem newR_mono {slot : Option Nat} {c : List Value} {h : AH} {K K' : Value → AH → Prop} (hm : ∀ v h, K v h → K' v h) (hk : newR slot c h K) : newR slot c h K' := newW_mono (fun i h hk => hm _ _ hk) hk
def agr (e e' : Env) : Prop := ∀ x, x ≠ 0 → x ≠ 1 → x ≠ 17 → x ≠ 21 → e x = e' x
theorem agr.pt {e e' : Env} (a : agr e e') (k : Nat) (v : Value) : agr (pt e k v) (pt e' k v) := by
  intro x h0 h1 h2 h3
  unfold Go.AM.pt putE Env.set
  dsimp only
  cases Nat.beq x k
  · exact a x h0 h1 h2 h3
  · rfl
theorem agr.pt17 {e e' : Env} (a : agr e e') (v w : Value) : agr (Go.AM.pt e 17 v) (Go.AM.pt e' 17 w) := by
  intro x h0 h1 h2 h3
  unfold Go.AM.pt putE Env.set
  dsimp only
  have e0 : Nat.beq x 17 = false := by cases hb : Nat.beq x 17 with | false => rfl | true => exact absurd (Nat.eq_of_beq_eq_true hb) h2
  rw [e0]
  exact a x h0 h1 h2 h3
theorem agr.pt21 {e e' : Env} (a : agr e e') (v w : Value) : agr (Go.AM.pt e 21 v) (Go.AM.pt e' 21 w) := by
  intro x h0 h1 h2 h3
  unfold Go.AM.pt putE Env.set
  dsimp only
  have e0 : Nat.beq x 21 = false := by cases hb : Nat.beq x 21 with | false => rfl | true => exact absurd (Nat.eq_of_beq_eq_true hb) h3
  rw [e0]
  exact a x h0 h1 h2 h3
theorem agr.base {a b c d : Value} : agr (envOf [a, b]) (envOf [c, d]) := by
  intro x h0 h1 _ _
  obtain ⟨y, rfl⟩ : ∃ y, x = y + 2 := ⟨x - 2, by omega⟩
  rfl
theorem s8_Z {L : List Nat} {a b i c : Int} {h : AH} {K : Value → AH → Prop} (hs : s8 (CallZ L i c i) (.int .i64 i) (.int .i64 c) h K) : s8 (CallZ L a b i) (.int .i64 a) (.int .i64 b) h K := by
  unfold s8 at *
  simp only [lenSl_lit, optW_some, CallZ_15, CallZ_six, CallZ_ne (show (12 : Nat) ≠ 15 by decide), CallZ_ne (show (17 : Nat) ≠ 15 by decide), CallZ_ne (show (22 : Nat) ≠ 15 by decide)] at *
  refine callW_mono _ _ _ _ _ (fun v14 h1 hk => ?_) hs
  refine optW_mono (fun v15 hk => condW_imp id (fun hk => ?_) hk) hk
  refine optW_mono (fun c hk => newW_mono (fun j h2 hk x hx => ?_) hk) hk
  have hk := hk x hx
  refine optW_mono (fun v26 hk => optW_mono (fun v27 hk => optW_mono (fun v28 hk => optW_mono (fun v29 hk => ?_) hk) hk) hk) hk
  refine callW_mono _ _ _ _ _ (fun v30 h5 hk => ?_) hk
  refine optW_mono (fun v31 hk => optW_mono (fun v32 hk => optW_mono (fun v33 hk => ?_) hk) hk) hk
  refine newR_mono (fun v8 h6 hk => optW_mono (fun h7 hk => optW_mono (fun c1 hk => newW_mono (fun i1 h8 hk => ?_) hk) hk) hk) hk
  refine loop_env (A := agr) ?_ ?_ hk
  · intro I I' e e' h hA hI hk
    have h6 := hA 6 (by decide) (by decide) (by decide) (by decide)
    have h7 := hA 7 (by decide) (by decide) (by decide) (by decide)
    have h8 := hA 8 (by decide) (by decide) (by decide) (by decide)
    have h10 := hA 10 (by decide) (by decide) (by decide) (by decide)
    have h11 := hA 11 (by decide) (by decide) (by decide) (by decide)
    have h12 := hA 12 (by decide) (by decide) (by decide) (by decide)
    simp only [← h6, ← h7, ← h8, ← h10, ← h11, ← h12]
    refine optW_mono (fun v37 hk => condW_imp (fun hk => ?_) id hk) hk
    refine optW_mono (fun c2 hk => newW_mono (fun i2 h10 hk => appSl_mono (fun v42 h11 hk => optW_mono (fun v39 hk => hI _ _ _ ?_ hk) hk) hk) hk) hk
    repeat' first | exact hA | refine agr.pt ?_ _ _
  · repeat' first | exact agr.base | refine agr.pt17 ?_ _ _ | refine agr.pt21 ?_ _ _ | refine agr.pt ?_ _ _
theorem mod_at {L : List Nat} {d : Nat} {a i : Int} (b : Int) (hL : 0 ∈ L) (hbL : (b % 6).toNat ∈ L) (h0 : 0 ≤ i) (h1 : i < ((15 : Nat) : Int)) (hai : a % ((15 : Nat) : Int) = i) (hb : callB Try.prog (orcM L) 10000 (d + 1) 8 [.int .i64 i, .int .i64 0] hs0 (fun v _ => isTrueV v) = true) : callW Try.prog 8 [.int .i64 a, .int .i64 b] [] fun v _ => v = .bool true :=
  callZ_of hai hbL (s8_Z (runY hL h0 h1 hb))
end Go.Proofs.Ytlenlhlipmkeeaa.W
end
