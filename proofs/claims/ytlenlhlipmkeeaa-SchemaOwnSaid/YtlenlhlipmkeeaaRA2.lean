/- Parts of a proof, joined by a program. Conditions: none. -/
import Derived.Test.YtlenlhlipmkeeaaRA1
import Derived.Orders
import Derived.Test.YtlenlhlipmkeeaaRA0

section
/- The abstract machine: two neighbours of a region change places. Conditions: none. -/
namespace Go.AM
open Go
set_option linter.unusedSimpArgs false
set_option linter.unusedVariables false
variable {P : Program}
theorem opndT_same {e e' : Env} {x : Operand} (h : ∀ t ∈ opndT x, e t = e' t) : ev e x = ev e' x := by
  cases x with
  | tmp t => exact h t (by simp [opndT])
  | _ => rfl
theorem same_of_disj {ops : Array Oper} {o : Oper} {e : Env} {d : Option Nat} {v : Value} (hd : disj d.toList (readsT ops o) = true) : Same o e (putE e d v) ∧ gval ops o (putE e d v) = gval ops o e := by
  have hne : ∀ t ∈ readsT ops o, putE e d v t = e t := by
    intro t ht
    cases d with
    | none => rfl
    | some q =>
      have : q ≠ t := by
        intro e; subst e
        unfold disj at hd
        simp at hd
        exact hd ht
      show cond (Nat.beq t q) v (e t) = e t
      cases hb : Nat.beq t q with
      | false => rfl
      | true => exact absurd (Nat.eq_of_beq_eq_true hb).symm this
  constructor
  · intro x hx
    refine opndT_same fun t ht => (hne t ?_).symm
    unfold readsT
    exact List.mem_append_left _ (List.mem_flatMap.2 ⟨x, hx, ht⟩)
  · unfold gval
    cases hg : o.guard with
    | none => rfl
    | some jw =>
      obtain ⟨j, want⟩ := jw
      simp only
      cases hj : (ops[j]?).bind (·.dst) with
      | none => rfl
      | some t =>
        simp only
        rw [hne t (by unfold readsT; rw [hg]; simp only [hj]; simp)]
theorem put_comm {e : Env} {d d' : Option Nat} {u v : Value} (hd : disj d.toList d'.toList = true) : putE (putE e d u) d' v = putE (putE e d' v) d u := by
  cases d with
  | none => rfl
  | some a =>
    cases d' with
    | none => rfl
    | some b =>
      have hne : a ≠ b := by
        intro e; subst e
        simp [disj] at hd
      funext i
      simp only [putE, Env.set]
      cases h1 : Nat.beq i b with
      | false => rfl
      | true =>
        cases h2 : Nat.beq i a with
        | false => rfl
        | true => exact absurd ((Nat.eq_of_beq_eq_true h2).symm.trans (Nat.eq_of_beq_eq_true h1)) hne
def Kept (P : Program) (ops : Array Oper) (sl : List (Option Nat)) (l : List Nat) (h : AH) : Prop :=
  ∀ i ∈ l, ∀ o, ops[i]? = some o → clOf P o = .al → ∃ s, slotAt sl i = some s ∧ h[s]? = some .dead
variable {X : CallT} {ops : Array Oper} {b : Array Nat} {sl : List (Option Nat)} {Q : Env → AH → Prop}
theorem textD_cons {i : Nat} {l : List Nat} {o : Oper} (ho : ops[i]? = some o) {H : HT} {S : ST} {e : Env} {h : AH} :
    textD P X ops b sl (i :: l) H S e h Q = gopD (gval ops o e) (opD P X b sl i o H S e h) h H S fun v h' H' S' => textD P X ops b sl l H' S' (putE e o.dst v) h' Q := by
  simp only [textD, ho]
theorem ec_iff {i : Nat} {o : Oper} (hc : clOf P o = .eff ∨ clOf P o = .call) {H : HT} {S : ST} {e : Env} {h : AH} {K : Value → AH → HT → ST → Prop} :
    opD P X b sl i o H S e h K ↔ (clOf P o = .eff → ∀ y ∈ H, (free b y.1 i && Nat.blt y.1 i) = true → ∀ x ∈ touch P o e, vw x y.2.1 = vw x y.2.2) ∧
      opW P X none o e h fun v h' => (∀ y ∈ S, (free b y.1 i && Nat.blt y.1 i) = true → ∀ x ∈ y.2, vw x h = vw x h') ∧ K v h' ((i, h, h') :: H) S := by
  rcases hc with hc | hc <;> simp only [opD, hc, histC_iff, readC_iff]
  · constructor
    · rintro ⟨h1, h2⟩; exact ⟨fun _ => h1, h2⟩
    · rintro ⟨h1, h2⟩; exact ⟨h1 trivial, h2⟩
  · constructor
    · intro h2; exact ⟨fun hh => (by cases hh), h2⟩
    · rintro ⟨_, h2⟩; exact h2
theorem rd_iff {i : Nat} {o : Oper} {e : Env} {ov : AH → Option Value} (hc : clOf P o = .rd) (hr : RdSpec P o e ov) (H : HT) (S : ST) (h : AH) (K : Value → AH → HT → ST → Prop) :
    opD P X b sl i o H S e h K ↔ (∀ y ∈ H, (free b y.1 i && Nat.blt y.1 i) = true → ∀ x ∈ touch P o e, vw x y.2.1 = vw x y.2.2) ∧ optW (ov h) (fun v => K v h H ((i, touch P o e) :: S)) := by
  simp only [opD, hc, histC_iff, hr.iff]
theorem al_iff {i s : Nat} {o : Oper} {e : Env} {oo : Option AObj} {pt : Nat → Value} (hc : clOf P o = .al) (hs : slotAt sl i = some s) (hr : AlSpec P o e oo pt) (H : HT) (S : ST) (h : AH) (K : Value → AH → HT → ST → Prop) :
    opD P X b sl i o H S e h K ↔ optW oo (fun ob => K (pt s) (h.set s ob) ((i, h, h.set s ob) :: H) S) := by
  simp only [opD, hc, hs, hr.iff]
theorem swap {k i : Nat} {l : List Nat} {ok oi : Oper} (hX : XFrame X) (hm : XMono X X) (hst : XStrict X) (hok : ops[k]? = some ok) (hoi : ops[i]? = some oi) (hki : k < i) (hfr : free b k i = true) (hmay : mayFloat P ops ok oi = true)
    {H : HT} {S : ST} {e : Env} {h : AH} (hkept : Kept P ops sl [k, i] h) (hslots : ∀ s, slotAt sl k = some s → slotAt sl i ≠ some s) (ht : textD P X ops b sl (k :: i :: l) H S e h Q) : textD P X ops b sl (i :: k :: l) H S e h Q := by
  unfold mayFloat at hmay
  simp only [Bool.and_eq_true] at hmay
  obtain ⟨⟨⟨m1, m2⟩, m3⟩, m4⟩ := hmay
  have hnik : Nat.blt i k = false := by
    cases hb : Nat.blt i k with
    | false => rfl
    | true => have := Nat.le_of_ble_eq_true hb; omega
  have hbki : Nat.blt k i = true := Nat.ble_eq_true_of_le hki
  have sk : ∀ (e : Env) (v : Value), Same ok e (putE e oi.dst v) ∧ gval ops ok (putE e oi.dst v) = gval ops ok e := fun e v => same_of_disj m2
  have si : ∀ (e : Env) (u : Value), Same oi e (putE e ok.dst u) ∧ gval ops oi (putE e ok.dst u) = gval ops oi e := fun e u => same_of_disj m1
  have pc : ∀ (e : Env) (u v : Value), putE (putE e ok.dst u) oi.dst v = putE (putE e oi.dst v) ok.dst u := fun e u v => put_comm m3
  have back : ∀ {e : Env} {v : Value}, Same ok (putE e oi.dst v) e := fun x hx => ((sk _ _).1 x hx).symm
  have backi : ∀ {e : Env} {u : Value}, Same oi (putE e ok.dst u) e := fun x hx => ((si _ _).1 x hx).symm
  rw [textD_cons hok] at ht
  rw [textD_cons hoi]
  cases hgk : gval ops ok e with
  | false =>
    rw [hgk] at ht
    simp only [gopD] at ht
    rw [textD_cons hoi, (si e undef).2] at ht
    cases hgi : gval ops oi e with
    | false =>
      rw [hgi] at ht
      simp only [gopD] at ht ⊢
      rw [textD_cons hok, (sk e undef).2, hgk]
      simp only [gopD]
      rw [← pc]
      exact ht
    | true =>
      rw [hgi] at ht
      simp only [gopD] at ht ⊢
      refine opD_mono hm (fun v h' H' S' hh => ?_) (opD_same backi ht)
      rw [textD_cons hok, (sk e v).2, hgk]
      simp only [gopD]
      rw [← pc]
      exact hh
  | true =>
    rw [hgk] at ht
    simp only [gopD] at ht
    have ht : opD P X b sl k ok H S e h fun u h1 H1 S1 => gopD (gval ops oi e) (opD P X b sl i oi H1 S1 (putE e ok.dst u) h1) h1 H1 S1 fun v h2 H2 S2 => textD P X ops b sl l H2 S2 (putE (putE e ok.dst u) oi.dst v) h2 Q :=
      opD_mono hm (fun u h1 H1 S1 hh => by rw [textD_cons hoi, (si e u).2] at hh; exact hh) ht
    cases hgi : gval ops oi e with
    | false =>
      rw [hgi] at ht
      simp only [gopD] at ht ⊢
      rw [textD_cons hok, (sk e undef).2, hgk]
      simp only [gopD]
      refine opD_mono hm (fun u h' H' S' hh => ?_) (opD_same (sk e undef).1 ht)
      rw [← pc]
      exact hh
    | true =>
      rw [hgi] at ht
      simp only [gopD] at ht ⊢
      have goal : opD P X b sl i oi H S e h (fun v h1 H1 S1 => opD P X b sl k ok H1 S1 (putE e oi.dst v) h1 fun u h2 H2 S2 => textD P X ops b sl l H2 S2 (putE (putE e ok.dst u) oi.dst v) h2 Q) →
          opD P X b sl i oi H S e h fun v h' H' S' => textD P X ops b sl (k :: l) H' S' (putE e oi.dst v) h' Q := by
        refine opD_mono hm fun v h1 H1 S1 hh => ?_
        rw [textD_cons hok, (sk e v).2, hgk]
        simp only [gopD]
        exact opD_mono hm (fun u h2 H2 S2 hh => by rw [← pc]; exact hh) hh
      apply goal
      clear goal
      have ht : opD P X b sl k ok H S e h fun u h1 H1 S1 => opD P X b sl i oi H1 S1 e h1 fun v h2 H2 S2 => textD P X ops b sl l H2 S2 (putE (putE e ok.dst u) oi.dst v) h2 Q :=
        opD_mono hm (fun u h1 H1 S1 hh => opD_same backi hh) ht
      suffices hs : opD P X b sl i oi H S e h (fun v h1 H1 S1 => opD P X b sl k ok H1 S1 e h1 fun u h2 H2 S2 => textD P X ops b sl l H2 S2 (putE (putE e ok.dst u) oi.dst v) h2 Q) from
        opD_mono hm (fun v h1 H1 S1 hh => opD_same (sk e v).1 hh) hs
      have hkk : Nat → clOf P ok = .al → ∃ s, slotAt sl k = some s ∧ h[s]? = some .dead := fun _ hc => hkept k (by simp) ok hok hc
      have hki' : clOf P oi = .al → ∃ s, slotAt sl i = some s ∧ h[s]? = some .dead := fun hc => hkept i (by simp) oi hoi hc
      by_cases hpk : clOf P ok = .pure
      · obtain ⟨ov, hov⟩ := pure_spec hpk e
        have hik : ∀ (H : HT) (S : ST) (h : AH) (K : Value → AH → HT → ST → Prop), opD P X b sl k ok H S e h K ↔ optW ov (fun u => K u h H S) := fun H S h K => by simp only [opD, hpk, hov]
        obtain ⟨u, hu, ht⟩ := optW_elim ((hik _ _ _ _).1 ht)
        exact opD_mono hm (fun v h1 H1 S1 hh => (hik _ _ _ _).2 (by rw [hu]; exact hh)) ht
      cases hci : clOf P oi with
      | pure =>
        obtain ⟨ov, hov⟩ := pure_spec hci e
        have hii : ∀ (H : HT) (S : ST) (h : AH) (K : Value → AH → HT → ST → Prop), opD P X b sl i oi H S e h K ↔ optW ov (fun u => K u h H S) := fun H S h K => by simp only [opD, hci, hov]
        have ht := opD_mono hm (fun u h1 H1 S1 hh => (hii _ _ _ _).1 hh) ht
        obtain ⟨_, _, _, _, h2⟩ := opD_strict hst ht
        obtain ⟨v, hv, _⟩ := optW_elim h2
        subst hv
        exact (hii _ _ _ _).2 ht
      | bad =>
        obtain ⟨_, _, _, _, h2⟩ := opD_strict hst ht
        simp only [opD, hci] at h2
      | rd =>
        cases hck : clOf P ok with
        | pure => exact absurd hck hpk
        | bad => simp only [opD, hck] at ht
        | rd =>
          obtain ⟨ovk, hk⟩ := rd_spec hck e
          obtain ⟨ovi, hi⟩ := rd_spec hci e
          simp only [opD, hck, hci, histC_iff, hk.iff, hi.iff] at ht ⊢
          obtain ⟨c1, ht⟩ := ht
          obtain ⟨u, hu, c2, ht⟩ := optW_elim ht
          obtain ⟨v, hv, ht⟩ := optW_elim ht
          refine ⟨c2, ?_⟩
          rw [hv]
          refine ⟨c1, ?_⟩
          rw [hu]
          refine textD_le hm l (HLe.refl _) (fun y hy => ?_) ht
          rcases List.mem_cons.1 hy with rfl | hy
          · simp
          · rcases List.mem_cons.1 hy with rfl | hy
            · simp
            · simp [hy]
        | al =>
          obtain ⟨oo, pt, hal⟩ := al_spec hck e
          obtain ⟨ovi, hi⟩ := rd_spec hci e
          obtain ⟨s, hs, hd⟩ := hkk 0 hck
          simp only [opD, hck, hci, histC_iff, hs, hal.iff, hi.iff] at ht ⊢
          obtain ⟨ob, hob, ht⟩ := optW_elim ht
          obtain ⟨c2, ht⟩ := ht
          obtain ⟨v, hv, ht⟩ := optW_elim ht
          have heq := hi.loc h (h.set s ob) (fun x hx => c2 (k, h, h.set s ob) (by simp) (by simp [hfr, hbki]) x hx)
          refine ⟨fun y hy => c2 y (List.mem_cons_of_mem _ hy), ?_⟩
          rw [heq, hv, hob]
          exact ht
        | eff =>
          obtain ⟨ovi, hi⟩ := rd_spec hci e
          rw [ec_iff (.inl hck)] at ht
          obtain ⟨c1, ht⟩ := ht
          simp only [rd_iff hci hi] at ht ⊢
          obtain ⟨_, h1, _, c2, h2⟩ := opW_strict hst ht
          obtain ⟨v, hv, _⟩ := optW_elim h2
          have heq := hi.loc h h1 (fun x hx => c2 (k, h, h1) (by simp) (by simp [hfr, hbki]) x hx)
          refine ⟨fun y hy => c2 y (List.mem_cons_of_mem _ hy), ?_⟩
          rw [heq, hv]
          rw [optW_some, ec_iff (.inl hck)]
          refine ⟨c1, opW_mono hm (fun u h1' hh => ?_) ht⟩
          obtain ⟨d1, c2', h2'⟩ := hh
          have heq' := hi.loc h h1' (fun x hx => c2' (k, h, h1') (by simp) (by simp [hfr, hbki]) x hx)
          rw [← heq', heq, hv] at h2'
          refine ⟨fun y hy hc => ?_, h2'⟩
          rcases List.mem_cons.1 hy with rfl | hy
          · simp [hnik] at hc
          · exact d1 y hy hc
        | call =>
          obtain ⟨ovi, hi⟩ := rd_spec hci e
          rw [ec_iff (.inr hck)] at ht
          obtain ⟨c1, ht⟩ := ht
          simp only [rd_iff hci hi] at ht ⊢
          obtain ⟨_, h1, _, c2, h2⟩ := opW_strict hst ht
          obtain ⟨v, hv, _⟩ := optW_elim h2
          have heq := hi.loc h h1 (fun x hx => c2 (k, h, h1) (by simp) (by simp [hfr, hbki]) x hx)
          refine ⟨fun y hy => c2 y (List.mem_cons_of_mem _ hy), ?_⟩
          rw [heq, hv]
          rw [optW_some, ec_iff (.inr hck)]
          refine ⟨c1, opW_mono hm (fun u h1' hh => ?_) ht⟩
          obtain ⟨d1, c2', h2'⟩ := hh
          have heq' := hi.loc h h1' (fun x hx => c2' (k, h, h1') (by simp) (by simp [hfr, hbki]) x hx)
          rw [← heq', heq, hv] at h2'
          refine ⟨fun y hy hc => ?_, h2'⟩
          rcases List.mem_cons.1 hy with rfl | hy
          · simp [hnik] at hc
          · exact d1 y hy hc
      | al =>
        obtain ⟨s, hs, hd⟩ := hki' hci
        obtain ⟨oo, pt, hal⟩ := al_spec hci e
        have hlt := (List.getElem?_eq_some_iff.1 hd).1
        cases hck : clOf P ok with
        | pure => exact absurd hck hpk
        | bad => simp only [opD, hck] at ht
        | rd =>
          obtain ⟨ovk, hk⟩ := rd_spec hck e
          simp only [opD, hck, hci, histC_iff, hs, hal.iff, hk.iff] at ht ⊢
          obtain ⟨c1, ht⟩ := ht
          obtain ⟨u, hu, ht⟩ := optW_elim ht
          obtain ⟨ob, hob, ht⟩ := optW_elim ht
          have heq := hk.loc h (h.set s ob) (fun x hx => by
            obtain ⟨q, hq, hqd⟩ := hk.live h u hu x hx
            exact vw_eq (by rw [get_fill hd hq hqd, hq]))
          rw [hob]
          refine ⟨fun y hy hc => ?_, ?_⟩
          · rcases List.mem_cons.1 hy with rfl | hy
            · simp [hnik] at hc
            · exact c1 y hy hc
          · rw [← heq, hu]
            exact ht
        | al =>
          obtain ⟨s', hs', hd'⟩ := hkk 0 hck
          obtain ⟨oo', pt', hal'⟩ := al_spec hck e
          have hne : s' ≠ s := fun e => hslots s' hs' (by rw [hs, e])
          simp only [opD, hck, hci, hs, hs', hal.iff, hal'.iff] at ht ⊢
          obtain ⟨ob', hob', ht⟩ := optW_elim ht
          obtain ⟨ob, hob, ht⟩ := optW_elim ht
          rw [hob, hob']
          simp only [optW_some]
          have hcomm : (h.set s' ob').set s ob = (h.set s ob).set s' ob' := List.set_comm _ _ hne
          rw [hcomm] at ht
          refine textD_le hm l ?_ (SLe.refl _) ht
          intro y' hy'
          rcases List.mem_cons.1 hy' with rfl | hy'
          · refine ⟨(k, h, h.set s' ob'), by simp, rfl, fun x hx => ?_⟩
            simp only at hx ⊢
            rw [← hcomm]
            exact vw_same_len (by simp) hx
          · rcases List.mem_cons.1 hy' with rfl | hy'
            · refine ⟨(i, h.set s' ob', (h.set s ob).set s' ob'), by simp, rfl, fun x hx => ?_⟩
              simp only at hx ⊢
              by_cases ex : s = x.id
              · have ne : s' ≠ x.id := by rw [← ex]; exact hne
                rw [vw_other ne, vw_other ne] at hx
                exact hx
              · rw [vw_other ex]
            · exact ⟨y', by simp [hy'], rfl, fun _ h => h⟩
        | eff =>
          rw [ec_iff (.inl hck)] at ht
          obtain ⟨c1, ht⟩ := ht
          simp only [al_iff hci hs hal] at ht ⊢
          obtain ⟨_, _, _, h2⟩ := opW_strict hst ht
          obtain ⟨ob, hob, _⟩ := optW_elim h2
          subst hob
          rw [optW_some, ec_iff (.inl hck)]
          refine ⟨fun hc y hy hcc => ?_, opW_mono hm (fun u h1' hh => ?_) (opW_fr (ob := ob) hX hm hd (by simp) ht)⟩
          · rcases List.mem_cons.1 hy with rfl | hy
            · simp [hnik] at hcc
            · exact c1 hc y hy hcc
          · obtain ⟨h1, rfl, hd1, d1, ht1⟩ := hh
            have hlt1 := (List.getElem?_eq_some_iff.1 hd1).1
            refine ⟨fun y hy hc x hx => vw_same hlt hlt1 (d1 y hy hc x hx), ?_⟩
            rw [optW_some] at ht1
            refine textD_le hm l ?_ (SLe.refl _) ht1
            intro y' hy'
            rcases List.mem_cons.1 hy' with rfl | hy'
            · exact ⟨(k, h, h1), by simp, rfl, fun x hx => vw_same hlt hlt1 hx⟩
            · rcases List.mem_cons.1 hy' with rfl | hy'
              · refine ⟨(i, h1, h1.set s ob), by simp, rfl, fun x hx => ?_⟩
                exact vw_fill hd hd1 hx
              · exact ⟨y', by simp [hy'], rfl, fun _ h => h⟩
        | call =>
          rw [ec_iff (.inr hck)] at ht
          obtain ⟨c1, ht⟩ := ht
          simp only [al_iff hci hs hal] at ht ⊢
          obtain ⟨_, _, _, h2⟩ := opW_strict hst ht
          obtain ⟨ob, hob, _⟩ := optW_elim h2
          subst hob
          rw [optW_some, ec_iff (.inr hck)]
          refine ⟨fun hc y hy hcc => ?_, opW_mono hm (fun u h1' hh => ?_) (opW_fr (ob := ob) hX hm hd (by simp) ht)⟩
          · rcases List.mem_cons.1 hy with rfl | hy
            · simp [hnik] at hcc
            · exact c1 hc y hy hcc
          · obtain ⟨h1, rfl, hd1, d1, ht1⟩ := hh
            have hlt1 := (List.getElem?_eq_some_iff.1 hd1).1
            refine ⟨fun y hy hc x hx => vw_same hlt hlt1 (d1 y hy hc x hx), ?_⟩
            rw [optW_some] at ht1
            refine textD_le hm l ?_ (SLe.refl _) ht1
            intro y' hy'
            rcases List.mem_cons.1 hy' with rfl | hy'
            · exact ⟨(k, h, h1), by simp, rfl, fun x hx => vw_same hlt hlt1 hx⟩
            · rcases List.mem_cons.1 hy' with rfl | hy'
              · refine ⟨(i, h1, h1.set s ob), by simp, rfl, fun x hx => ?_⟩
                exact vw_fill hd hd1 hx
              · exact ⟨y', by simp [hy'], rfl, fun _ h => h⟩
      | eff =>
        cases hck : clOf P ok with
        | pure => exact absurd hck hpk
        | bad => simp only [opD, hck] at ht
        | rd =>
          obtain ⟨ovk, hk⟩ := rd_spec hck e
          simp only [rd_iff hck hk] at ht ⊢
          obtain ⟨c1, ht⟩ := ht
          obtain ⟨u, hu, ht⟩ := optW_elim ht
          rw [ec_iff (.inl hci)] at ht ⊢
          obtain ⟨c2, ht⟩ := ht
          refine ⟨c2, opW_mono hm (fun v h1 hh => ?_) ht⟩
          obtain ⟨d1, ht1⟩ := hh
          have heq := hk.loc h h1 (fun x hx => d1 (k, touch P ok e) (by simp) (by simp [hfr, hbki]) x hx)
          refine ⟨fun y hy => d1 y (List.mem_cons_of_mem _ hy), fun y hy hc => ?_, ?_⟩
          · rcases List.mem_cons.1 hy with rfl | hy
            · simp [hnik] at hc
            · exact c1 y hy hc
          · rw [← heq, hu]
            exact ht1
        | al =>
          obtain ⟨s, hs, hd⟩ := hkk 0 hck
          obtain ⟨oo, pt, hal⟩ := al_spec hck e
          obtain ⟨so, heff⟩ := eff_spec hci e
          simp only [opD, hck, hci, hs, hal.iff, heff.iff, histC_iff, readC_iff] at ht ⊢
          obtain ⟨ob, hob, c2, ht⟩ := optW_elim ht
          obtain ⟨h2, hh2, d2, ht⟩ := optW_elim ht
          obtain ⟨h', hso, rfl, hd'⟩ := heff.unfr h s ob h2 hd (hal.live ob hob) (fun x hx => c2 (k, h, h.set s ob) (by simp) (by simp [hfr, hbki]) x hx) hh2
          rw [hso, hob]
          refine ⟨fun y hy => c2 y (List.mem_cons_of_mem _ hy), ?_⟩
          have hun : ∀ x : Loc, vw x (h.set s ob) = vw x (h'.set s ob) → vw x h = vw x h' := by
            intro x hx
            by_cases ex : s = x.id
            · exact vw_eq (by rw [← ex, hd, hd'])
            · rwa [vw_other ex, vw_other ex] at hx
          refine ⟨fun y hy hc x hx => hun x (d2 y hy hc x hx), ?_⟩
          rw [optW_some]
          refine textD_le hm l ?_ (SLe.refl _) ht
          intro y' hy'
          rcases List.mem_cons.1 hy' with rfl | hy'
          · refine ⟨(k, h, h.set s ob), by simp, rfl, fun x hx => ?_⟩
            exact vw_fill hd' hd hx
          · rcases List.mem_cons.1 hy' with rfl | hy'
            · exact ⟨(i, h.set s ob, h'.set s ob), by simp, rfl, fun x hx => hun x hx⟩
            · exact ⟨y', by simp [hy'], rfl, fun _ h => h⟩
        | eff => simp [hck, hci] at m4
        | call => simp [hck, hci] at m4
      | call =>
        cases hck : clOf P ok with
        | pure => exact absurd hck hpk
        | bad => simp only [opD, hck] at ht
        | rd =>
          obtain ⟨ovk, hk⟩ := rd_spec hck e
          simp only [rd_iff hck hk] at ht ⊢
          obtain ⟨c1, ht⟩ := ht
          obtain ⟨u, hu, ht⟩ := optW_elim ht
          rw [ec_iff (.inr hci)] at ht ⊢
          obtain ⟨c2, ht⟩ := ht
          refine ⟨c2, opW_mono hm (fun v h1 hh => ?_) ht⟩
          obtain ⟨d1, ht1⟩ := hh
          have heq := hk.loc h h1 (fun x hx => d1 (k, touch P ok e) (by simp) (by simp [hfr, hbki]) x hx)
          refine ⟨fun y hy => d1 y (List.mem_cons_of_mem _ hy), fun y hy hc => ?_, ?_⟩
          · rcases List.mem_cons.1 hy with rfl | hy
            · simp [hnik] at hc
            · exact c1 y hy hc
          · rw [← heq, hu]
            exact ht1
        | al => simp [hck, hci] at m4
        | eff => simp [hck, hci] at m4
        | call => simp [hck, hci] at m4
end Go.AM
end

section
/- Each operation of the abstract machine is carried out by Go's model. Conditions: none. -/
namespace Go.AM
open Go
set_option linter.unusedSimpArgs false
variable {P : Program} {β : Bj} {h : AH} {w : World}
def EnvR (β : Bj) (e : Env) (a : Act) : Prop := ∀ i, VR β (e i) (a.tmps.getD i undef)
theorem EnvR.mono {β β' : Bj} {e : Env} {a : Act} (hb : BLe β β') (h : EnvR β e a) : EnvR β' e a := fun i => (h i).mono hb
theorem ev_R {e : Env} {a : Act} (E : EnvR β e a) {x : Operand} (hx : opndOK x = true) : VR β (ev e x) (a.eval x) := by
  cases x with
  | tmp t => exact E t
  | const v => exact .ofPure hx
  | global g => cases hx
  | func f => exact .func _ rfl rfl (fun i hi => by simp at hi) (fun i hi => by simp at hi)
theorem put_R {e : Env} {a : Act} (E : EnvR β e a) {d : Option Nat} {v v' : Value} (hv : VR β v v') (hd : ∀ t, d = some t → t < a.tmps.size) : EnvR β (putE e d v) (a.put d v') := by
  intro i
  cases d with
  | none => exact E i
  | some t =>
    have ht := hd t rfl
    simp only [putE, Env.set, Act.put]
    cases hb : Nat.beq i t with
    | true =>
      have : i = t := Nat.eq_of_beq_eq_true hb
      subst this
      simp only [cond_true, agetD]
      rw [Array.getElem?_setIfInBounds_self_of_lt ht]
      exact hv
    | false =>
      have : i ≠ t := fun e => by subst e; simp at hb
      simp only [cond_false, agetD]
      rw [Array.getElem?_setIfInBounds_ne (Ne.symm this), ← agetD]
      exact E i
def ListR (β : Bj) (l : List Value) (a : Array Value) : Prop := a.size = l.length ∧ ∀ i, i < l.length → VR β (l.getD i undef) (a.getD i undef)
def XSim (P : Program) (X : CallT) : Prop := ∀ f args h K, X f args h K → (∃ fn c, P.funcs[f]? = some fn ∧ fn.body = some c ∧ (fn.name == "runtime.NumGoroutine") = false) ∧
  ∀ β (args' : Array Value) w, ListR β args args' → Rel β h w → Calls P f args' w fun en w' => ∃ v v' β' h', en = .returned v' ∧ K v h' ∧ VR β' v v' ∧ Rel β' h' w' ∧ Ext (fun id => id < h.length) β h w β' h' w'
theorem parts_R {e : Env} {a : Act} (E : EnvR β e a) : ∀ (ps : List (Nat × Operand)), (∀ p ∈ ps, opndOK p.2 = true) → PartsR β (evParts e ps) (ps.map fun p => (p.1, a.eval p.2))
  | [], _ => trivial
  | p :: ps, h => ⟨rfl, ev_R E (h p (by simp)), parts_R E ps fun q hq => h q (by simp [hq])⟩
theorem list_R {e : Env} {a : Act} (E : EnvR β e a) : ∀ (xs : List Operand), (∀ x ∈ xs, opndOK x = true) → ∀ i, i < (xs.map (ev e)).length → VR β ((xs.map (ev e)).getD i undef) ((xs.map a.eval).getD i undef)
  | [], _, i, hi => by simp at hi
  | x :: xs, h, 0, _ => ev_R E (h x (by simp))
  | x :: xs, h, i + 1, hi => list_R E xs (fun q hq => h q (by simp [hq])) i (by simpa using hi)
theorem opt_R {e : Env} {a : Act} (E : EnvR β e a) (x : Option Operand) (hx : ∀ y, x = some y → opndOK y = true) : OptR β (x.map (ev e)) (x.map a.eval) := by
  cases x with
  | none => trivial
  | some y => exact ev_R E (hx y rfl)
theorem fin_value {o : Oper} {a : Act} {next : Act → World → Prop} {Q : Exit → Act → World → Prop} {v' : Value} {w' : World} (hr : (execOp a.eval o).run P w = .ok (.value v') w') (hn : next (a.put o.dst v') w') : o.wp P a w next Q := by
  unfold Oper.wp
  rw [hr]
  exact hn
theorem fin_skip {o : Oper} {a : Act} {next : Act → World → Prop} {Q : Exit → Act → World → Prop} {w' : World} (hr : (execOp a.eval o).run P w = .ok .skip w') (hn : next (a.put o.dst undef) w') : o.wp P a w next Q := by
  unfold Oper.wp
  rw [hr]
  exact hn
end Go.AM
end

section
/- Every operation of the abstract machine is carried out by Go's model. Conditions: none. -/
namespace Go.AM
open Go
set_option linter.unusedSimpArgs false
variable {P : Program} {β : Bj} {h : AH} {w : World}
theorem SimV.next {D : Nat → Prop} {K : Value → AH → Prop} {v' : Value} {w' : World} {o : Oper} {a : Act} {next : Act → World → Prop} (hs : SimV D β h w K v' w')
    (hnext : ∀ v v' β' h' w', K v h' → VR β' v v' → Rel β' h' w' → Ext D β h w β' h' w' → next (a.put o.dst v') w') : next (a.put o.dst v') w' := by
  obtain ⟨v, h', β', k1, k2, k3, k4⟩ := hs
  exact hnext v v' β' h' w' k1 k2 k3 k4
theorem conv_sim {D : Nat → Prop} {s d : TypeId} {x x' : Value} {slot : Option Nat} {K : Value → AH → Prop} (hK : convW P s d x slot h K) (hx : VR β x x') (R : Rel β h w) (hs : SlotOK D β h slot) :
    ∃ v' w', (convert s d x').run P w = .ok v' w' ∧ SimV D β h w K v' w' := by
  unfold convW at hK
  split at hK
  · rename_i e h1 h2
    split at hK
    · rename_i b h3
      cases hx
      obtain ⟨v', w', hr, hv⟩ := sim_strBytes (P := P) (e := e) hK R hs
      exact ⟨v', w', by simp [convert, run_underlying h1, run_underlying h2, run_underlying h3, hr], hv⟩
    · exact hK.elim
  · rename_i e h1 h2
    split at hK
    · rename_i h3
      obtain ⟨v, hv, hk⟩ := optW_elim hK
      obtain ⟨v', hr, hvr⟩ := sim_bytesStr (P := P) hv hx R
      refine ⟨v', w, ?_, v, h, β, hk, hvr, R, Ext.refl _ _ _ _⟩
      have hx2 : ∃ a l c, x' = .slice a l c := by
        unfold pBytesStr at hv
        split at hv
        · cases hx <;> exact ⟨_, _, _, rfl⟩
        · cases hx <;> exact ⟨_, _, _, rfl⟩
        · cases hv
      obtain ⟨a, l, c, rfl⟩ := hx2
      simp [convert, run_underlying h1, run_underlying h2, run_underlying h3, hr]
    · exact hK.elim
  · rename_i e0 e h1 h2
    split at hK
    · rename_i id off len cap h3 hsd
      split at hK
      · rename_i c hrow
        exact hK.elim
      · exact hK.elim
    · exact hK.elim
  · obtain ⟨v, hv, hk⟩ := optW_elim hK
    obtain ⟨v', hr, hvr⟩ := sim_conv w hv hx
    exact ⟨v', w, hr, v, h, β, hk, hvr, R, Ext.refl _ _ _ _⟩
theorem append_R {l m : List Value} {x y : Array Value} (h1 : ListR β l x) (h2 : ListR β m y) : ListR β (l ++ m) (x ++ y) := by
  refine ⟨by simp [h1.1, h2.1], fun i hi => ?_⟩
  rw [lgetD, agetD]
  by_cases hl : i < l.length
  · rw [List.getElem?_append_left hl, Array.getElem?_append_left (by rw [h1.1]; exact hl), ← lgetD, ← agetD]
    exact h1.2 i hl
  · rw [List.getElem?_append_right (by omega), Array.getElem?_append_right (by rw [h1.1]; omega), ← lgetD, ← agetD, h1.1]
    exact h2.2 _ (by simp at hi; omega)
theorem arr_R {a a' : Array Value} (hs : a.size = a'.size) (hh : ∀ i, i < a.size → VR β (a.getD i undef) (a'.getD i undef)) : ListR β a.toList a' := by
  refine ⟨by simp [hs], fun i hi => ?_⟩
  rw [toList_getD]
  exact hh i (by simpa using hi)
theorem args_R {e : Env} {a : Act} (E : EnvR β e a) (xs : Array Operand) (hx : ∀ x ∈ xs.toList, opndOK x = true) : ListR β (xs.toList.map (ev e)) (xs.map a.eval) := by
  refine ⟨by simp, fun i hi => ?_⟩
  have := list_R E xs.toList hx i hi
  rw [← toList_getD (xs.map a.eval), Array.toList_map]
  exact this
theorem op_sim {D : Nat → Prop} {X : CallT} {slot : Option Nat} {o : Oper} {e : Env} {K : Value → AH → Prop} {a : Act} {next : Act → World → Prop} {Q : Exit → Act → World → Prop} (hX : XSim P X) (hok : ∀ x ∈ o.op.operands.toList, opndOK x = true)
    (hK : opW P X slot o e h K) (E : EnvR β e a) (R : Rel β h w) (hs : SlotOK D β h slot)
    (hnext : ∀ v v' β' h' w', K v h' → VR β' v v' → Rel β' h' w' → Ext D β h w β' h' w' → next (a.put o.dst v') w') : o.wp P a w next Q := by
  have here : ∀ {v v' : Value}, K v h → VR β v v' → next (a.put o.dst v') w := fun k hv => hnext _ _ β h w k hv R (Ext.refl _ _ _ _)
  obtain ⟨dst, op, ty, pos, after, guard⟩ := o
  unfold opW at hK
  cases op with
  | move x => exact fin_value (by simp [execOp]) (here hK (ev_R E (hok x (by simp [Op.operands]))))
  | assign x => exact fin_value (by simp [execOp]) (here hK (ev_R E (hok x (by simp [Op.operands]))))
  | pick c x y =>
    obtain ⟨v, hv, hk⟩ := optW_elim hK
    obtain ⟨v', hr, hvr⟩ := sim_pick (P := P) w hv (ev_R E (hok c (by simp [Op.operands]))) (ev_R E (hok x (by simp [Op.operands]))) (ev_R E (hok y (by simp [Op.operands])))
    exact fin_value (by simpa [execOp] using hr) (here hk hvr)
  | alloc t =>
    obtain ⟨v', w', hr, hsv⟩ := sim_alloc (P := P) hK R hs
    exact fin_value (by simp [execOp, hr]) (hsv.next hnext)
  | box t x =>
    obtain ⟨v', w', hr, hsv⟩ := sim_box (P := P) (t := t) hK (ev_R E (hok x (by simp [Op.operands]))) R hs
    exact fin_value (by simp [execOp, hr]) (hsv.next hnext)
  | build t ps =>
    obtain ⟨v, hv, hk⟩ := optW_elim hK
    obtain ⟨v', hr, hvr⟩ := sim_build (P := P) w (qs := ps.map fun p => (p.1, a.eval p.2)) hv (by
      rw [Array.toList_map]
      exact parts_R E ps.toList fun p hp => hok p.2 (by simp [Op.operands]; exact ⟨p.1, by simpa using hp⟩))
    exact fin_value (by simp [execOp, hr]) (here hk hvr)
  | buildSlice t n ps =>
    obtain ⟨v', w', hr, hsv⟩ := sim_buildSlice (P := P) (qs := ps.map fun p => (p.1, a.eval p.2)) hK (by
      rw [Array.toList_map]
      exact parts_R E ps.toList fun p hp => hok p.2 (by simp [Op.operands]; exact ⟨p.1, by simpa using hp⟩)) R hs
    exact fin_value (by simp [execOp, hr]) (hsv.next hnext)
  | load t x =>
    obtain ⟨v, hv, hk⟩ := optW_elim hK
    obtain ⟨v', hr, hvr⟩ := sim_load (P := P) hv R (ev_R E (hok x (by simp [Op.operands])))
    exact fin_value (by simp [execOp, hr]) (here hk hvr)
  | store t x y =>
    obtain ⟨h', hv, hk⟩ := optW_elim hK
    obtain ⟨w', hr, R', E'⟩ := sim_store (P := P) hv R (ev_R E (hok x (by simp [Op.operands]))) (ev_R E (hok y (by simp [Op.operands])))
    exact fin_skip (by simp [execOp, hr]) (hnext _ _ β h' w' hk (VR.undef β) R' E')
  | nilCheck x =>
    obtain ⟨v, hv, hk⟩ := optW_elim hK
    have hx := ev_R E (hok x (by simp [Op.operands]))
    unfold pNilCheck at hv
    split at hv
    · rename_i ad hev
      obtain rfl := Option.some.inj hv
      rw [hev] at hx
      cases hx' : a.eval x with
      | pointer q =>
        rw [hx'] at hx
        cases q with
        | none => cases hx
        | some q => exact fin_value (v' := .pointer (some q)) (by simp [execOp, hx']) (here hk hx)
      | _ => rw [hx'] at hx; cases hx
    · cases hv
  | binOp op t x y yt =>
    obtain ⟨v, hv, hk⟩ := optW_elim hK
    obtain ⟨v', hr, hvr⟩ := sim_bin (P := P) w x y hv (ev_R E (hok x (by simp [Op.operands]))) (ev_R E (hok y (by simp [Op.operands])))
    refine fin_value (v' := v') ?_ (here hk hvr)
    simp only [execOp]
    rw [Sem.run_bind, hr]
    rfl
  | unOp op t x =>
    obtain ⟨v, hv, hk⟩ := optW_elim hK
    obtain ⟨v', hr, hvr⟩ := sim_un (P := P) w hv (ev_R E (hok x (by simp [Op.operands])))
    exact fin_value (by simp [execOp, hr]) (here hk hvr)
  | convert s d x =>
    obtain ⟨v', w', hr, hsv⟩ := conv_sim (P := P) hK (ev_R E (hok x (by simp [Op.operands]))) R hs
    exact fin_value (by simp [execOp, hr]) (hsv.next hnext)
  | makeFunc fn x y =>
    refine fin_value (v' := .func fn (x.map a.eval) (y.map a.eval)) (by simp [execOp, Instr.makeFunc]) (here hK (.func fn (by simp) (by simp) (fun i hi => ?_) (fun i hi => ?_)))
    · have hi' : i < x.size := by simpa using hi
      have := ev_R E (hok x[i] (by simp [Op.operands]))
      simpa [Array.getD, hi'] using this
    · have hi' : i < y.size := by simpa using hi
      have := ev_R E (hok y[i] (by simp [Op.operands]))
      simpa [Array.getD, hi'] using this
  | makeMap t r =>
    cases r with
    | none =>
      obtain ⟨v', w', hr, hsv⟩ := sim_makeMap (P := P) (t := t) hK R hs
      exact fin_value (by simp [execOp, hr]) (hsv.next hnext)
    | some r => exact hK.elim
  | makeSlice t l c =>
    obtain ⟨v', w', hr, hsv⟩ := sim_makeSlice (P := P) hK (ev_R E (hok l (by simp [Op.operands]))) (ev_R E (hok c (by simp [Op.operands]))) R hs
    exact fin_value (by simp [execOp, hr]) (hsv.next hnext)
  | slice t x lo hi mx =>
    obtain ⟨v, hv, hk⟩ := optW_elim hK
    obtain ⟨v', hr, hvr⟩ := sim_slice (P := P) w hv (ev_R E (hok x (by simp [Op.operands]))) (opt_R E lo fun y hy => hok y (by simp [Op.operands, hy])) (opt_R E hi fun y hy => hok y (by simp [Op.operands, hy])) (opt_R E mx fun y hy => hok y (by simp [Op.operands, hy]))
    exact fin_value (by simp [execOp, hr]) (here hk hvr)
  | fieldAddr s x f =>
    obtain ⟨v, hv, hk⟩ := optW_elim hK
    obtain ⟨v', hr, hvr⟩ := sim_fieldAddr (P := P) w hv (ev_R E (hok x (by simp [Op.operands])))
    exact fin_value (by simp [execOp, hr]) (here hk hvr)
  | field t x f =>
    obtain ⟨v, hv, hk⟩ := optW_elim hK
    obtain ⟨v', hr, hvr⟩ := sim_field (P := P) w hv (ev_R E (hok x (by simp [Op.operands])))
    exact fin_value (by simp [execOp, hr]) (here hk hvr)
  | indexAddr t x i =>
    obtain ⟨v, hv, hk⟩ := optW_elim hK
    obtain ⟨v', hr, hvr⟩ := sim_indexAddr (P := P) w hv (ev_R E (hok x (by simp [Op.operands]))) (ev_R E (hok i (by simp [Op.operands])))
    exact fin_value (by simp [execOp, hr]) (here hk hvr)
  | index t x i =>
    obtain ⟨v, hv, hk⟩ := optW_elim hK
    obtain ⟨v', hr, hvr⟩ := sim_index (P := P) w hv (ev_R E (hok x (by simp [Op.operands]))) (ev_R E (hok i (by simp [Op.operands])))
    exact fin_value (by simp [execOp, hr]) (here hk hvr)
  | lookup t x i ok =>
    obtain ⟨v, hv, hk⟩ := optW_elim hK
    obtain ⟨v', hr, hvr⟩ := sim_look (P := P) hv R (ev_R E (hok x (by simp [Op.operands]))) (ev_R E (hok i (by simp [Op.operands])))
    exact fin_value (by simp [execOp, hr]) (here hk hvr)
  | mapUpdate t m k v =>
    obtain ⟨h', hv, hk⟩ := optW_elim hK
    obtain ⟨w', hr, R', E'⟩ := sim_mapU (P := P) hv R (ev_R E (hok m (by simp [Op.operands]))) (ev_R E (hok k (by simp [Op.operands]))) (ev_R E (hok v (by simp [Op.operands])))
    exact fin_skip (by simp [execOp, hr]) (hnext _ _ β h' w' hk (VR.undef β) R' E')
  | range t x =>
    obtain ⟨v', w', hr, hsv⟩ := sim_range (P := P) hK (ev_R E (hok x (by simp [Op.operands]))) R hs
    exact fin_value (by simp [execOp, hr]) (hsv.next hnext)
  | next it s =>
    obtain ⟨v', w', hr, hsv⟩ := sim_next (P := P) (ty := ty) (D := D) hK (ev_R E (hok it (by simp [Op.operands]))) R
    exact fin_value (by simp [execOp, hr]) (hsv.next hnext)
  | entry it =>
    obtain ⟨v, hv, hk⟩ := optW_elim hK
    obtain ⟨v', hr, hvr⟩ := sim_entry (P := P) hv (ev_R E (hok it (by simp [Op.operands]))) R
    exact fin_value (by simp [execOp, hr]) (here hk hvr)
  | extract t i =>
    obtain ⟨v, hv, hk⟩ := optW_elim hK
    obtain ⟨v', hr, hvr⟩ := sim_extract (P := P) w hv (ev_R E (hok t (by simp [Op.operands])))
    exact fin_value (by simp [execOp, hr]) (here hk hvr)
  | call c =>
    obtain ⟨callee, args, argTypes⟩ := c
    simp only at hK
    unfold callOpW at hK
    cases callee with
    | invoke r m => exact hK.elim
    | builtin b =>
      simp only at hK
      have hokc : ∀ x ∈ args.toList, opndOK x = true := fun x hx => hok x (by simp [Op.operands, Call.operands]; simpa using hx)
      split at hK
      · rename_i x t ts hargs htypes
        obtain ⟨v, hv, hk⟩ := optW_elim hK
        have ha : args = #[x] := by apply Array.ext'; simpa using hargs
        subst ha
        have hxR := ev_R E (hokc x (by simp))
        have ht0 : argTypes[0]? = some t := by rw [← Array.getElem?_toList, htypes]; rfl
        have hlen : ∃ v', (Builtin.len_ argTypes ty #[a.eval x]).run P w = .ok v' w ∧ VR β v v' := by
          unfold lenW at hv
          split at hv
          · rename_i kt et ht
            exact sim_lenMap (P := P) ht0 ht hv R hxR
          · exact sim_len w ht0 hv hxR
        obtain ⟨v', hr, hvr⟩ := hlen
        exact fin_value (v' := v') (by simp [execOp, resolve, invoke, builtin, hr]) (here hk hvr)
      · rename_i x y t u hargs htypes
        have ha : args = #[x, y] := by apply Array.ext'; simpa using hargs
        have ht : argTypes = #[t, u] := by apply Array.ext'; simpa using htypes
        subst ha ht
        have hxR := ev_R E (hokc x (by simp))
        have hyR := ev_R E (hokc y (by simp))
        have happ : ∃ v' w', (Builtin.append_ #[t, u] ty #[a.eval x, a.eval y]).run P w = .ok v' w' ∧ SimV D β h w K v' w' := by
          unfold aAppend at hK
          simp only at hK
          split at hK
          · rename_i el el2 q1 q2 q3 h1 h2 h3
            split at hK
            · rename_i i z hi hz
              split at hK
              · rename_i hc
                exact sim_appS h1 hi hz hc.1 hc.2.1 hc.2.2 (fun b hb => by rw [h3] at hb; cases hb) (fun _ _ _ _ => ⟨_, h2⟩) hK hxR hyR R hs.1
              · exact hK.elim
            · exact hK.elim
          · rename_i el q1 h1 h2 h3
            split at hK
            · rename_i i z hi hz
              split at hK
              · rename_i hc
                exact sim_appS h1 hi hz hc.1 hc.2.1 hc.2.2 (fun _ _ => h2) (fun a l c hb => by rw [h3] at hb; cases hb) hK hxR hyR R hs.1
              · exact hK.elim
            · exact hK.elim
          · rename_i el kk n h1 h2 h3
            split at hK
            · rename_i i z hi hz
              split at hK
              · rename_i hc
                rw [h3] at hyR
                have := hyR.int_inv
                rw [this]
                exact sim_appZ h1 h2 hi hz hc.1 hc.2.1 hc.2.2 hK hxR R hs.1
              · exact hK.elim
            · exact hK.elim
          · exact hK.elim
        obtain ⟨v', w', hr, hsv⟩ := happ
        exact fin_value (v' := v') (by simp [execOp, resolve, invoke, builtin, hr]) (hsv.next hnext)
      · rename_i _ x y hargs
        have ha : args = #[x, y] := by apply Array.ext'; simpa using hargs
        subst ha
        obtain ⟨v, hv, hk⟩ := optW_elim hK
        obtain ⟨v', hr, hvr⟩ := sim_max2 (P := P) w hv (ev_R E (hokc x (by simp))) (ev_R E (hokc y (by simp)))
        simp only [if_true] at hr
        exact fin_value (v' := v') (by simp [execOp, resolve, invoke, builtin, Builtin.max_, hr]) (here hk hvr)
      · rename_i _ x y hargs
        have ha : args = #[x, y] := by apply Array.ext'; simpa using hargs
        subst ha
        obtain ⟨v, hv, hk⟩ := optW_elim hK
        obtain ⟨v', hr, hvr⟩ := sim_max2 (P := P) w hv (ev_R E (hokc x (by simp))) (ev_R E (hokc y (by simp)))
        simp only [Bool.false_eq_true, if_false] at hr
        exact fin_value (v' := v') (by simp [execOp, resolve, invoke, builtin, Builtin.min_, hr]) (here hk hvr)
      · rename_i x t ts hargs htypes
        obtain ⟨v, hv, hk⟩ := optW_elim hK
        have ha : args = #[x] := by apply Array.ext'; simpa using hargs
        subst ha
        have hxR := ev_R E (hokc x (by simp))
        have ht0 : argTypes[0]? = some t := by rw [← Array.getElem?_toList, htypes]; rfl
        obtain ⟨v', hr, hvr⟩ := sim_cap (P := P) (w := w) (ty := ty) ht0 hv hxR
        exact fin_value (v' := v') (by simp [execOp, resolve, invoke, builtin, hr]) (here hk hvr)
      · exact hK.elim
    | value f =>
      simp only at hK
      have hokc : ∀ x ∈ args.toList, opndOK x = true := fun x hx => hok x (by simp [Op.operands, Call.operands]; right; simpa using hx)
      have hfR := ev_R E (hok f (by simp [Op.operands, Call.operands]))
      split at hK
      · rename_i g fa fb hev
        rw [hev] at hfR
        cases hfv : a.eval f with
        | func fn fa' fb' =>
          rw [hfv] at hfR
          cases hfR with
          | func _ ha hb h1 h2 =>
            obtain ⟨⟨fn, cc, hfn, hbody, hname⟩, hcall⟩ := hX _ _ _ _ hK
            have hL := append_R (append_R (arr_R ha h1) (args_R E args hokc)) (arr_R hb h2)
            have hC := hcall β _ w hL R
            have hrun : (execOp a.eval { dst := dst, op := Op.call { callee := Callee.value f, args := args, argTypes := argTypes }, type := ty, pos := pos, after := after, guard := guard }).run P w = .ok (.enter g (fa' ++ args.map a.eval ++ fb')) w := by
              have hn2 : ¬ fn.name = "runtime.NumGoroutine" := by simpa using hname
              simp [execOp, resolve, Deferred.ofValue, hfv, invoke, callFunc, hfn, hbody, hn2]
            unfold Oper.wp
            rw [hrun]
            show Calls P g _ w _
            refine hC.mono ?_
            rintro en w' ⟨v, v', β', h', rfl, k1, k2, k3, k4⟩
            exact hnext v v' β' h' w' k1 k2 k3 (k4.mono hs.1)
        | _ => rw [hfv] at hfR; cases hfR
      · exact hK.elim
  | _ => exact hK.elim
end Go.AM
end

section
/- Regions in any order and code of the abstract machine are carried out by Go's model. Conditions: none. -/
namespace Go.AM
open Go
set_option linter.unusedSimpArgs false
variable {P : Program}
def SlotsOK (D : Nat → Prop) (slotOf : Nat → Option Nat) (l : List Nat) (β : Bj) (h : AH) : Prop :=
  (∀ id, D id → id < h.length) ∧ (∀ i ∈ l, ∀ r, slotOf i = some r → h[r]? = some .dead ∧ β r = none ∧ ¬ D r) ∧ l.Pairwise fun i j => ∀ r, slotOf i = some r → slotOf j ≠ some r
theorem guard_R {β : Bj} {e : Env} {a : Act} (E : EnvR β e a) (ops : Array Oper) (o : Oper) : Region.wanted o (yielded ops a.tmps) = gval ops o e := by
  unfold Region.wanted gval
  cases hg : o.guard with
  | none => rfl
  | some jw =>
    obtain ⟨j, want⟩ := jw
    simp only
    unfold yielded
    cases hd : (ops[j]?).bind (·.dst) with
    | none => simp
    | some t =>
      simp only [Option.bind_some]
      have ht := E t
      rw [agetD] at ht
      unfold gB
      cases hv : a.tmps[t]? with
      | none =>
        rw [hv] at ht
        simp only [Option.getD_none] at ht
        have : ∀ b, e t ≠ .bool b := by
          intro b hb
          rw [hb] at ht
          cases ht
        cases he : e t <;> first | exact absurd he (this _) | simp
      | some v =>
        rw [hv] at ht
        simp only [Option.getD_some] at ht
        cases he : e t <;> (rw [he] at ht; cases ht) <;> simp
theorem put_size (a : Act) (d : Option Tmp) (v : Value) : (a.put d v).tmps.size = a.tmps.size := by
  cases d <;> simp [Act.put]
theorem put_defers (a : Act) (d : Option Tmp) (v : Value) : (a.put d v).defers = a.defers := by
  cases d <;> rfl
theorem operOK_dst {nt : Nat} {o : Oper} (h : operOK nt o = true) : (∀ x ∈ o.op.operands.toList, opndOK x = true) ∧ ∀ t, o.dst = some t → t < nt := by
  unfold operOK at h
  rw [Bool.and_eq_true] at h
  refine ⟨List.all_eq_true.1 h.1, fun t ht => ?_⟩
  have h2 := h.2
  rw [ht] at h2
  simpa using h2
theorem ord_sim {X : CallT} (hX : XSim P X) {ops : Array Oper} {nt : Nat} (hops : ∀ o ∈ ops.toList, operOK nt o = true) {slotOf : Nat → Option Nat} {D : Nat → Prop} {Q : Env → AH → Prop} {QC : Exit → Act → World → Prop} :
    ∀ (l : List Nat) {β : Bj} {e : Env} {h : AH} {a : Act} {w : World}, ordW P X ops slotOf l e h Q → EnvR β e a → a.tmps.size = nt → Rel β h w → SlotsOK D slotOf l β h →
      (∀ e' h' β' a' w', Q e' h' → EnvR β' e' a' → a'.tmps.size = nt → a'.defers = a.defers → Rel β' h' w' → Ext D β h w β' h' w' → QC .normal a' w') → wpOps P ops QC l a w
  | [], β, e, h, a, w, hQ, E, hsz, R, hs, hfin => by
    exact hfin e h β a w hQ E hsz rfl R (Ext.refl _ _ _ _)
  | i :: l, β, e, h, a, w, hQ, E, hsz, R, hs, hfin => by
    have hs' : SlotsOK D slotOf l β h := ⟨hs.1, fun j hj => hs.2.1 j (List.mem_cons_of_mem _ hj), (List.pairwise_cons.1 hs.2.2).2⟩
    simp only [ordW] at hQ
    simp only [wpOps]
    cases ho : ops[i]? with
    | none =>
      rw [ho] at hQ
      exact ord_sim hX hops l hQ E hsz R hs' hfin
    | some o =>
      rw [ho] at hQ
      simp only at hQ ⊢
      have hok := operOK_dst (hops o (by simpa using Array.mem_of_getElem? ho))
      rw [guard_R E]
      cases hg : gval ops o e with
      | false =>
        rw [hg] at hQ
        simp only [gopW] at hQ
        simp only [Bool.false_eq_true, if_false]
        exact ord_sim hX hops l hQ (put_R E (VR.undef β) fun t ht => by rw [hsz]; exact hok.2 t ht) (by rw [put_size]; exact hsz) R hs' fun e' h' β' a' w' q1 q2 q3 q4 => hfin e' h' β' a' w' q1 q2 q3 (by rw [q4, put_defers])
      | true =>
        rw [hg] at hQ
        simp only [gopW] at hQ
        simp only [if_true]
        left
        refine op_sim (D := fun id => id < h.length ∧ slotOf i ≠ some id) hX hok.1 hQ E R ⟨fun id hd => hd.1, fun r hr => ?_⟩ ?_
        · obtain ⟨h1, h2, h3⟩ := hs.2.1 i (by simp) r hr
          exact ⟨h1, h2, fun hd => hd.2 hr⟩
        · intro v v' β' h' w' hK hv R' E'
          have hsub : ∀ id, D id → id < h.length ∧ slotOf i ≠ some id := fun id hd => ⟨hs.1 id hd, fun hi => (hs.2.1 i (by simp) id hi).2.2 hd⟩
          refine ord_sim hX hops l hK (put_R (E.mono E'.ble) hv fun t ht => by rw [hsz]; exact hok.2 t ht) (by rw [put_size]; exact hsz) R' ⟨fun id hd => Nat.lt_of_lt_of_le (hs.1 id hd) E'.len, fun j hj r hr => ?_, hs'.2.2⟩ ?_
          · obtain ⟨h1, h2, h3⟩ := hs.2.1 j (List.mem_cons_of_mem _ hj) r hr
            have hlt := (List.getElem?_eq_some_iff.1 h1).1
            have hne : slotOf i ≠ some r := fun hi => (List.pairwise_cons.1 hs.2.2).1 j hj r hi hr
            refine ⟨by rw [E'.afr r ⟨hlt, hne⟩ h2]; exact h1, ?_, h3⟩
            cases hb : β' r with
            | none => rfl
            | some p => exact absurd h2 (E'.dom r ⟨hlt, hne⟩ (by rw [hb]; simp))
          · intro e2 h2 β2 a2 w2 q1 q2 q3 q4 q5 q6
            exact hfin e2 h2 β2 a2 w2 q1 q2 q3 (by rw [q4, put_defers]) q5 ((E'.mono hsub).trans q6)
def DrawAll (P : Program) (X : CallT) : Prop := ∀ (ops : Array Oper) (e : Env) (h : AH) (Q : Env → AH → Prop) (t : Nat), regW P X ops true e h Q →
  ordW P X ops (slotAt (slots P ops.toList h.length)) (Region.schedule (P.follows .mixedOrders) ops t) e (reserve (countAl P ops.toList) h) Q ∧ (Region.schedule (P.follows .mixedOrders) ops t).Nodup
theorem reserve_eq : ∀ (n : Nat) (h : AH), reserve n h = h ++ List.replicate n .dead
  | 0, h => by simp [reserve]
  | n + 1, h => by rw [reserve, reserve_eq n]; simp [List.replicate_succ]
theorem reserve_R {β : Bj} {h : AH} {w : World} (R : Rel β h w) (n : Nat) : Rel β (reserve n h) w ∧ Ext (fun id => id < h.length) β h w β (reserve n h) w := by
  have hget : ∀ {j p}, β j = some p → (reserve n h)[j]? = h[j]? := fun hj => by rw [reserve_eq, List.getElem?_append_left (R.lt hj)]
  refine ⟨⟨fun hj => ?_, fun hj ho => R.obj hj (by rwa [hget hj] at ho), fun hij hi hj li lj hr => R.sep hij hi hj (by rwa [hget hi] at li) (by rwa [hget hj] at lj) (by rwa [hget hi, hget hj] at hr)⟩, ?_⟩
  · rw [reserve_eq, List.length_append]
    exact Nat.lt_of_lt_of_le (R.lt hj) (Nat.le_add_right _ _)
  · refine ⟨.refl β, fun _ _ hd => hd, by rw [reserve_eq]; simp, fun id hid _ => by rw [reserve_eq, List.getElem?_append_left hid], Nat.le_refl _, rfl, rfl, rfl, fun _ _ _ => rfl, ?_⟩
    rintro b ⟨j, p, hj, rfl, l1, l2⟩
    rw [hget hj] at l1 l2
    exact .inl ⟨j, p, hj, rfl, l1, l2⟩
theorem slots_spec (P : Program) : ∀ (l : List Oper) (n i r : Nat), slotAt (slots P l n) i = some r → n ≤ r ∧ r < n + countAl P l ∧ ∀ j, slotAt (slots P l n) j = some r → j = i
  | [], n, i, r, h => by simp [slots, slotAt] at h
  | o :: l, n, i, r, h => by
    unfold slots at h ⊢
    unfold countAl
    cases hc : clOf P o with
    | al =>
      rw [hc] at h
      simp only at h ⊢
      cases i with
      | zero =>
        simp [slotAt] at h
        subst h
        refine ⟨Nat.le_refl _, by omega, fun j hj => ?_⟩
        cases j with
        | zero => rfl
        | succ j =>
          have := slots_spec P l (n + 1) j n (by simpa [slotAt] using hj)
          omega
      | succ i =>
        have := slots_spec P l (n + 1) i r (by simpa [slotAt] using h)
        refine ⟨by omega, by omega, fun j hj => ?_⟩
        cases j with
        | zero =>
          simp [slotAt] at hj
          omega
        | succ j => rw [this.2.2 j (by simpa [slotAt] using hj)]
    | _ =>
      rw [hc] at h
      simp only at h ⊢
      cases i with
      | zero => simp [slotAt] at h
      | succ i =>
        have := slots_spec P l n i r (by simpa [slotAt] using h)
        refine ⟨by omega, by omega, fun j hj => ?_⟩
        cases j with
        | zero => simp [slotAt] at hj
        | succ j => rw [this.2.2 j (by simpa [slotAt] using hj)]
theorem reg_sim {X : CallT} (hX : XSim P X) (hD : DrawAll P X) {ops : Array Oper} {nt : Nat} (hops : ∀ o ∈ ops.toList, operOK nt o = true) {id : Nat} {draw : Bool} {Q : Env → AH → Prop} {QC : Exit → Act → World → Prop} {β : Bj} {e : Env} {h : AH} {a : Act} {w : World}
    (hQ : regW P X ops draw e h Q) (E : EnvR β e a) (hsz : a.tmps.size = nt) (R : Rel β h w)
    (hfin : ∀ e' h' β' a' w', Q e' h' → EnvR β' e' a' → a'.tmps.size = nt → a'.defers = a.defers → Rel β' h' w' → Ext (fun id => id < h.length) β h w β' h' w' → QC .normal a' w') : (Code.region id ops draw).wp P QC a w := by
  cases draw with
  | false =>
    refine wp_region (ord_sim (D := fun id => id < h.length) hX hops _ hQ E hsz R ⟨fun _ h => h, (fun _ _ _ h => by cases h), ?_⟩ hfin)
    rw [List.pairwise_iff_forall_sublist]
    intro _ _ _ r hr
    cases hr
  | true =>
    refine wp_region_draw fun t => ?_
    obtain ⟨hord, hnd⟩ := hD ops e h Q t hQ
    obtain ⟨R1, E1⟩ := reserve_R R (countAl P ops.toList)
    have R2 : Rel β (reserve (countAl P ops.toList) h) { w with drawn := w.drawn + 1 } := R1.heap rfl
    refine ord_sim (D := fun id => id < h.length) hX hops _ hord E hsz R2 ⟨fun id hid => by rw [reserve_eq, List.length_append]; omega, fun i hi r hr => ?_, ?_⟩ ?_
    · have hsp := slots_spec P ops.toList h.length i r hr
      refine ⟨?_, ?_, by omega⟩
      · rw [reserve_eq, List.getElem?_append_right hsp.1, List.getElem?_replicate]
        rw [if_pos (by omega)]
      · cases hb : β r with
        | none => rfl
        | some p => have := R.lt hb; omega
    · refine hnd.imp ?_
      intro i j hij r hi hj
      exact hij ((slots_spec P ops.toList h.length j r hj).2.2 i hi)
    · intro e' h' β' a' w' q1 q2 q3 q4 q5 q6
      refine hfin e' h' β' a' w' q1 q2 q3 q4 q5 (E1.trans ?_)
      exact { ble := q6.ble, dom := q6.dom, len := q6.len, afr := q6.afr, size := q6.size, tape := q6.tape, os := q6.os, out := q6.out, cfr := q6.cfr, wb := q6.wb }
end Go.AM
end

section
/- Code and calls of the abstract machine are carried out by Go's model. Conditions: none. -/
namespace Go.AM
open Go
set_option linter.unusedSimpArgs false
variable {P : Program}
structure At (D : Nat → Prop) (nt : Nat) (ds : List Deferred) (β0 : Bj) (h0 : AH) (w0 : World) (e : Env) (h : AH) (β : Bj) (a : Act) (w : World) : Prop where
  env : EnvR β e a
  size : a.tmps.size = nt
  defers : a.defers = ds
  rel : Rel β h w
  ext : Ext D β0 h0 w0 β h w
def Sat (D : Nat → Prop) (nt : Nat) (ds : List Deferred) (β0 : Bj) (h0 : AH) (w0 : World) (Q : Exit → Env → AH → Prop) (QC : Exit → Act → World → Prop) : Prop :=
  ∀ x e h β a w, Q x e h → At D nt ds β0 h0 w0 e h β a w → QC x a w
theorem code_sim {X : CallT} (hX : XSim P X) (hD : DrawAll P X) {nt : Nat} {D : Nat → Prop} {ds : List Deferred} {β0 : Bj} {h0 : AH} {w0 : World} (hl : ∀ id, D id → id < h0.length) : ∀ (c : Code) {Q : Exit → Env → AH → Prop} {QC : Exit → Act → World → Prop} {e : Env} {h : AH} {β : Bj} {a : Act} {w : World},
    codeOK nt c = true → cwp P X c Q e h → At D nt ds β0 h0 w0 e h β a w → Sat D nt ds β0 h0 w0 Q QC → c.wp P QC a w
  | .skip, Q, QC, e, h, β, a, w, _, hQ, A, hs => wp_skip (hs _ _ _ _ _ _ hQ A)
  | .region id ops draw, Q, QC, e, h, β, a, w, hok, hQ, A, hs => by
    refine reg_sim hX hD (List.all_eq_true.1 hok) hQ A.env A.size A.rel fun e' h' β' a' w' q1 q2 q3 q4 q5 q6 => hs _ _ _ _ _ _ q1 ⟨q2, q3, q4.trans A.defers, q5, A.ext.trans (q6.mono fun id hd => Nat.lt_of_lt_of_le (hl id hd) A.ext.len)⟩
  | .seq x y, Q, QC, e, h, β, a, w, hok, hQ, A, hs => by
    simp only [codeOK, Bool.and_eq_true] at hok
    refine wp_seq (code_sim hX hD hl x (Q := thenW (cwp P X y Q) Q) hok.1 hQ A ?_)
    intro en e1 h1 β1 a1 w1 hq A1
    cases en with
    | normal => exact code_sim hX hD hl y hok.2 hq A1 hs
    | _ => exact hs _ _ _ _ _ _ hq A1
  | .cond c x y, Q, QC, e, h, β, a, w, hok, hQ, A, hs => by
    simp only [codeOK, Bool.and_eq_true] at hok
    simp only [cwp] at hQ
    have hc := ev_R A.env hok.1.1
    unfold condW at hQ
    split at hQ
    · rename_i hev
      rw [hev] at hc
      have : a.eval c = .bool true := by cases hv : a.eval c <;> rw [hv] at hc <;> cases hc; rfl
      exact wp_cond_true this (code_sim hX hD hl x hok.1.2 hQ A hs)
    · rename_i hev
      rw [hev] at hc
      have : a.eval c = .bool false := by cases hv : a.eval c <;> rw [hv] at hc <;> cases hc; rfl
      exact wp_cond_false this (code_sim hX hD hl y hok.2 hQ A hs)
    · exact hQ.elim
  | .block id c, Q, QC, e, h, β, a, w, hok, hQ, A, hs => by
    refine wp_block (code_sim hX hD hl c (Q := blockW id Q) hok hQ A ?_)
    intro en e1 h1 β1 a1 w1 hq A1
    cases en with
    | exit id' =>
      simp only [blockW] at hq
      simp only [Exit.inBlock]
      cases hb : Nat.beq id' id with
      | true =>
        rw [hb] at hq
        rw [if_pos (Nat.eq_of_beq_eq_true hb)]
        exact hs _ _ _ _ _ _ hq A1
      | false =>
        rw [hb] at hq
        rw [if_neg (fun e => by subst e; simp at hb)]
        exact hs _ _ _ _ _ _ hq A1
    | _ => exact hs _ _ _ _ _ _ hq A1
  | .loop c, Q, QC, e, h, β, a, w, hok, hQ, A, hs => by
    have head := hQ (fun e h => ∀ β a w, At D nt ds β0 h0 w0 e h β a w → ∀ b k cs, ∃ en a' w', QC en a' w' ∧ Arrives P (lone (b.at a (.code c :: .inLoop c :: k)) cs w) b k cs en a' w') ?_
    · intro b k cs
      obtain ⟨en, a', w', hq, harr⟩ := head β a w A b k cs
      exact ⟨en, a', w', hq, .of_steps (.one step_loop) harr⟩
    · intro e1 h1 hB β1 a1 w1 A1 b k cs
      have := code_sim hX hD hl c (QC := Exit.then (fun a2 w2 => ∃ en a' w', QC en a' w' ∧ Arrives P (lone (b.at a2 (.code c :: .inLoop c :: k)) cs w2) b k cs en a' w') QC) hok hB A1 (by
        intro en e2 h2 β2 a2 w2 hq A2
        cases en with
        | normal => exact hq β2 a2 w2 A2 b k cs
        | _ => exact hs _ _ _ _ _ _ hq A2)
      obtain ⟨en, a2, w2, hq, harr⟩ := this b (.inLoop c :: k) cs
      cases en with
      | normal =>
        obtain ⟨en, a', w', hq', harr'⟩ := hq
        exact ⟨en, a', w', hq', .of_steps (Steps.trans harr (.one step_inLoop)) harr'⟩
      | exit id => exact ⟨_, a2, w2, hq, .pass (x := .inLoop c) rfl (fun _ _ => .inl (by simp)) harr⟩
      | goto l => exact ⟨_, a2, w2, hq, .pass (x := .inLoop c) rfl (fun _ _ => .inl (by simp)) harr⟩
      | ret => exact ⟨_, a2, w2, hq, .pass (x := .inLoop c) rfl (fun _ _ => .inl (by simp)) harr⟩
      | panic ch => exact ⟨_, a2, w2, hq, .pass (x := .inLoop c) rfl (fun _ _ => .inl (by simp)) harr⟩
      | outgrown => exact ⟨_, a2, w2, hq, .pass (x := .inLoop c) rfl (fun _ _ => .inl (by simp)) harr⟩
  | .exit id, Q, QC, e, h, β, a, w, _, hQ, A, hs => wp_exit (hs _ _ _ _ _ _ hQ A)
  | .ret, Q, QC, e, h, β, a, w, _, hQ, A, hs => wp_ret (hs _ _ _ _ _ _ hQ A)
  | .rangeFunc .., _, _, _, _, _, _, _, _, hQ, _, _ => hQ.elim
  | .scope _, _, _, _, _, _, _, _, _, hQ, _, _ => hQ.elim
  | .label _, _, _, _, _, _, _, _, _, hQ, _, _ => hQ.elim
  | .goto _, _, _, _, _, _, _, _, _, hQ, _, _ => hQ.elim
  | .refuse _, _, _, _, _, _, _, _, _, hQ, _, _ => hQ.elim
def resC (tmps : Array Value) (r : ResultVar) : Sem Value :=
  match r with
  | .tmp t => pure (tmps.getD t undef)
  | .cell x t => do loadVar t (← asAddr (tmps.getD x undef))
theorem results_eq (fn : Func) (tmps : Array Value) : results fn tmps = (do let vs ← fn.results.mapM (resC tmps); pure (if h : vs.size = 1 then vs[0] else .tuple vs)) := by
  rfl
theorem resCell_sim {β : Bj} {e : Env} {h : AH} {a : Act} {w : World} (E : EnvR β e a) (R : Rel β h w) {r : ResultVar} {v : Value} (hr : resCell P e h r = some v) :
    ∃ v', (resC a.tmps r).run P w = .ok v' w ∧ VR β v v' := by
  cases r with
  | tmp t =>
    obtain rfl := Option.some.inj hr
    exact ⟨_, rfl, E t⟩
  | cell x t =>
    obtain ⟨v', hrun, hv⟩ := sim_load (P := P) hr R (E x)
    refine ⟨v', ?_, hv⟩
    have hx := E x
    simp only [resCell] at hr
    unfold pLoad at hr
    have hp : ∃ q, a.tmps.getD x undef = .pointer (some q) := by
      have : ∃ id off, e x = .pointer (some ⟨id, off, none⟩) := by
        have key : ∀ ag n, rdRow ag n (e x) h = some v → ∃ id off, e x = .pointer (some ⟨id, off, none⟩) := by
          intro ag n hrd
          unfold rdRow at hrd
          split at hrd
          · exact ⟨_, _, ‹_›⟩
          · cases hrd
        split at hr
        · exact key _ _ hr
        · split at hr
          · exact key _ _ hr
          · cases hr
        · cases hr
      obtain ⟨id, off, he⟩ := this
      rw [he] at hx
      obtain ⟨p, _, hp⟩ := hx.ptr_inv
      exact ⟨_, hp⟩
    obtain ⟨q, hq⟩ := hp
    simp only [resC, hq] at hrun ⊢
    simpa [Instr.loadAt, Instr.sureAddr, asAddr] using hrun
theorem resList_sim {β : Bj} {e : Env} {h : AH} {a : Act} {w : World} (E : EnvR β e a) (R : Rel β h w) : ∀ (rs : List ResultVar) {vs : List Value}, resList P e h rs = some vs →
    ∃ us : List Value, (rs.mapM (resC a.tmps)).run P w = .ok us w ∧ us.length = vs.length ∧ ∀ i, i < vs.length → VR β (vs.getD i undef) (us.getD i undef)
  | [], vs, hr => by
    obtain rfl := Option.some.inj hr
    exact ⟨[], by simp, rfl, fun i hi => by simp at hi⟩
  | r :: rs, vs, hr => by
    simp only [resList] at hr
    cases h1 : resCell P e h r with
    | none => rw [h1] at hr; cases hr
    | some v =>
      rw [h1] at hr
      simp only at hr
      cases h2 : resList P e h rs with
      | none => rw [h2] at hr; cases hr
      | some vs' =>
        rw [h2] at hr
        obtain rfl := Option.some.inj hr
        obtain ⟨v', hv', hvr⟩ := resCell_sim E R h1
        obtain ⟨us, hus, hl, hR⟩ := resList_sim E R rs h2
        refine ⟨v' :: us, ?_, by simp [hl], fun i hi => ?_⟩
        · rw [List.mapM_cons, Sem.run_bind, hv']
          simp only [Result.andThen_ok, Sem.run_bind, hus, Sem.run_pure]
        · cases i with
          | zero => exact hvr
          | succ i => simpa using hR i (by simpa using hi)
theorem end_sim {β : Bj} {e : Env} {h : AH} {a : Act} {w : World} {fn : Func} {K : Value → AH → Prop} (E : EnvR β e a) (R : Rel β h w) (hr : resW P fn e h K) : ∃ v v', (results fn a.tmps).run P w = .ok v' w ∧ K v h ∧ VR β v v' := by
  obtain ⟨vs, hvs, hK⟩ := optW_elim hr
  obtain ⟨us, hus, hl, hR⟩ := resList_sim E R _ hvs
  refine ⟨resOf vs, if h : us.length = 1 then us.getD 0 undef else .tuple us.toArray, ?_, hK, ?_⟩
  · rw [results_eq, Sem.run_bind]
    rw [Array.mapM_eq_mapM_toList, Sem.run_map, hus]
    simp only [Result.andThen_ok, Sem.run_pure]
    congr 1
    by_cases h1 : us.length = 1
    · obtain ⟨x, rfl⟩ := List.length_eq_one_iff.1 h1
      rfl
    · simp [h1]
  · by_cases h1 : us.length = 1
    · rw [dif_pos h1]
      rw [hl] at h1
      obtain ⟨x, rfl⟩ := List.length_eq_one_iff.1 h1
      exact hR 0 (by simp)
    · rw [dif_neg h1]
      have h2 : resOf vs = .tuple vs.toArray := by
        unfold resOf
        split
        · rename_i v; simp at hl; exact absurd hl h1
        · rfl
      rw [h2]
      refine .tuple (by simp [hl]) fun i hi => ?_
      have := hR i (by simpa using hi)
      rw [← toList_getD vs.toArray, ← toList_getD us.toArray]
      exact this
theorem envOf_R {β : Bj} {args : List Value} {args' : Array Value} {nt : Nat} (hA : ListR β args args') (hn : args.length ≤ nt) : EnvR β (envOf args) { tmps := args' ++ Array.replicate (nt - args'.size) undef, defers := [] } ∧ (args' ++ Array.replicate (nt - args'.size) undef).size = nt := by
  have hs := hA.1
  refine ⟨fun i => ?_, by simp; omega⟩
  show VR β (args.getD i undef) ((args' ++ Array.replicate (nt - args'.size) undef).getD i undef)
  by_cases hi : i < args.length
  · have := hA.2 i hi
    rw [agetD, Array.getElem?_append_left (by omega), ← agetD]
    exact this
  · have e1 : args.getD i undef = undef := by rw [lgetD, List.getElem?_eq_none (by omega)]; rfl
    have e2 : (args' ++ Array.replicate (nt - args'.size) undef).getD i undef = undef := by
      rw [agetD, Array.getElem?_append_right (by omega), Array.getElem?_replicate]
      split <;> rfl
    rw [e1, e2]
    exact VR.undef β
def SimP (P : Program) : CallT := fun f args h K => (∃ fn c, P.funcs[f]? = some fn ∧ fn.body = some c ∧ (fn.name == "runtime.NumGoroutine") = false) ∧
    ∀ β (args' : Array Value) w, ListR β args args' → Rel β h w → Calls P f args' w fun en w' => ∃ v v' β' h', en = .returned v' ∧ K v h' ∧ VR β' v v' ∧ Rel β' h' w' ∧ Ext (fun id => id < h.length) β h w β' h' w'
theorem step_sim {X : CallT} (hX : XSim P X) (hD : DrawAll P X) {f : FuncId} {args : List Value} {h : AH} {K : Value → AH → Prop} (hst : stepW P X f args h K) : SimP P f args h K := by
  rcases hst with (⟨h1, v, sep, xs, rfl, h3, h4, h5, h6⟩ | ⟨S, ⟨hf, hp, _, hS, hc⟩, hk⟩) | hst
  · refine ⟨isJoin_fn h1, fun β args' w hA R => ?_⟩
    obtain ⟨hs, hr⟩ := hA
    have e0 := hr 0 (by simp)
    have e1 := hr 1 (by simp)
    have ea : args' = #[args'.getD 0 undef, args'.getD 1 undef] := by
      have h2 : args'.size = 2 := by simpa using hs
      obtain ⟨l⟩ := args'
      match l, h2 with
      | [a, b], _ => rfl
    have es : args'.getD 1 undef = .string sep := by
      have e1 : VR β (.string sep) (args'.getD 1 undef) := e1
      generalize args'.getD 1 undef = y at e1
      cases e1
      rfl
    rw [ea, es]
    refine (join_calls h1 h3 h4 h5 (show VR β v (args'.getD 0 undef) from e0) R).mono ?_
    rintro en w' ⟨he, b⟩
    exact ⟨_, _, β, h, he, h6, .str _, below_rel R b, below_ext b⟩
  · refine ⟨hf, fun β args' w hA R => ?_⟩
    have ea : args' = args.toArray := by
      refine array_ext_getD (by simpa using hA.1.symm) fun i hi => ?_
      have h1 := hA.2 i (by simpa using hi)
      have h2 : args.getD i undef ∈ args := by
        rw [List.getD_eq_getElem?_getD, List.getElem?_eq_getElem (by simpa using hi)]
        exact List.getElem_mem _
      rw [h1.pureS_eq (hp _ h2)]
      simp [agetD, lgetD]
    rw [ea]
    refine (hc w).mono ?_
    rintro en w' ⟨⟨v, he, hv⟩, b⟩
    exact ⟨v, v, β, h, he, hk v hv, .ofPureS (hS v hv), below_rel R b, below_ext b⟩
  unfold stepF at hst
  split at hst
  · rename_i fn hfn
    split at hst
    · rename_i c hb hok
      rw [Bool.and_eq_true] at hok
      have hlen : args.length ≤ fn.ntmps := by simpa using hok.2
      have hok1 := hok.1
      unfold fnOK at hok1
      rw [hb, Bool.and_eq_true] at hok1
      have hname : (fn.name == "runtime.NumGoroutine") = false := by simpa using hok1.1
      refine ⟨⟨fn, c, hfn, hb, hname⟩, fun β args' w hA R => ?_⟩
      obtain ⟨hE, hsz⟩ := envOf_R hA hlen
      refine calls_of_wp hfn hb (code_sim (D := fun id => id < h.length) (nt := fn.ntmps) (ds := []) (β0 := β) (h0 := h) (w0 := w) hX hD (fun _ hd => hd) c hok1.2 hst ⟨hE, hsz, rfl, R, Ext.refl _ _ _ _⟩ ?_)
      intro en e1 h1 β1 a1 w1 hq A
      cases en with
      | normal =>
        obtain ⟨v, v', hrun, hk, hv⟩ := end_sim A.env A.rel hq
        exact ⟨A.defers, v', hrun, v, v', β1, h1, rfl, hk, hv, A.rel, A.ext⟩
      | ret =>
        obtain ⟨v, v', hrun, hk, hv⟩ := end_sim A.env A.rel hq
        exact ⟨A.defers, v', hrun, v, v', β1, h1, rfl, hk, hv, A.rel, A.ext⟩
      | _ => exact hq.elim
    · exact hst.elim
  · exact hst.elim
end Go.AM
end

section
/- The abstract machine: a region's text in every order that its edges allow. Conditions: none. -/
namespace Go.AM
open Go
set_option linter.unusedSimpArgs false
set_option linter.unusedVariables false
variable {P : Program} {X : CallT} {ops : Array Oper} {b : Array Nat} {sl : List (Option Nat)} {Q : Env → AH → Prop}
theorem set_dead {h : AH} {s : Nat} (hd : h[s]? = some .dead) : h.set s .dead = h := by
  apply List.ext_getElem?
  intro x
  by_cases e : s = x
  · subst e
    rw [getElem?_set_same (List.getElem?_eq_some_iff.1 hd).1, hd]
  · rw [getElem?_set_other e]
theorem opW_keep (hX : XFrame X) (hm : XMono X X) {slot : Option Nat} {o : Oper} {e : Env} {h : AH} {K : Value → AH → Prop} {s : Nat} (hd : h[s]? = some .dead) (hs : slot ≠ some s) (hk : opW P X slot o e h K) :
    opW P X slot o e h fun v h' => h'[s]? = some .dead ∧ K v h' := by
  have := opW_fr (ob := .dead) hX hm hd hs hk
  rw [set_dead hd] at this
  refine opW_mono hm (fun v h'' hh => ?_) this
  obtain ⟨h', rfl, hd', hk'⟩ := hh
  rw [set_dead hd']
  exact ⟨hd', hk'⟩
theorem opD_keep (hX : XFrame X) (hm : XMono X X) {i : Nat} {o : Oper} {H : HT} {S : ST} {e : Env} {h : AH} {K : Value → AH → HT → ST → Prop} {s : Nat} (hd : h[s]? = some .dead) (hs : slotAt sl i ≠ some s) (hk : opD P X b sl i o H S e h K) :
    opD P X b sl i o H S e h fun v h' H' S' => h'[s]? = some .dead ∧ K v h' H' S' := by
  unfold opD at hk ⊢
  split at hk
  · exact opW_keep hX hm hd (by simp) hk
  · rw [histC_iff] at hk ⊢
    exact ⟨hk.1, opW_keep hX hm hd (by simp) hk.2⟩
  · exact opW_keep hX hm hd hs hk
  · rw [histC_iff] at hk ⊢
    refine ⟨hk.1, opW_mono hm (fun v h' hh => ?_) (opW_keep hX hm hd (by simp) hk.2)⟩
    obtain ⟨h1, h2⟩ := hh
    rw [readC_iff] at h2 ⊢
    exact ⟨h2.1, h1, h2.2⟩
  · refine opW_mono hm (fun v h' hh => ?_) (opW_keep hX hm hd (by simp) hk)
    obtain ⟨h1, h2⟩ := hh
    rw [readC_iff] at h2 ⊢
    exact ⟨h2.1, h1, h2.2⟩
  · exact hk.elim
def AllDead (ss : List Nat) (h : AH) : Prop := ∀ s ∈ ss, h[s]? = some .dead
theorem opD_keeps (hX : XFrame X) (hm : XMono X X) {i : Nat} {o : Oper} {H : HT} {S : ST} {e : Env} {h : AH} : ∀ (ss : List Nat) {K : Value → AH → HT → ST → Prop}, AllDead ss h → (∀ s ∈ ss, slotAt sl i ≠ some s) → opD P X b sl i o H S e h K →
    opD P X b sl i o H S e h fun v h' H' S' => AllDead ss h' ∧ K v h' H' S'
  | [], K, _, _, hk => opD_mono hm (fun v h' H' S' hh => ⟨fun s hs => (by cases hs), hh⟩) hk
  | s :: ss, K, hd, hs, hk => by
    have h1 := opD_keep hX hm (hd s (by simp)) (hs s (by simp)) hk
    have h2 := opD_keeps hX hm ss (fun s' h' => hd s' (List.mem_cons_of_mem _ h')) (fun s' h' => hs s' (List.mem_cons_of_mem _ h')) h1
    refine opD_mono hm (fun v h' H' S' hh => ?_) h2
    obtain ⟨a, b, c⟩ := hh
    refine ⟨fun s' hs' => ?_, c⟩
    rcases List.mem_cons.1 hs' with rfl | hs'
    · exact b
    · exact a s' hs'
def slotsOf (sl : List (Option Nat)) (l : List Nat) : List Nat := l.filterMap (slotAt sl)
theorem mem_slotsOf {l : List Nat} {s : Nat} : s ∈ slotsOf sl l ↔ ∃ i ∈ l, slotAt sl i = some s := by
  unfold slotsOf
  rw [List.mem_filterMap]
theorem textD_step (hX : XFrame X) (hm : XMono X X) {k : Nat} {ok : Oper} (hok : ops[k]? = some ok) {l l' : List Nat} {H : HT} {S : ST} {e : Env} {h : AH} {Q : Env → AH → Prop} (hd : AllDead (slotsOf sl l) h) (hs : ∀ i ∈ l, ∀ s, slotAt sl k = some s → slotAt sl i ≠ some s)
    (hstep : ∀ {H' S' e' h'}, AllDead (slotsOf sl l) h' → textD P X ops b sl l H' S' e' h' Q → textD P X ops b sl l' H' S' e' h' Q) (ht : textD P X ops b sl (k :: l) H S e h Q) : textD P X ops b sl (k :: l') H S e h Q := by
  rw [textD_cons hok] at ht ⊢
  cases hg : gval ops ok e with
  | false => rw [hg] at ht; simp only [gopD] at ht ⊢; exact hstep hd ht
  | true =>
    rw [hg] at ht
    simp only [gopD] at ht ⊢
    refine opD_mono hm (fun v h' H' S' hh => hstep hh.1 hh.2) (opD_keeps hX hm (slotsOf sl l) hd ?_ ht)
    intro s hs' he
    obtain ⟨i, hi, hsi⟩ := mem_slotsOf.1 hs'
    exact hs i hi s he hsi
structure SlotsGood (P : Program) (ops : Array Oper) (sl : List (Option Nat)) : Prop where
  has : ∀ i o, ops[i]? = some o → clOf P o = .al → ∃ s, slotAt sl i = some s
  inj : ∀ i j s, slotAt sl i = some s → slotAt sl j = some s → i = j
theorem front (hX : XFrame X) (hm : XMono X X) (hst : XStrict X) (hsl : SlotsGood P ops sl) {i : Nat} {oi : Oper} (hoi : ops[i]? = some oi) {l2 : List Nat} : ∀ (l1 : List Nat) {H : HT} {S : ST} {e : Env} {h : AH},
    (∀ k ∈ l1, k < i ∧ free b k i = true ∧ ∃ ok, ops[k]? = some ok ∧ mayFloat P ops ok oi = true) → (l1 ++ i :: l2).Nodup → AllDead (slotsOf sl (l1 ++ i :: l2)) h → textD P X ops b sl (l1 ++ i :: l2) H S e h Q → textD P X ops b sl (i :: (l1 ++ l2)) H S e h Q
  | [], H, S, e, h, _, _, _, ht => ht
  | k :: l1, H, S, e, h, hk, hn, hd, ht => by
    obtain ⟨hki, hfr, ok, hok, hmay⟩ := hk k (by simp)
    have hn' := List.nodup_cons.1 hn
    have hd' : AllDead (slotsOf sl (l1 ++ i :: l2)) h := fun s hs => hd s (by
      obtain ⟨j, hj, e⟩ := mem_slotsOf.1 hs
      exact mem_slotsOf.2 ⟨j, List.mem_cons_of_mem _ hj, e⟩)
    refine swap hX hm hst hok hoi hki hfr hmay ?_ (fun s h1 h2 => ?_) (textD_step (l := l1 ++ i :: l2) hX hm hok hd' (fun j hj s h1 h2 => ?_) (fun {H' S' e' h'} hd'' ht' => ?_) ht)
    · intro j hj o ho hc
      obtain ⟨s, hs⟩ := hsl.has j o ho hc
      refine ⟨s, hs, hd s (mem_slotsOf.2 ⟨j, ?_, hs⟩)⟩
      rcases List.mem_cons.1 hj with rfl | hj
      · simp
      · rw [List.mem_singleton] at hj; subst hj; simp
    · have := hsl.inj _ _ _ h1 h2; omega
    · have := hsl.inj _ _ _ h1 h2
      subst this
      exact hn'.1 hj
    · exact front hX hm hst hsl hoi l1 (fun k' hk' => hk k' (List.mem_cons_of_mem _ hk')) hn'.2 hd'' ht'
def valB (b : Array Nat) (o : Oper) : Nat := o.after.foldl (fun s e => if Region.binds .any e then s ||| 2 ^ e.on ||| b.getD e.on 0 else s) 0
theorem testBit_fold {b : Array Nat} {k : Nat} : ∀ (l : List Edge) (s : Nat), (l.foldl (fun s e => if Region.binds .any e then s ||| 2 ^ e.on ||| b.getD e.on 0 else s) s).testBit k = true →
    s.testBit k = true ∨ ∃ e ∈ l, Region.binds .any e = true ∧ (e.on = k ∨ (b.getD e.on 0).testBit k = true)
  | [], s, h => .inl h
  | e :: l, s, h => by
    rw [List.foldl_cons] at h
    rcases testBit_fold l _ h with h | ⟨e', he', h'⟩
    · split at h
      · rename_i hb
        rw [Nat.testBit_or, Nat.testBit_or, Bool.or_eq_true, Bool.or_eq_true] at h
        rcases h with (h | h) | h
        · exact .inl h
        · refine .inr ⟨e, by simp, hb, .inl ?_⟩
          rw [Nat.testBit_two_pow] at h
          simpa using h
        · exact .inr ⟨e, by simp, hb, .inr h⟩
      · exact .inl h
    · exact .inr ⟨e', List.mem_cons_of_mem _ he', h'⟩
theorem valB_bit {b : Array Nat} {o : Oper} {k : Nat} (h : (valB b o).testBit k = true) : ∃ e ∈ o.after, Region.binds .any e = true ∧ (e.on = k ∨ (b.getD e.on 0).testBit k = true) := by
  unfold valB at h
  rw [← Array.foldl_toList] at h
  rcases testBit_fold _ _ h with h | ⟨e, he, h⟩
  · simp at h
  · exact ⟨e, by simpa using he, h⟩
theorem before_fold : ∀ (l : List Oper) (acc : Array Nat), let r := l.foldl (fun acc o => acc.push (valB acc o)) acc
    (∀ j, j < acc.size → r.getD j 0 = acc.getD j 0) ∧ ∀ i o, l[i]? = some o → ∃ acc' : Array Nat, r.getD (acc.size + i) 0 = valB acc' o ∧ ∀ j k, (acc'.getD j 0).testBit k = true → (r.getD j 0).testBit k = true
  | [], acc => ⟨fun _ _ => rfl, fun i o h => by simp at h⟩
  | o :: l, acc => by
    obtain ⟨h1, h2⟩ := before_fold l (acc.push (valB acc o))
    simp only [List.foldl_cons]
    have hacc : ∀ j, j < acc.size → (l.foldl (fun acc o => acc.push (valB acc o)) (acc.push (valB acc o))).getD j 0 = acc.getD j 0 := fun j hj => by
      rw [h1 j (by simp; omega)]
      simp [Array.getElem?_push, Nat.ne_of_lt hj]
    refine ⟨hacc, fun i o' ho' => ?_⟩
    cases i with
    | zero =>
      simp only [List.getElem?_cons_zero, Option.some.injEq] at ho'
      subst ho'
      refine ⟨acc, ?_, fun j k hb => ?_⟩
      · rw [Nat.add_zero, h1 acc.size (by simp)]
        simp
      · by_cases hj : j < acc.size
        · rw [hacc j hj]; exact hb
        · simp [Array.getElem?_eq_none (Nat.le_of_not_lt hj)] at hb
    | succ i =>
      obtain ⟨acc', e1, e2⟩ := h2 i o' (by simpa using ho')
      refine ⟨acc', ?_, e2⟩
      rw [← e1]
      simp only [Array.size_push]
      congr 1
      omega
theorem before_bit {ops : Array Oper} {i : Nat} {o : Oper} (ho : ops[i]? = some o) {k : Nat} (hb : ((Region.before ops).getD i 0).testBit k = true) :
    ∃ e ∈ o.after, Region.binds .any e = true ∧ (e.on = k ∨ ((Region.before ops).getD e.on 0).testBit k = true) := by
  have he : Region.before ops = ops.toList.foldl (fun acc o => acc.push (valB acc o)) #[] := by
    unfold Region.before
    rw [← Array.foldl_toList]
    rfl
  obtain ⟨_, h2⟩ := before_fold ops.toList #[]
  obtain ⟨acc', e1, e2⟩ := h2 i o (by simpa using ho)
  rw [he] at hb ⊢
  have : ((#[] : Array Nat).size + i) = i := by simp
  rw [this] at e1
  rw [e1] at hb
  obtain ⟨e, h1, h3, h4⟩ := valB_bit hb
  exact ⟨e, h1, h3, h4.imp id (e2 _ _)⟩
theorem pairsOK_spec {b : Array Nat} {j : Nat} {y : Oper} : ∀ (l : List Oper) (n : Nat), pairsOK P ops b j y l n = true → ∀ i x, l[i]? = some x → free b (n + i) j = true → mayFloat P ops x y = true
  | [], _, _, _, _, h, _ => by simp at h
  | z :: l, n, hp, i, x, h, hf => by
    simp only [pairsOK, Bool.and_eq_true, Bool.or_eq_true] at hp
    cases i with
    | zero =>
      simp only [List.getElem?_cons_zero, Option.some.injEq] at h
      subst h
      rcases hp.1 with h | h
      · rw [Nat.add_zero] at hf; rw [hf] at h; cases h
      · exact h
    | succ i => exact pairsOK_spec l (n + 1) hp.2 i x (by simpa using h) (by rw [← hf]; congr 1; omega)
theorem drawOKFrom_spec {b : Array Nat} : ∀ (l d : List Oper) (n : Nat), n = d.length → drawOKFrom P ops b d l n = true → ∀ j y, l[j]? = some y →
    (∀ i x, i < n + j → (d ++ l)[i]? = some x → free b i (n + j) = true → mayFloat P ops x y = true) ∧ ∀ e ∈ y.after, Region.binds .any e = true → e.on < n + j
  | [], _, _, _, _, _, _, h => by simp at h
  | z :: l, d, n, hn, hp, j, y, h => by
    simp only [drawOKFrom, Bool.and_eq_true, List.all_eq_true, Bool.or_eq_true, decide_eq_true_eq] at hp
    cases j with
    | zero =>
      simp only [List.getElem?_cons_zero, Option.some.injEq] at h
      subst h
      refine ⟨fun i x hi hx hf => ?_, fun e he hb => ?_⟩
      · rw [List.getElem?_append_left (by omega)] at hx
        exact pairsOK_spec d 0 hp.1.1 i x hx (by rw [Nat.zero_add]; exact hf)
      · rcases hp.1.2 e (by simpa using he) with h | h
        · rw [hb] at h; cases h
        · omega
    | succ j =>
      obtain ⟨h1, h2⟩ := drawOKFrom_spec l (d ++ [z]) (n + 1) (by simp [hn]) hp.2 j y (by simpa using h)
      refine ⟨fun i x hi hx hf => h1 i x (by omega) (by rw [List.append_assoc]; exact hx) (by rw [← hf]; congr 1; omega), fun e he hb => by have := h2 e he hb; omega⟩
theorem drawOK_spec (h : drawOK P ops = true) {j : Nat} {y : Oper} (hy : ops[j]? = some y) :
    (∀ i x, i < j → ops[i]? = some x → free (Region.before ops) i j = true → mayFloat P ops x y = true) ∧ ∀ e ∈ y.after, Region.binds .any e = true → e.on < j := by
  obtain ⟨h1, h2⟩ := drawOKFrom_spec ops.toList [] 0 rfl h j y (by simpa using hy)
  refine ⟨fun i x hi hx hf => h1 i x (by omega) (by simpa using hx) (by rw [← hf]; congr 1; omega), fun e he hb => by have := h2 e he hb; omega⟩
theorem opD_opW (hm : XMono X X) {i : Nat} {o : Oper} {H : HT} {S : ST} {e : Env} {h : AH} {K : Value → AH → HT → ST → Prop} {K' : Value → AH → Prop} (hsl : ∀ s, slotAt sl i = some s → clOf P o = .al) (hK : ∀ v h H S, K v h H S → K' v h) (hk : opD P X b sl i o H S e h K) : opW P X (slotAt sl i) o e h K' := by
  have hno : clOf P o ≠ .al → slotAt sl i = none := fun hne => by
    cases hs : slotAt sl i with
    | none => rfl
    | some s => exact absurd (hsl s hs) hne
  unfold opD at hk
  split at hk
  · rename_i hc
    rw [hno (by rw [hc]; simp)]
    exact opW_mono hm (fun v h' => hK _ _ _ _) hk
  · rename_i hc
    rw [hno (by rw [hc]; simp)]
    rw [histC_iff] at hk
    exact opW_mono hm (fun v h' => hK _ _ _ _) hk.2
  · exact opW_mono hm (fun v h' => hK _ _ _ _) hk
  · rename_i hc
    rw [hno (by rw [hc]; simp)]
    rw [histC_iff] at hk
    exact opW_mono hm (fun v h' hh => hK _ _ _ _ (readC_iff.1 hh).2) hk.2
  · rename_i hc
    rw [hno (by rw [hc]; simp)]
    exact opW_mono hm (fun v h' hh => hK _ _ _ _ (readC_iff.1 hh).2) hk
  · exact hk.elim
theorem ready_ne {rem : List Nat} {listed : Array Bool} (hdr : drawOK P ops = true) (hsz : listed.size = ops.size) (hrem : ∀ i, i ∈ rem ↔ i < ops.size ∧ listed.getD i true = false) (hs : rem.Pairwise (· < ·)) (hne : rem ≠ []) : Region.ready .any ops listed ≠ [] := by
  cases rem with
  | nil => exact absurd rfl hne
  | cons i rem =>
    obtain ⟨hi, hl⟩ := (hrem i).1 (by simp)
    have hoi : ops[i]? = some ops[i] := Array.getElem?_eq_getElem hi
    have : i ∈ Region.ready .any ops listed := by
      rw [mem_ready]
      refine ⟨hl, ops[i], hoi, fun e he hb => ?_⟩
      have hlt := (drawOK_spec hdr hoi).2 e he hb
      have hno : ¬ e.on ∈ i :: rem := fun hin => by
        rcases List.mem_cons.1 hin with h | h
        · omega
        · have := (List.pairwise_cons.1 hs).1 _ h; omega
      have hin : e.on < listed.size := by omega
      have := mt (hrem e.on).2 hno
      simp only [not_and, Bool.not_eq_false] at this
      have h2 := this (by omega)
      simp [hin] at h2 ⊢
      exact h2
    intro he
    rw [he] at this
    cases this
theorem lin_sim (hX : XFrame X) (hm : XMono X X) (hst : XStrict X) (hdr : drawOK P ops = true) (hsl : SlotsGood P ops sl) (hal : ∀ i o s, ops[i]? = some o → slotAt sl i = some s → clOf P o = .al) : ∀ (fuel t : Nat) (listed : Array Bool) (rem : List Nat) {H : HT} {S : ST} {e : Env} {h : AH},
    fuel = rem.length → listed.size = ops.size → rem.Pairwise (· < ·) → (∀ i, i ∈ rem ↔ i < ops.size ∧ listed.getD i true = false) →
    (∀ i, i < ops.size → listed.getD i true = true → ∀ k, ((Region.before ops).getD i 0).testBit k = true → listed.getD k false = true) →
    AllDead (slotsOf sl rem) h → textD P X ops (Region.before ops) sl rem H S e h Q →
    ordW P X ops (slotAt sl) (Region.linearise.go .any ops fuel t listed []) e h Q := by
  intro fuel
  induction fuel with
  | zero =>
    intro t listed rem H S e h hf hsz hs hrem hcl hd ht
    have : rem = [] := List.length_eq_zero_iff.1 hf.symm
    subst this
    simpa [Region.linearise.go, ordW, textD] using ht
  | succ fuel ih =>
    intro t listed rem H S e h hf hsz hs hrem hcl hd ht
    simp only [Region.linearise.go]
    change ordW P X ops (slotAt sl) (match (Region.ready .any ops listed)[t % (Region.ready .any ops listed).length]? with
      | some i => Region.linearise.go .any ops fuel (t / (Region.ready .any ops listed).length) (listed.setIfInBounds i true) [i]
      | none => [].reverse) e h Q
    have hne : rem ≠ [] := fun e => by rw [e] at hf; cases hf
    have hrne := ready_ne hdr hsz hrem hs hne
    cases hi : (Region.ready .any ops listed)[t % (Region.ready .any ops listed).length]? with
    | none =>
      exfalso
      have hpos : 0 < (Region.ready .any ops listed).length := List.length_pos_iff.2 hrne
      have := Nat.mod_lt t hpos
      rw [List.getElem?_eq_none_iff] at hi
      omega
    | some i =>
      simp only
      rw [linearise_go_acc, List.reverse_singleton, List.singleton_append]
      obtain ⟨hun, oi, hoi, hall⟩ := mem_ready.1 (List.mem_of_getElem? hi)
      have hlt : i < ops.size := (Array.getElem?_eq_some_iff.1 hoi).1
      have him : i ∈ rem := (hrem i).2 ⟨hlt, hun⟩
      obtain ⟨l1, l2, rfl⟩ := List.append_of_mem him
      have hnd : (l1 ++ i :: l2).Nodup := hs.imp (fun h => Nat.ne_of_lt h)
      have hgt : ∀ j, listed.getD j false = true → j < ops.size ∧ listed.getD j true = true := fun j hj => by
        rcases Nat.lt_or_ge j listed.size with h' | h'
        · simp [h'] at hj ⊢; exact ⟨by omega, hj⟩
        · simp [Array.getElem?_eq_none h'] at hj
      have hbi : ∀ k, ((Region.before ops).getD i 0).testBit k = true → listed.getD k false = true := fun k hk => by
        obtain ⟨ed, he, hb, hor⟩ := before_bit hoi hk
        rcases hor with rfl | hor
        · exact hall ed he hb
        · obtain ⟨q1, q2⟩ := hgt _ (hall ed he hb)
          exact hcl _ q1 q2 k hor
      have hfront := front (b := Region.before ops) hX hm hst hsl hoi l1 (fun k hk => by
        have hkm : k ∈ l1 ++ i :: l2 := List.mem_append_left _ hk
        have hki : k < i := by
          rw [List.pairwise_append] at hs
          exact hs.2.2 k hk i (by simp)
        have hkun := ((hrem k).1 hkm)
        have hok : ops[k]? = some ops[k] := Array.getElem?_eq_getElem hkun.1
        have hfr : free (Region.before ops) k i = true := by
          unfold free
          cases hb : ((Region.before ops).getD i 0).testBit k with
          | false => rfl
          | true =>
            have := (hgt k (hbi k hb)).2
            rw [hkun.2] at this
            cases this
        exact ⟨hki, hfr, _, hok, (drawOK_spec hdr hoi).1 k _ hki hok hfr⟩) hnd hd ht
      have hmem : ∀ j, j ∈ l1 ++ l2 ↔ j ∈ l1 ++ i :: l2 ∧ j ≠ i := by
        intro j
        rw [List.nodup_append] at hnd
        have hi1 : i ∉ l1 := fun h => hnd.2.2 i h i (by simp) rfl
        have hi2 : i ∉ l2 := (List.nodup_cons.1 hnd.2.1).1
        simp only [List.mem_append, List.mem_cons]
        constructor
        · rintro (h | h)
          · exact ⟨.inl h, fun e => hi1 (e ▸ h)⟩
          · exact ⟨.inr (.inr h), fun e => hi2 (e ▸ h)⟩
        · rintro ⟨h | h | h, hne⟩
          · exact .inl h
          · exact absurd h hne
          · exact .inr h
      have hsub : (l1 ++ l2).Sublist (l1 ++ i :: l2) := List.Sublist.append_left (List.sublist_cons_self _ _) _
      have hd' : ∀ {h' : AH}, AllDead (slotsOf sl (l1 ++ i :: l2)) h' → AllDead (slotsOf sl (l1 ++ l2)) h' := fun hh s hs => hh s (by
        obtain ⟨j, hj, e⟩ := mem_slotsOf.1 hs
        exact mem_slotsOf.2 ⟨j, hsub.subset hj, e⟩)
      have next : ∀ {H' S' e' h'}, AllDead (slotsOf sl (l1 ++ l2)) h' → textD P X ops (Region.before ops) sl (l1 ++ l2) H' S' e' h' Q →
          ordW P X ops (slotAt sl) (Region.linearise.go .any ops fuel (t / (Region.ready .any ops listed).length) (listed.setIfInBounds i true) []) e' h' Q := by
        intro H' S' e' h' hd'' ht'
        refine ih _ _ (l1 ++ l2) (by simp at hf ⊢; omega) (by simpa using hsz) (hs.sublist hsub) (fun j => ?_) (fun j hj hlj k hk => ?_) hd'' ht'
        · rw [hmem, hrem]
          by_cases hij : i = j
          · subst hij
            simp [hsz, hlt]
          · rw [getD_set_ne true hij]
            constructor
            · exact fun h => h.1
            · exact fun h => ⟨h, fun e => hij e.symm⟩
        · by_cases hij : i = j
          · subst hij
            exact getD_set_true (hbi k hk)
          · rw [getD_set_ne true hij] at hlj
            exact getD_set_true (hcl j hj hlj k hk)
      unfold ordW
      rw [hoi]
      simp only
      rw [textD_cons hoi] at hfront
      cases hg : gval ops oi e with
      | false =>
        rw [hg] at hfront
        simp only [gopD, gopW] at hfront ⊢
        exact next (hd' hd) hfront
      | true =>
        rw [hg] at hfront
        simp only [gopD, gopW] at hfront ⊢
        refine opD_opW hm (fun s hs => hal i oi s hoi hs) (fun v h' H' S' hh => next hh.1 hh.2) (opD_keeps hX hm (slotsOf sl (l1 ++ l2)) (hd' hd) ?_ hfront)
        intro s hs' he
        obtain ⟨j, hj, hsj⟩ := mem_slotsOf.1 hs'
        have := hsl.inj _ _ _ he hsj
        exact ((hmem j).1 hj).2 this.symm
theorem lin_nodup : ∀ (fuel t : Nat) (listed : Array Bool), listed.size = ops.size → (Region.linearise.go .any ops fuel t listed []).Nodup ∧ ∀ x ∈ Region.linearise.go .any ops fuel t listed [], listed.getD x true = false := by
  intro fuel
  induction fuel with
  | zero => intro t listed _; simp [Region.linearise.go]
  | succ fuel ih =>
    intro t listed hsz
    simp only [Region.linearise.go]
    change (match (Region.ready .any ops listed)[t % (Region.ready .any ops listed).length]? with
      | some i => Region.linearise.go .any ops fuel (t / (Region.ready .any ops listed).length) (listed.setIfInBounds i true) [i]
      | none => [].reverse).Nodup ∧ ∀ x ∈ (match (Region.ready .any ops listed)[t % (Region.ready .any ops listed).length]? with
      | some i => Region.linearise.go .any ops fuel (t / (Region.ready .any ops listed).length) (listed.setIfInBounds i true) [i]
      | none => [].reverse), listed.getD x true = false
    cases hi : (Region.ready .any ops listed)[t % (Region.ready .any ops listed).length]? with
    | none => simp
    | some i =>
      simp only
      rw [linearise_go_acc, List.reverse_singleton, List.singleton_append]
      obtain ⟨hun, oi, hoi, hall⟩ := mem_ready.1 (List.mem_of_getElem? hi)
      have hlt : i < ops.size := (Array.getElem?_eq_some_iff.1 hoi).1
      obtain ⟨h1, h2⟩ := ih (t / (Region.ready .any ops listed).length) (listed.setIfInBounds i true) (by simpa using hsz)
      have hne : ∀ x ∈ Region.linearise.go .any ops fuel (t / (Region.ready .any ops listed).length) (listed.setIfInBounds i true) [], i ≠ x := fun x hx e => by
        have := h2 x hx
        subst e
        simp [hsz, hlt] at this
      refine ⟨List.nodup_cons.2 ⟨fun hin => hne i hin rfl, h1⟩, fun x hx => ?_⟩
      rcases List.mem_cons.1 hx with rfl | hx
      · exact hun
      · have := h2 x hx
        rwa [getD_set_ne true (hne x hx)] at this
theorem slots_cl (P : Program) : ∀ (l : List Oper) (n i : Nat) (o : Oper), l[i]? = some o → (clOf P o = .al → ∃ s, slotAt (slots P l n) i = some s) ∧ ∀ s, slotAt (slots P l n) i = some s → clOf P o = .al
  | [], n, i, o, h => by simp at h
  | z :: l, n, i, o, h => by
    unfold slots
    cases hc : clOf P z with
    | al =>
      simp only
      cases i with
      | zero =>
        simp only [List.getElem?_cons_zero, Option.some.injEq] at h
        subst h
        exact ⟨fun _ => ⟨n, by simp [slotAt]⟩, fun _ _ => hc⟩
      | succ i =>
        have := slots_cl P l (n + 1) i o (by simpa using h)
        simpa [slotAt] using this
    | _ =>
      simp only
      cases i with
      | zero =>
        simp only [List.getElem?_cons_zero, Option.some.injEq] at h
        subst h
        exact ⟨fun h => (by rw [hc] at h; cases h), fun s hs => by simp [slotAt] at hs⟩
      | succ i =>
        have := slots_cl P l n i o (by simpa using h)
        simpa [slotAt] using this
theorem draw_all (hmix : P.follows .mixedOrders = true) (hX : XFrame X) (hm : XMono X X) (hst : XStrict X) : DrawAll P X := by
  intro ops e h Q t hk
  unfold Region.schedule
  rw [hmix]
  simp only [Bool.true_or, if_true]
  unfold Region.linearise
  refine ⟨?_, (lin_nodup _ _ _ (by simp)).1⟩
  unfold regW at hk
  simp only at hk
  cases hdr : drawOK P ops with
  | false => rw [hdr] at hk; exact hk.elim
  | true =>
    rw [hdr] at hk
    simp only at hk
    have getL : ∀ {i : Nat} {o : Oper}, ops[i]? = some o → ops.toList[i]? = some o := fun h => by simpa using h
    refine lin_sim hX hm hst hdr ⟨fun i o ho hc => (slots_cl P ops.toList h.length i o (getL ho)).1 hc, fun i j s h1 h2 => (slots_spec P ops.toList h.length j s h2).2.2 i h1⟩
      (fun i o s ho hs => (slots_cl P ops.toList h.length i o (getL ho)).2 s hs) ops.size t _ (List.range ops.size) (by simp) (by simp) ?_ ?_ ?_ ?_ hk
    · exact List.pairwise_lt_range
    · intro i
      rw [List.mem_range]
      constructor
      · intro hi; refine ⟨hi, by simp [hi]⟩
      · exact fun h => h.1
    · intro i hi hl
      simp [hi] at hl
    · intro s hs
      obtain ⟨i, hi, hsi⟩ := mem_slotsOf.1 hs
      have hsp := slots_spec P ops.toList h.length i s hsi
      rw [reserve_eq, List.getElem?_append_right hsp.1, List.getElem?_replicate, if_pos (by omega)]
end Go.AM
end

section
/- The abstract machine: THE SIMULATION. Conditions: none. -/
namespace Go.AM
open Go
variable {P : Program}
theorem callW_sim (hmix : P.follows .mixedOrders = true) : XSim P (callW P) := by
  intro f args h K hK
  let T : CallT := fun f args h K => callW P f args h K ∧ SimP P f args h K
  have hT : XMono T T := fun f args h K K' hm hx => ⟨callW_mono _ _ _ _ _ hm hx.1, hx.2.1, fun β args' w hA R => Calls.mono (hx.2.2 β args' w hA R) fun en w' hh => by
    obtain ⟨v, v', β', h', q1, q2, q3⟩ := hh
    exact ⟨v, v', β', h', q1, hm _ _ q2, q3⟩⟩
  have hXm : XMono (Closed T) (Closed T) := closed_mono hT
  have hle : ∀ f args h K, Closed T f args h K → T f args h K := fun f args h K hx => hx [] trivial
  have hst : XStrict (Closed T) := fun f args h K hx => callW_strict _ _ _ _ (hle _ _ _ _ hx).1
  have hsim : XSim P (Closed T) := fun f args h K hx => (hle _ _ _ _ hx).2
  have hD : DrawAll P (Closed T) := draw_all hmix (closed_frame T) hXm hst
  have := hK (Closed T) fun f args h K hs L hL => by
    have h1 := stepW_fills (closed_frame T) hXm L hL hs
    exact ⟨callW_step (stepW_mono (X := Closed T) (Y := callW P) (fun f args h K K' hm hx => callW_mono _ _ _ _ _ hm (hle _ _ _ _ hx).1) _ _ _ _ _ (fun _ _ h => h) h1), step_sim hsim hD h1⟩
  exact (hle _ _ _ _ this).2
end Go.AM
end

section
/- The abstract machine, run: a Bool that says 'whatever order a map is gone through in, this comes out', and that it is right. Conditions: none. -/
namespace Go.AM
open Go
inductive Tr (α : Type) where
  | leaf
  | node (v : Option α) (l r : Tr α)
namespace Tr
variable {α : Type}
def get : Tr α → Nat → Option α
  | .leaf, _ => none
  | .node v l r, i => cond (Nat.beq i 0) v (cond (Nat.beq (Nat.mod i 2) 1) (get l (Nat.div i 2)) (get r (Nat.pred (Nat.div i 2))))
def set (x : α) : Nat → Tr α → Nat → Tr α
  | 0, t, _ => t
  | k + 1, .leaf, i => cond (Nat.beq i 0) (.node (some x) .leaf .leaf) (cond (Nat.beq (Nat.mod i 2) 1) (.node none (set x k .leaf (Nat.div i 2)) .leaf) (.node none .leaf (set x k .leaf (Nat.pred (Nat.div i 2)))))
  | k + 1, .node v l r, i => cond (Nat.beq i 0) (.node (some x) l r) (cond (Nat.beq (Nat.mod i 2) 1) (.node v (set x k l (Nat.div i 2)) r) (.node v l (set x k r (Nat.pred (Nat.div i 2)))))
theorem get_leaf (i : Nat) : get (.leaf : Tr α) i = none := by unfold get; rfl
theorem cond_beq {β : Type} (a b : Nat) (x y : β) : cond (Nat.beq a b) x y = if a = b then x else y := by
  by_cases h : a = b
  · subst h; simp
  · rw [if_neg h]
    have : Nat.beq a b = false := by
      cases e : Nat.beq a b with
      | false => rfl
      | true => exact absurd (Nat.eq_of_beq_eq_true e) h
    rw [this]; rfl
theorem get_node (v : Option α) (l r : Tr α) (i : Nat) : get (.node v l r) i = if i = 0 then v else if i % 2 = 1 then get l (i / 2) else get r (i / 2 - 1) := by
  rw [get, cond_beq, cond_beq]; rfl
theorem set_leaf (x : α) (k i : Nat) : set x (k + 1) .leaf i = set x (k + 1) (.node none .leaf .leaf) i := by
  rw [set, set]
theorem set_node (x : α) (k : Nat) (v : Option α) (l r : Tr α) (i : Nat) : set x (k + 1) (.node v l r) i = if i = 0 then .node (some x) l r else if i % 2 = 1 then .node v (set x k l (i / 2)) r else .node v l (set x k r (i / 2 - 1)) := by
  rw [set, cond_beq, cond_beq]; rfl
theorem get_set_node (x : α) (k : Nat) (ih : ∀ (t : Tr α) (i j : Nat), i + 1 < 2 ^ k → get (set x k t i) j = if j = i then some x else get t j) (v : Option α) (l r : Tr α) (i j : Nat) (h : i + 1 < 2 ^ (k + 1)) :
    get (set x (k + 1) (.node v l r) i) j = if j = i then some x else get (.node v l r) j := by
  have hp : 2 ^ (k + 1) = 2 * 2 ^ k := by rw [Nat.pow_succ]; omega
  rw [set_node]
  by_cases h0 : i = 0
  · subst h0
    rw [if_pos rfl, get_node, get_node]
    by_cases hj : j = 0 <;> simp [hj]
  · rw [if_neg h0]
    by_cases h1 : i % 2 = 1
    · rw [if_pos h1, get_node, get_node, ih _ _ _ (by omega)]
      by_cases hj : j = 0
      · rw [if_pos hj, if_pos hj, if_neg (by omega)]
      · rw [if_neg hj, if_neg hj]
        by_cases hj1 : j % 2 = 1
        · rw [if_pos hj1, if_pos hj1]
          by_cases e : j = i
          · subst e; simp
          · rw [if_neg e, if_neg (by omega)]
        · rw [if_neg hj1, if_neg hj1, if_neg (by omega)]
    · rw [if_neg h1, get_node, get_node, ih _ _ _ (by omega)]
      by_cases hj : j = 0
      · rw [if_pos hj, if_pos hj, if_neg (by omega)]
      · rw [if_neg hj, if_neg hj]
        by_cases hj1 : j % 2 = 1
        · rw [if_pos hj1, if_pos hj1, if_neg (by omega)]
        · rw [if_neg hj1, if_neg hj1]
          by_cases e : j = i
          · subst e; simp
          · rw [if_neg e, if_neg (by omega)]
theorem get_set (x : α) : ∀ (k : Nat) (t : Tr α) (i j : Nat), i + 1 < 2 ^ k → get (set x k t i) j = if j = i then some x else get t j
  | 0, t, i, j, h => by simp at h
  | k + 1, .leaf, i, j, h => by
    rw [set_leaf, get_set_node x k (get_set x k) none .leaf .leaf i j h]
    have e : get (.node none .leaf .leaf : Tr α) j = get .leaf j := by
      rw [get_node, get_leaf, get_leaf, get_leaf]; split
      · rfl
      · split <;> rfl
    rw [e]
  | k + 1, .node v l r, i, j, h => get_set_node x k (get_set x k) v l r i j h
end Tr
structure HS where
  t : Tr AObj
  n : Nat
def HS.look (s : HS) (i : Nat) : Option AObj := s.t.get i
def HS.put (s : HS) (i : Nat) (o : AObj) : HS := ⟨Tr.set o 40 s.t i, s.n⟩
structure RepH (s : HS) (h : AH) : Prop where
  look : ∀ i, s.look i = h[i]?
  n : s.n = h.length
  le : s.n < 1000000000
theorem RepH.fn {s : HS} {h : AH} (R : RepH s h) : s.look = fun i => h[i]? := funext R.look
theorem RepH.put {s : HS} {h : AH} (R : RepH s h) {i : Nat} (hi : i < h.length) (o : AObj) : RepH (s.put i o) (h.set i o) where
  look j := by
    show Tr.get (Tr.set o 40 s.t i) j = _
    rw [Tr.get_set _ _ _ _ _ (by have := R.n; have := R.le; omega), List.getElem?_set]
    by_cases e : j = i
    · subst e; simp [hi]
    · rw [if_neg e, if_neg (fun x => e x.symm)]; exact R.look j
  n := by rw [List.length_set]; exact R.n
  le := R.le
theorem RepH.lt {s : HS} {h : AH} (R : RepH s h) {i : Nat} {o : AObj} (hs : s.look i = some o) : i < h.length := by
  rw [R.look] at hs
  exact (List.getElem?_eq_some_iff.1 hs).1
def HS.push (s : HS) (o : AObj) (k : Nat → HS → Bool) : Bool := cond (Nat.blt s.n 999999999) (k s.n ⟨Tr.set o 40 s.t s.n, Nat.succ s.n⟩) false
theorem RepH.push {s : HS} {h : AH} (R : RepH s h) (o : AObj) (hl : s.n < 999999999) : RepH ⟨Tr.set o 40 s.t s.n, Nat.succ s.n⟩ (h ++ [o]) where
  look j := by
    show Tr.get (Tr.set o 40 s.t s.n) j = _
    rw [Tr.get_set _ _ _ _ _ (by have := R.le; omega), List.getElem?_append, R.n]
    by_cases e : j = h.length
    · subst e; simp
    · rw [if_neg e]
      by_cases e2 : j < h.length
      · rw [if_pos e2]; exact R.look j
      · have : s.t.get j = h[j]? := R.look j
        rw [if_neg e2, this, List.getElem?_eq_none (by omega)]
        simp; omega
  n := by simp [R.n]
  le := by show Nat.succ s.n < _; omega
abbrev TE := Tr Value
def tev (e : TE) : Operand → Value
  | .tmp t => (e.get t).getD undef
  | .const v => v
  | .global g => .pointer (some ⟨g, 0, none⟩)
  | .func f => .func (.func f) #[] #[]
def RepE (t : TE) (e : Env) : Prop := ∀ i, e i = (t.get i).getD undef
theorem RepE.ev {t : TE} {e : Env} (R : RepE t e) (x : Operand) : tev t x = Go.AM.ev e x := by
  cases x with
  | tmp i => exact (R i).symm
  | _ => rfl
theorem RepE.fn {t : TE} {e : Env} (R : RepE t e) : tev t = Go.AM.ev e := funext R.ev
def tput (t : TE) (d : Option Nat) (v : Value) : TE :=
  match d with
  | some d => Tr.set v 40 t d
  | none => t
theorem RepE.put {t : TE} {e : Env} (R : RepE t e) (d : Option Nat) (v : Value) (hd : ∀ i, d = some i → i < 1000000) : RepE (tput t d v) (putE e d v) := by
  cases d with
  | none => exact R
  | some d =>
    intro i
    show _ = (Tr.get (Tr.set v 40 t d) i).getD undef
    rw [Tr.get_set _ _ _ _ _ (by have := hd d rfl; omega)]
    show Env.set e d v i = _
    unfold Env.set
    rw [Tr.cond_beq]
    by_cases h : i = d
    · rw [if_pos h, if_pos h]; rfl
    · rw [if_neg h, if_neg h]; exact R i
end Go.AM
end

section
/- The abstract machine, run: the operations. Conditions: none. -/
namespace Go.AM
open Go
abbrev Look := Nat → Option AObj
def optB {α : Type} (o : Option α) (K : α → Bool) : Bool :=
  match o with
  | some v => K v
  | none => false
theorem optB_elim {α : Type} {o : Option α} {K : α → Bool} (h : optB o K = true) : ∃ v, o = some v ∧ K v = true := by
  cases o with
  | none => cases h
  | some v => exact ⟨v, rfl, h⟩
theorem bytes_toList (x : ByteArray) : x.toList = x.data.toList := by
  have loop : ∀ (n i : Nat) (r : List UInt8), x.size - i = n → ByteArray.toList.loop x i r = r.reverse ++ x.data.toList.drop i := by
    intro n
    induction n with
    | zero =>
      intro i r h
      rw [ByteArray.toList.loop, if_neg (by omega), List.drop_of_length_le (by have : x.data.toList.length = x.size := rfl; omega)]
      simp
    | succ n ih =>
      intro i r h
      have hi : i < x.data.toList.length := by have : x.data.toList.length = x.size := rfl; omega
      rw [ByteArray.toList.loop, if_pos (by omega), ih _ _ (by omega)]
      have e : x.get! i = x.data.toList[i] := by
        cases x with
        | mk d =>
          show d[i]! = _
          simp at hi
          simp [getElem!_pos, hi]
      rw [e, List.reverse_cons, List.append_assoc, List.drop_eq_getElem_cons hi]
      rfl
  unfold ByteArray.toList
  rw [loop x.size 0 [] (by omega)]
  simp
def u8s : List UInt8 → List UInt8 → Bool
  | [], [] => true
  | a :: l, b :: m => cond (Nat.beq a.toNat b.toNat) (u8s l m) false
  | _, _ => false
theorem u8s_eq : ∀ (l m : List UInt8), u8s l m = (l == m)
  | [], [] => by simp [u8s]
  | [], b :: m => by simp [u8s]
  | a :: l, [] => by simp [u8s]
  | a :: l, b :: m => by
    rw [u8s, Tr.cond_beq, u8s_eq l m]
    by_cases h : a.toNat = b.toNat
    · rw [if_pos h, UInt8.toNat_inj.1 h]; simp
    · rw [if_neg h]
      have : a ≠ b := fun e => h (by rw [e])
      simp [this]
def bEq (x y : ByteArray) : Bool := u8s x.data.toList y.data.toList
theorem bEq_eq (x y : ByteArray) : bEq x y = (x.toList == y.toList) := by rw [bEq, u8s_eq, bytes_toList, bytes_toList]
def bCat (x y : ByteArray) : ByteArray := ⟨⟨x.data.toList ++ y.data.toList⟩⟩
theorem bCat_eq (x y : ByteArray) : bCat x y = x ++ y := by
  apply ByteArray.ext
  rw [ByteArray.data_append]
  apply Array.toList_inj.1
  simp [bCat]
def bCut (x : ByteArray) (l h : Nat) : ByteArray := ⟨⟨(x.data.toList.drop l).take (h - l)⟩⟩
theorem bCut_eq (x : ByteArray) (l h : Nat) : bCut x l h = x.extract l h := by
  apply ByteArray.ext
  rw [ByteArray.data_extract]
  apply Array.toList_inj.1
  rw [Array.toList_extract]
  rfl
def pBinSQ (op : BinOp) (x y : ByteArray) : Option Value :=
  match op with
  | .add => if x.size + y.size < 9223372036854775808 then some (.string (bCat x y)) else none
  | .eql => some (.bool (bEq x y))
  | .neq => some (.bool !(bEq x y))
  | _ => none
theorem pBinSQ_eq (op : BinOp) (x y : ByteArray) : pBinSQ op x y = pBinS op x y := by
  unfold pBinSQ pBinS
  rw [bCat_eq, bEq_eq]
  rfl
def sameScalQ : Value → Value → Option Bool
  | .int k a, .int k' b => if k = k' then some (a == b) else none
  | .string a, .string b => some (bEq a b)
  | .bool a, .bool b => some (a == b)
  | _, _ => none
theorem sameScalQ_eq (x y : Value) : sameScalQ x y = sameScal x y := by
  cases x <;> cases y <;> first | rfl | (simp only [sameScalQ, sameScal, bEq_eq])
def sameScalsQ : List Value → List Value → Option Bool
  | [], [] => some true
  | x :: xs, y :: ys => match sameScalQ x y with
    | some true => sameScalsQ xs ys
    | some false => some false
    | none => none
  | _, _ => none
theorem sameScalsQ_eq : ∀ (x y : List Value), sameScalsQ x y = sameScals x y
  | [], [] => rfl
  | [], _ :: _ => rfl
  | _ :: _, [] => rfl
  | x :: xs, y :: ys => by
    rw [sameScalsQ, sameScals, sameScalQ_eq, sameScalsQ_eq xs ys]
    rfl
def sameAggQ (P : Program) (t : TypeId) (x y : List Value) : Option Bool :=
  match P.underlying t with
  | some (.struct fs) => if P.stoodInHeld t = false ∧ flatFields P 0 fs.toList = true ∧ scalsOf P fs.toList x = true ∧ scalsOf P fs.toList y = true then sameScalsQ x y else none
  | some (.array n e) => if flatScalar P e = true ∧ (P.info? e).map (·.size) = some 1 ∧ x.length = n ∧ y.length = n ∧ allScal P e x = true ∧ allScal P e y = true then sameScalsQ x y else none
  | _ => none
theorem sameAggQ_eq (P : Program) (t : TypeId) (x y : List Value) : sameAggQ P t x y = sameAgg P t x y := by
  unfold sameAggQ sameAgg
  rw [sameScalsQ_eq]
  rfl
def pBinEQ (P : Program) (t : TypeId) (x y : Value) : Option Bool :=
  match x, y with
  | .agg a, .agg b => if P.eqGuardType P.depth t = false then sameAggQ P t a.toList b.toList else none
  | x, y => pNil P t x y
theorem pBinEQ_eq (P : Program) (t : TypeId) (x y : Value) : pBinEQ P t x y = pBinE P t x y := by
  cases x <;> cases y <;> first | rfl | (simp only [pBinEQ, pBinE, sameAggQ_eq])
def pBinQ (P : Program) (op : BinOp) (t : TypeId) (x y : Value) : Option Value :=
  match op, x, y with
  | .shl, .int k a, .int _ b => pShift .shl k a b
  | .shr, .int k a, .int _ b => pShift .shr k a b
  | op, .int k a, .int k' b => if k = k' then pBinI op k a b else none
  | op, .string a, .string b => pBinSQ op a b
  | .eql, x, y => (pBinEQ P t x y).map .bool
  | .neq, x, y => (pBinEQ P t x y).map fun b => .bool !b
  | _, _, _ => none
theorem pBinQ_eq (P : Program) (op : BinOp) (t : TypeId) (x y : Value) : pBinQ P op t x y = pBin P op t x y := by
  cases x <;> cases y <;> cases op <;> first | rfl | (simp only [pBinQ, pBin, pBinSQ_eq, pBinEQ_eq])
def pIdxStrQ (x i : Value) : Option Value :=
  match x, i with
  | .string s, .int _ n => if 0 ≤ n then (s.data.toList[n.toNat]?).map fun b => .int .u8 b.toNat else none
  | _, _ => none
theorem bget (s : ByteArray) (n : Nat) : s[n]? = s.data.toList[n]? := by
  cases s with
  | mk d =>
    by_cases h : n < d.size
    · rw [getElem?_pos _ _ (by exact h), getElem?_pos _ _ (by simpa using h)]
      rfl
    · rw [getElem?_neg _ _ (by exact h), getElem?_neg _ _ (by simpa using h)]
theorem pIdxStrQ_eq (x i : Value) : pIdxStrQ x i = pIdxStr x i := by
  cases x <;> cases i <;> first | rfl | (simp only [pIdxStrQ, pIdxStr, bget])
def pIndexQ (P : Program) (t : TypeId) (x i : Value) : Option Value :=
  match P.underlying t with
  | some .string => pIdxStrQ x i
  | some (.array len e) => match P.info? e, isAggT P e, x, i with
    | some inf, some ag, .agg cs, .int _ n => if 0 ≤ n ∧ n < (len : Int) then partV ag inf.size cs.toList (n.toNat * inf.size) else none
    | _, _, _, _ => none
  | _ => none
theorem pIndexQ_eq (P : Program) (t : TypeId) (x i : Value) : pIndexQ P t x i = pIndex P t x i := by
  unfold pIndexQ pIndex
  rw [pIdxStrQ_eq]
  rfl
def pSliceStrQ (x : Value) (lo hi : Option Value) : Option Value :=
  match x with
  | .string s => match pSliceB hi s.size s.size with
    | some h => match pSliceB lo h 0 with
      | some l => some (.string (bCut s l h))
      | none => none
    | none => none
  | _ => none
theorem pSliceStrQ_eq (x : Value) (lo hi : Option Value) : pSliceStrQ x lo hi = pSliceStr x lo hi := by
  cases x <;> first | rfl | (simp only [pSliceStrQ, pSliceStr, bCut_eq]; rfl)
def pSliceQ (P : Program) (t : TypeId) (x : Value) (lo hi mx : Option Value) : Option Value :=
  match P.underlying t with
  | some .string => if mx.isNone then pSliceStrQ x lo hi else none
  | some (.slice e) => match P.info? e with
    | some i => if mx.isSome = true ∧ hi.isNone = true then none else pSliceSl i.size x lo hi mx
    | none => none
  | _ => none
theorem pSliceQ_eq (P : Program) (t : TypeId) (x : Value) (lo hi mx : Option Value) : pSliceQ P t x lo hi mx = pSlice P t x lo hi mx := by
  unfold pSliceQ pSlice
  rw [pSliceStrQ_eq]
  rfl
def rdRowG (ag : Bool) (n : Nat) (x : Value) (g : Look) : Option Value :=
  match x with
  | .pointer (some ⟨id, off, none⟩) => match g id with
    | some (.row c _) => if off + n ≤ c.length then partV ag n c off else none
    | _ => none
  | _ => none
def pLoadG (P : Program) (t : TypeId) (x : Value) (g : Look) : Option Value :=
  match P.info? t, isAggT P t with
  | some i, some true => rdRowG true i.size x g
  | some i, some false => if i.size = 1 then rdRowG false 1 x g else none
  | _, _ => none
theorem pLoadG_eq (P : Program) (t : TypeId) (x : Value) (h : AH) : pLoadG P t x (fun i => h[i]?) = pLoad P t x h := rfl
def pBytesStrG (x : Value) (g : Look) : Option Value :=
  match x with
  | .slice none _ _ => some (.string ⟨#[]⟩)
  | .slice (some ⟨id, off, none⟩) len _ => match g id with
    | some (.row c _) => if 0 < len ∧ off + len ≤ c.length then (bytesOf ((c.drop off).take len)).map fun l => .string ⟨l.toArray⟩ else if len = 0 then some (.string ⟨#[]⟩) else none
    | _ => none
  | _ => none
theorem pBytesStrG_eq (x : Value) (h : AH) : pBytesStrG x (fun i => h[i]?) = pBytesStr x h := rfl
def srcLG (s : Nat) (x : Value) (g : Look) : Option (Nat × List Value) :=
  match x with
  | .slice none 0 _ => some (0, [])
  | .slice (some ⟨id, off, none⟩) n _ => if n = 0 then some (0, []) else match g id with
    | some (.row c _) => if off + n * s ≤ c.length then some (n, (c.drop off).take (n * s)) else none
    | _ => none
  | .string b => if s = 1 then some (b.size, bytesL b) else none
  | _ => none
theorem srcLG_eq (s : Nat) (x : Value) (h : AH) : srcLG s x (fun i => h[i]?) = srcL s x h := rfl
def firstLG (n : Nat) (a : Option Addr) (g : Look) : Option (List Value) :=
  if n = 0 then some [] else
  match a with
  | some ⟨id, off, none⟩ => match g id with
    | some (.row c _) => if off + n ≤ c.length then some ((c.drop off).take n) else none
    | _ => none
  | _ => none
theorem firstLG_eq (n : Nat) (a : Option Addr) (h : AH) : firstLG n a (fun i => h[i]?) = firstL n a h := rfl
def entsOfG (x : Value) (g : Look) : Option (List Ent) :=
  match x with
  | .map none => some []
  | .map (some id) => match g id with
    | some (.map es _) => some es
    | _ => none
  | _ => none
def keyEqQ (P : Program) (kt : TypeId) (x y : Value) : Option Bool :=
  match x, y with
  | .agg a, .agg b => sameAggQ P kt a.toList b.toList
  | x, y => if isScal P kt x = true ∧ isScal P kt y = true then sameScalQ x y else none
theorem keyEqQ_eq (P : Program) (kt : TypeId) (x y : Value) : keyEqQ P kt x y = keyEq P kt x y := by
  cases x <;> cases y <;> first | rfl | (simp only [keyEqQ, keyEq, sameAggQ_eq, sameScalQ_eq])
def findLQ (P : Program) (kt : TypeId) (k : Value) : List Ent → Nat → Option (Option (Nat × Value))
  | [], _ => some none
  | e :: es, i => match keyEqQ P kt k e.1 with
    | some true => some (some (i, e.2.1))
    | some false => findLQ P kt k es (i + 1)
    | none => none
theorem findLQ_eq (P : Program) (kt : TypeId) (k : Value) : ∀ (es : List Ent) (i : Nat), findLQ P kt k es i = findL P kt k es i
  | [], _ => rfl
  | e :: es, i => by rw [findLQ, findL, keyEqQ_eq, findLQ_eq P kt k es]; rfl
def pLookupG (P : Program) (t : TypeId) (x k : Value) (ok : Bool) (g : Look) : Option Value :=
  match P.underlying t with
  | some (.map kt et) => match zeroV P et, entsOfG x g with
    | some z, some es => if (keyEqQ P kt k k).isSome = true then match findLQ P kt k es 0 with
        | some (some (_, v)) => some (okV ok v true)
        | some none => some (okV ok z false)
        | none => none
      else none
    | _, _ => none
  | _ => none
theorem pLookupG_eq (P : Program) (t : TypeId) (x k : Value) (ok : Bool) (h : AH) : pLookupG P t x k ok (fun i => h[i]?) = pLookup P t x k ok h := by
  unfold pLookupG pLookup keyOK
  simp only [findLQ_eq, keyEqQ_eq]
  rfl
def pLenMapG (x : Value) (g : Look) : Option Value := (entsOfG x g).map fun es => .int .i64 es.length
def lenG (P : Program) (t : TypeId) (x : Value) (g : Look) : Option Value :=
  match P.underlying t with
  | some (.map ..) => pLenMapG x g
  | _ => pLen P t x
theorem lenG_eq (P : Program) (t : TypeId) (x : Value) (h : AH) : lenG P t x (fun i => h[i]?) = lenW P t x h := rfl
def pEntryG (it : Value) (g : Look) : Option Value :=
  match it with
  | .pointer (some ⟨r, 0, none⟩) => match g r with
    | some (.mapIter (some m) _ seen stepped) => match seen.getLast?, g m with
      | some stamp, some (.map es ck) => if ck = stepped then (es.find? fun e => e.2.2 == stamp).map fun e => .tuple #[e.1, e.2.1] else none
      | _, _ => none
    | _ => none
  | _ => none
theorem pEntryG_eq (it : Value) (h : AH) : pEntryG it (fun i => h[i]?) = pEntry it h := rfl
def setH (h : AH) (u : Nat × AObj) : AH := h.set u.1 u.2
def stRowG (x : Value) (vs : List Value) (g : Look) : Option (Nat × AObj) :=
  match x with
  | .pointer (some ⟨id, off, none⟩) => match g id with
    | some (.row c true) => if off + vs.length ≤ c.length then some (id, .row (spliceL c off vs) true) else none
    | _ => none
  | _ => none
theorem stRowG_eq {x : Value} {vs : List Value} {h : AH} {u : Nat × AObj} (hu : stRowG x vs (fun i => h[i]?) = some u) : stRow x vs h = some (setH h u) := by
  unfold stRowG at hu
  split at hu
  · split at hu
    · rename_i he
      split at hu
      · rename_i hl
        cases hu
        simp only [stRow]
        rw [show h[_]? = _ from he]
        simp only [if_pos hl]
        rfl
      · cases hu
    · cases hu
  · cases hu
theorem stRowG_in {x : Value} {vs : List Value} {g : Look} {u : Nat × AObj} (hu : stRowG x vs g = some u) : ∃ o, g u.1 = some o := by
  unfold stRowG at hu
  split at hu
  · split at hu
    · rename_i he
      split at hu
      · cases hu; exact ⟨_, he⟩
      · cases hu
    · cases hu
  · cases hu
def stOfG (P : Program) (t : TypeId) (x v : Value) (g : Look) : Option (Nat × AObj) :=
  match P.info? t with
  | some i => if (cellsL v).length = i.size ∧ (cellsL v).all (·.oneCell') = true then stRowG x (cellsL v) g else none
  | none => none
theorem stOfG_eq {P : Program} {t : TypeId} {x v : Value} {h : AH} {u : Nat × AObj} (hu : stOfG P t x v (fun i => h[i]?) = some u) : stOf P t x v h = some (setH h u) := by
  unfold stOfG at hu
  unfold stOf
  split at hu
  · rename_i hi
    simp only [hi, pStore]
    split at hu
    · rename_i hc
      rw [if_pos hc]
      exact stRowG_eq hu
    · cases hu
  · cases hu
theorem stOfG_in {P : Program} {t : TypeId} {x v : Value} {g : Look} {u : Nat × AObj} (hu : stOfG P t x v g = some u) : ∃ o, g u.1 = some o := by
  unfold stOfG at hu
  split at hu
  · split at hu
    · exact stRowG_in hu
    · cases hu
  · cases hu
def pMapUpdG (P : Program) (t : TypeId) (x k v : Value) (g : Look) : Option (Nat × AObj) :=
  match P.underlying t, x with
  | some (.map kt _), .map (some id) => match g id with
    | some (.map es ck) => if (keyEqQ P kt k k).isSome = true then match findLQ P kt k es 0 with
        | some (some (i, _)) => some (id, .map (es.modify i fun e => (e.1, v, e.2.2)) ck)
        | some none => some (id, .map (es ++ [(k, v, ck)]) (ck + 1))
        | none => none
      else none
    | _ => none
  | _, _ => none
theorem pMapUpdG_eq {P : Program} {t : TypeId} {x k v : Value} {h : AH} {u : Nat × AObj} (hu : pMapUpdG P t x k v (fun i => h[i]?) = some u) : pMapUpd P t x k v h = some (setH h u) := by
  unfold pMapUpdG at hu
  unfold pMapUpd
  split at hu
  · rename_i ht
    simp only [ht]
    split at hu
    · rename_i he
      rw [show h[_]? = _ from he]
      split at hu
      · rename_i hk
        rw [keyEqQ_eq] at hk
        simp only [show keyOK P _ k = true from hk, if_true]
        simp only [findLQ_eq] at hu
        split at hu
        · rename_i hf; cases hu; rw [hf]; rfl
        · rename_i hf; cases hu; rw [hf]; rfl
        · cases hu
      · cases hu
    · cases hu
  · cases hu
theorem pMapUpdG_in {P : Program} {t : TypeId} {x k v : Value} {g : Look} {u : Nat × AObj} (hu : pMapUpdG P t x k v g = some u) : ∃ o, g u.1 = some o := by
  unfold pMapUpdG at hu
  split at hu
  · split at hu
    · rename_i he
      split at hu
      · split at hu
        · cases hu; exact ⟨_, he⟩
        · cases hu; exact ⟨_, he⟩
        · cases hu
      · cases hu
    · cases hu
  · cases hu
def pLookG (P : Program) (t : TypeId) (x k : Value) (ok : Bool) (g : Look) : Option Value :=
  match ptrKeyT P t with
  | true => pLookupP P t x k ok g
  | false => pLookupG P t x k ok g
theorem pLookG_eq (P : Program) (t : TypeId) (x k : Value) (ok : Bool) (h : AH) : pLookG P t x k ok (fun i => h[i]?) = pLook P t x k ok h := by
  unfold pLookG pLook
  cases ptrKeyT P t with
  | true => rfl
  | false => exact pLookupG_eq P t x k ok h
def pMapUG (P : Program) (t : TypeId) (x k v : Value) (g : Look) : Option (Nat × AObj) :=
  match ptrKeyT P t with
  | true => pMapUpdP P t x k v g
  | false => pMapUpdG P t x k v g
theorem pMapUG_eq {P : Program} {t : TypeId} {x k v : Value} {h : AH} {u : Nat × AObj} (hu : pMapUG P t x k v (fun i => h[i]?) = some u) : pMapU P t x k v h = some (setH h u) := by
  unfold pMapUG at hu
  unfold pMapU
  cases hk : ptrKeyT P t with
  | true =>
    rw [hk] at hu
    dsimp only at hu ⊢
    rw [hu]
    rfl
  | false => rw [hk] at hu; exact pMapUpdG_eq hu
theorem pMapUG_in {P : Program} {t : TypeId} {x k v : Value} {g : Look} {u : Nat × AObj} (hu : pMapUG P t x k v g = some u) : ∃ o, g u.1 = some o := by
  unfold pMapUG at hu
  cases hk : ptrKeyT P t with
  | true =>
    rw [hk] at hu
    dsimp only at hu
    unfold pMapUpdP at hu
    split at hu
    · split at hu
      · rename_i hid _
        cases hf : findP g _ _ 0 with
        | none => rw [hf] at hu; cases hu
        | some r =>
          rw [hf] at hu
          cases r with
          | none => simp only [Option.some.injEq] at hu; subst hu; exact ⟨_, hid⟩
          | some jv => simp only [Option.some.injEq] at hu; subst hu; exact ⟨_, hid⟩
      · cases hu
    · cases hu
  | false => rw [hk] at hu; exact pMapUpdG_in hu
end Go.AM
end

section
/- Rules for walking through printed functions: numbers, tests, words. Conditions: none. -/
namespace Go.AM
open Go
variable {P : Program} {t : Nat}
theorem w_some {α : Type} {o : Option α} {v : α} {K : α → Prop} (h : o = some v) (k : K v) : optW o K := by rw [h]; exact k
theorem wrap_in (n : Int) (h1 : -9223372036854775808 ≤ n) (h2 : n ≤ 9223372036854775807) : IntKind.i64.wrap n = n := by
  simp only [IntKind.wrap, IntKind.bits, IntKind.signed]
  simp
  omega
theorem w_add {a b : Int} {K : Value → Prop} (h1 : -9223372036854775808 ≤ a + b) (h2 : a + b ≤ 9223372036854775807) (k : K (.int .i64 (a + b))) : optW (pBin P .add t (.int .i64 a) (.int .i64 b)) K := by
  refine w_some (v := .int .i64 (a + b)) ?_ k
  show (if IntKind.i64 = IntKind.i64 then pBinI .add .i64 a b else none) = _
  rw [if_pos rfl, pBinI, wrap_in _ h1 h2]
theorem w_sub {a b : Int} {K : Value → Prop} (h1 : -9223372036854775808 ≤ a - b) (h2 : a - b ≤ 9223372036854775807) (k : K (.int .i64 (a - b))) : optW (pBin P .sub t (.int .i64 a) (.int .i64 b)) K := by
  refine w_some (v := .int .i64 (a - b)) ?_ k
  show (if IntKind.i64 = IntKind.i64 then pBinI .sub .i64 a b else none) = _
  rw [if_pos rfl, pBinI, wrap_in _ h1 h2]
theorem w_mul {a b : Int} {K : Value → Prop} (h1 : -9223372036854775808 ≤ a * b) (h2 : a * b ≤ 9223372036854775807) (k : K (.int .i64 (a * b))) : optW (pBin P .mul t (.int .i64 a) (.int .i64 b)) K := by
  refine w_some (v := .int .i64 (a * b)) ?_ k
  show (if IntKind.i64 = IntKind.i64 then pBinI .mul .i64 a b else none) = _
  rw [if_pos rfl, pBinI, wrap_in _ h1 h2]
theorem w_tmod {kd : IntKind} {a b : Int} {K : Value → Prop} (h : b ≠ 0) (k : K (.int kd (a.tmod b))) : optW (pBin P .rem t (.int kd a) (.int kd b)) K := by
  refine w_some (v := .int kd (a.tmod b)) ?_ k
  show (if kd = kd then pBinI .rem kd a b else none) = _
  rw [if_pos rfl, pBinI, if_neg h]
theorem w_rem {kd : IntKind} {a b : Int} {K : Value → Prop} (h : 0 < b) (h0 : 0 ≤ a) (k : K (.int kd (a % b))) : optW (pBin P .rem t (.int kd a) (.int kd b)) K := by
  refine w_tmod (by omega) ?_
  rw [Int.tmod_eq_emod_of_nonneg h0]
  exact k
theorem w_quo {a b : Int} {K : Value → Prop} (h : 0 < b) (h0 : 0 ≤ a) (h1 : a ≤ 9223372036854775807) (k : K (.int .i64 (a / b))) : optW (pBin P .quo t (.int .i64 a) (.int .i64 b)) K := by
  refine w_some (v := .int .i64 (a / b)) ?_ k
  show (if IntKind.i64 = IntKind.i64 then pBinI .quo .i64 a b else none) = _
  rw [if_pos rfl, pBinI, if_neg (by omega), Int.tdiv_eq_ediv_of_nonneg h0]
  have g1 : 0 ≤ a / b := Int.ediv_nonneg h0 (by omega)
  have g2 : a / b ≤ a := Int.ediv_le_self _ h0
  rw [wrap_in _ (by omega) (by omega)]
theorem w_lss {kd : IntKind} {a b : Int} {K : Value → Prop} (k : K (.bool (decide (a < b)))) : optW (pBin P .lss t (.int kd a) (.int kd b)) K := by
  refine w_some (v := .bool (decide (a < b))) ?_ k
  show (if kd = kd then pBinI .lss kd a b else none) = _
  rw [if_pos rfl, pBinI]
theorem w_leq {kd : IntKind} {a b : Int} {K : Value → Prop} (k : K (.bool (decide (a ≤ b)))) : optW (pBin P .leq t (.int kd a) (.int kd b)) K := by
  refine w_some (v := .bool (decide (a ≤ b))) ?_ k
  show (if kd = kd then pBinI .leq kd a b else none) = _
  rw [if_pos rfl, pBinI]
theorem w_gtr {kd : IntKind} {a b : Int} {K : Value → Prop} (k : K (.bool (decide (b < a)))) : optW (pBin P .gtr t (.int kd a) (.int kd b)) K := by
  refine w_some (v := .bool (decide (b < a))) ?_ k
  show (if kd = kd then pBinI .gtr kd a b else none) = _
  rw [if_pos rfl, pBinI]
theorem w_geq {kd : IntKind} {a b : Int} {K : Value → Prop} (k : K (.bool (decide (b ≤ a)))) : optW (pBin P .geq t (.int kd a) (.int kd b)) K := by
  refine w_some (v := .bool (decide (b ≤ a))) ?_ k
  show (if kd = kd then pBinI .geq kd a b else none) = _
  rw [if_pos rfl, pBinI]
theorem w_eql {kd : IntKind} {a b : Int} {K : Value → Prop} (k : K (.bool (decide (a = b)))) : optW (pBin P .eql t (.int kd a) (.int kd b)) K := by
  refine w_some (v := .bool (decide (a = b))) ?_ k
  show (if kd = kd then pBinI .eql kd a b else none) = _
  rw [if_pos rfl, pBinI]
  rfl
theorem w_neq {kd : IntKind} {a b : Int} {K : Value → Prop} (k : K (.bool (decide (¬ a = b)))) : optW (pBin P .neq t (.int kd a) (.int kd b)) K := by
  refine w_some (v := .bool (decide (¬ a = b))) ?_ k
  show (if kd = kd then pBinI .neq kd a b else none) = _
  rw [if_pos rfl, pBinI]
  congr 2
  by_cases h : a = b <;> simp [h]
theorem bs_size (l : List UInt8) : (bs l).size = l.length := rfl
theorem bs_data (l : List UInt8) : (bs l).data.toList = l := rfl
theorem bs_inj {l m : List UInt8} : bs l = bs m ↔ l = m := ⟨fun h => by have := congrArg (fun s => s.data.toList) h; exact this, fun h => by rw [h]⟩
theorem w_cat {l m : List UInt8} {K : Value → Prop} (h : l.length + m.length < 9223372036854775808) (k : K (.string (bs (l ++ m)))) : optW (pBin P .add t (.string (bs l)) (.string (bs m))) K := by
  refine w_some (v := .string (bs (l ++ m))) ?_ k
  show pBinS .add (bs l) (bs m) = _
  rw [pBinS, if_pos (by rw [bs_size, bs_size]; exact h), ← bCat_eq]
  rfl
theorem w_seql {l m : List UInt8} {K : Value → Prop} (k : K (.bool (decide (l = m)))) : optW (pBin P .eql t (.string (bs l)) (.string (bs m))) K := by
  refine w_some (v := .bool (decide (l = m))) ?_ k
  show pBinS .eql (bs l) (bs m) = _
  rw [pBinS, bytes_toList, bytes_toList, bs_data, bs_data]
  congr 2
  by_cases h : l = m <;> simp [h]
theorem w_sneq {l m : List UInt8} {K : Value → Prop} (k : K (.bool (decide (¬ l = m)))) : optW (pBin P .neq t (.string (bs l)) (.string (bs m))) K := by
  refine w_some (v := .bool (decide (¬ l = m))) ?_ k
  show pBinS .neq (bs l) (bs m) = _
  rw [pBinS, bytes_toList, bytes_toList, bs_data, bs_data]
  congr 2
  by_cases h : l = m <;> simp [h]
theorem w_lenStr {l : List UInt8} {K : Value → Prop} (k : K (.int .i64 (l.length : Nat))) : optW (lenStr (.string (bs l))) K := k
theorem w_idxStr {l : List UInt8} {i : Int} {kd : IntKind} {b : UInt8} {K : Value → Prop} (h0 : 0 ≤ i) (hb : l[i.toNat]? = some b) (k : K (.int .u8 b.toNat)) : optW (pIdxStr (.string (bs l)) (.int kd i)) K := by
  refine w_some (v := .int .u8 b.toNat) ?_ k
  rw [← pIdxStrQ_eq, pIdxStrQ, if_pos h0, bs_data, hb]
  rfl
theorem pSliceB_in {i : Int} {kd : IntKind} {y d : Nat} (h0 : 0 ≤ i) (h1 : i ≤ (y : Int)) : pSliceB (some (.int kd i)) y d = some i.toNat := by
  rw [pSliceB, if_pos ⟨h0, h1⟩]
theorem w_dropStr {l : List UInt8} {i : Int} {kd : IntKind} {K : Value → Prop} (h0 : 0 ≤ i) (h1 : i ≤ (l.length : Nat)) (k : K (.string (bs (l.drop i.toNat)))) : optW (pSliceStr (.string (bs l)) (some (.int kd i)) none) K := by
  refine w_some (v := .string (bs (l.drop i.toNat))) ?_ k
  rw [← pSliceStrQ_eq, pSliceStrQ]
  simp only [pSliceB, bs_size]
  rw [if_pos ⟨h0, h1⟩]
  simp only [bCut, bs_data]
  rw [List.take_of_length_le (by simp)]
  rfl
theorem w_takeStr {l : List UInt8} {j : Int} {kd : IntKind} {K : Value → Prop} (h0 : 0 ≤ j) (h1 : j ≤ (l.length : Nat)) (k : K (.string (bs (l.take j.toNat)))) : optW (pSliceStr (.string (bs l)) none (some (.int kd j))) K := by
  refine w_some (v := .string (bs (l.take j.toNat))) ?_ k
  rw [← pSliceStrQ_eq, pSliceStrQ, pSliceB_in h0 (by rw [bs_size]; exact h1)]
  simp only [pSliceB, bCut, bs_data]
  rfl
theorem w_not {p : Prop} [Decidable p] {K : Value → Prop} (k : K (.bool (decide (¬ p)))) : optW (pUn .not (.bool (decide p))) K := by
  refine w_some (v := .bool (decide (¬ p))) ?_ k
  by_cases h : p <;> simp [pUn, h]
theorem w_notb {b : Bool} {K : Value → Prop} (k : K (.bool (!b))) : optW (pUn .not (.bool b)) K := k
theorem pk_tt {p : Prop} [Decidable p] {a b : Value} {K : Value → Prop} (h : p) (k : K a) : optW (pPick (.bool (decide p)) a b) K := by
  rw [decide_eq_true h]; exact k
theorem pk_ff {p : Prop} [Decidable p] {a b : Value} {K : Value → Prop} (h : ¬ p) (k : K b) : optW (pPick (.bool (decide p)) a b) K := by
  rw [decide_eq_false h]; exact k
theorem pk_t {a b : Value} {K : Value → Prop} (k : K a) : optW (pPick (.bool true) a b) K := k
theorem pk_f {a b : Value} {K : Value → Prop} (k : K b) : optW (pPick (.bool false) a b) K := k
theorem c_dec {p : Prop} [Decidable p] {A B : Prop} (ha : p → A) (hb : ¬ p → B) : condW (.bool (decide p)) A B := by
  by_cases h : p
  · rw [decide_eq_true h]; exact ha h
  · rw [decide_eq_false h]; exact hb h
theorem c_tt {p : Prop} [Decidable p] {A B : Prop} (h : p) (ha : A) : condW (.bool (decide p)) A B := by
  rw [decide_eq_true h]; exact ha
theorem c_ff {p : Prop} [Decidable p] {A B : Prop} (h : ¬ p) (hb : B) : condW (.bool (decide p)) A B := by
  rw [decide_eq_false h]; exact hb
theorem c_t {A B : Prop} (ha : A) : condW (.bool true) A B := ha
theorem c_f {A B : Prop} (hb : B) : condW (.bool false) A B := hb
theorem c_b {b : Bool} {A B : Prop} (ha : b = true → A) (hb : b = false → B) : condW (.bool b) A B := by
  cases b with
  | true => exact ha rfl
  | false => exact hb rfl
theorem g_dec {p : Prop} [Decidable p] {f : (Value → AH → Prop) → Prop} {h : AH} {K : Value → AH → Prop} (ha : p → f K) (hb : ¬ p → K undef h) : gopW (gB (.bool (decide p)) true) f h K := by
  by_cases h : p
  · rw [decide_eq_true h]; exact ha h
  · rw [decide_eq_false h]; exact hb h
theorem g_decf {p : Prop} [Decidable p] {f : (Value → AH → Prop) → Prop} {h : AH} {K : Value → AH → Prop} (ha : p → K undef h) (hb : ¬ p → f K) : gopW (gB (.bool (decide p)) false) f h K := by
  by_cases h : p
  · rw [decide_eq_true h]; exact ha h
  · rw [decide_eq_false h]; exact hb h
theorem g_tt {p : Prop} [Decidable p] {f : (Value → AH → Prop) → Prop} {h : AH} {K : Value → AH → Prop} (hp : p) (k : f K) : gopW (gB (.bool (decide p)) true) f h K := by
  rw [decide_eq_true hp]; exact k
theorem g_tf {p : Prop} [Decidable p] {f : (Value → AH → Prop) → Prop} {h : AH} {K : Value → AH → Prop} (hp : ¬ p) (k : K undef h) : gopW (gB (.bool (decide p)) true) f h K := by
  rw [decide_eq_false hp]; exact k
theorem g_ft {p : Prop} [Decidable p] {f : (Value → AH → Prop) → Prop} {h : AH} {K : Value → AH → Prop} (hp : p) (k : K undef h) : gopW (gB (.bool (decide p)) false) f h K := by
  rw [decide_eq_true hp]; exact k
theorem g_ff {p : Prop} [Decidable p] {f : (Value → AH → Prop) → Prop} {h : AH} {K : Value → AH → Prop} (hp : ¬ p) (k : f K) : gopW (gB (.bool (decide p)) false) f h K := by
  rw [decide_eq_false hp]; exact k
theorem gc_tt {f : (Value → AH → Prop) → Prop} {h : AH} {K : Value → AH → Prop} (k : f K) : gopW (gB (.bool true) true) f h K := k
theorem gc_ft {f : (Value → AH → Prop) → Prop} {h : AH} {K : Value → AH → Prop} (k : K undef h) : gopW (gB (.bool true) false) f h K := k
theorem gc_tf {f : (Value → AH → Prop) → Prop} {h : AH} {K : Value → AH → Prop} (k : K undef h) : gopW (gB (.bool false) true) f h K := k
theorem gc_ff {f : (Value → AH → Prop) → Prop} {h : AH} {K : Value → AH → Prop} (k : f K) : gopW (gB (.bool false) false) f h K := k
theorem w_lenSl {a : Option Addr} {n c : Nat} {K : Value → Prop} (k : K (.int .i64 n)) : optW (lenSl (.slice a n c)) K := k
end Go.AM
end

section
/- Rules for walking through printed functions: memory. Conditions: none. -/
namespace Go.AM
open Go
structure Ex (h h' : AH) : Prop where
  len : h.length ≤ h'.length
  get : ∀ j, j < h.length → h'[j]? = h[j]?
theorem Ex.refl (h : AH) : Ex h h := ⟨Nat.le_refl _, fun _ _ => rfl⟩
theorem Ex.trans {a b c : AH} (x : Ex a b) (y : Ex b c) : Ex a c := ⟨Nat.le_trans x.len y.len, fun j hj => (y.get j (Nat.lt_of_lt_of_le hj x.len)).trans (x.get j hj)⟩
theorem Ex.app (h : AH) (t : AH) : Ex h (h ++ t) := ⟨by simp, fun j hj => List.getElem?_append_left hj⟩
theorem Ex.push {a h : AH} (x : Ex a h) (o : AObj) : Ex a (h ++ [o]) := x.trans (.app h [o])
theorem Ex.set {a h : AH} (x : Ex a h) {i : Nat} (hi : a.length ≤ i) (o : AObj) : Ex a (h.set i o) :=
  ⟨by rw [List.length_set]; exact x.len, fun j hj => by rw [List.getElem?_set, if_neg (by omega)]; exact x.get j hj⟩
theorem Ex.some {h h' : AH} (x : Ex h h') {i : Nat} {o : AObj} (hi : h[i]? = some o) : h'[i]? = some o := by
  rw [x.get i (List.getElem?_eq_some_iff.1 hi).1]; exact hi
theorem lt_of_get {h : AH} {i : Nat} {o : AObj} (hi : h[i]? = some o) : i < h.length := (List.getElem?_eq_some_iff.1 hi).1
theorem get_new (h : AH) (o : AObj) : (h ++ [o])[h.length]? = some o := by simp
theorem get_set (h : AH) {i : Nat} (hi : i < h.length) (o : AObj) : (h.set i o)[i]? = some o := by simp [hi]
theorem get_ne {h : AH} {i j : Nat} (hij : i ≠ j) (o : AObj) : (h.set i o)[j]? = h[j]? := by simp [hij]
def PtrTo (h : AH) (p : Value) (cs : List Value) : Prop := ∃ id off c w, p = .pointer (some ⟨id, off, none⟩) ∧ h[id]? = some (.row c w) ∧ off + cs.length ≤ c.length ∧ (c.drop off).take cs.length = cs
theorem PtrTo.ex {h h' : AH} {p : Value} {cs : List Value} (hp : PtrTo h p cs) (x : Ex h h') : PtrTo h' p cs := by
  obtain ⟨id, off, c, w, rfl, h1, h2, h3⟩ := hp
  exact ⟨id, off, c, w, rfl, x.some h1, h2, h3⟩
theorem w_rd1 {h : AH} {p : Value} {cs : List Value} {x : Value} {K : Value → Prop} (hp : PtrTo h p cs) (hx : cs[0]? = some x) (k : K x) : optW (rdRow false 1 p h) K := by
  obtain ⟨id, off, c, w, rfl, h1, h2, h3⟩ := hp
  have hl : 0 < cs.length := (List.getElem?_eq_some_iff.1 hx).1
  refine w_some (v := x) ?_ k
  simp only [rdRow, h1, if_pos (show off + 1 ≤ c.length by omega), partV]
  rw [← h3] at hx
  simpa [hl] using hx
theorem w_rdA {h : AH} {p : Value} {cs : List Value} {n : Nat} {K : Value → Prop} (hp : PtrTo h p cs) (hn : n = cs.length) (k : K (.agg cs.toArray)) : optW (rdRow true n p h) K := by
  obtain ⟨id, off, c, w, rfl, h1, h2, h3⟩ := hp
  subst hn
  refine w_some (v := .agg cs.toArray) ?_ k
  simp only [rdRow, h1, if_pos h2, partV, h3]
theorem w_off {h : AH} {p : Value} {cs : List Value} {o : Nat} {K : Value → Prop} (hp : PtrTo h p cs) (ho : o ≤ cs.length) (k : ∀ q, PtrTo h q (cs.drop o) → K q) : optW (pOff o p) K := by
  obtain ⟨id, off, c, w, rfl, h1, h2, h3⟩ := hp
  refine w_some (v := .pointer (some ⟨id, off + o, none⟩)) rfl (k _ ⟨id, off + o, c, w, rfl, h1, by simp; omega, ?_⟩)
  have : cs.drop o = ((c.drop off).take cs.length).drop o := by rw [h3]
  rw [this, List.drop_take, List.drop_drop]
  simp [List.length_drop]
def Sl (s : Nat) (h : AH) (v : Value) (n : Nat) (cs : List Value) : Prop :=
  cs.length = n * s ∧ ((v = .slice none 0 0 ∧ n = 0) ∨ ∃ id off cap, v = .slice (some ⟨id, off, none⟩) n cap ∧ (cap < openCap ∧ n ≤ cap ∨ cap = openCap + s) ∧
    (n = 0 ∨ ∃ c w, h[id]? = some (.row c w) ∧ off + n * s ≤ c.length ∧ (c.drop off).take (n * s) = cs))
theorem Sl.ex {s : Nat} {h h' : AH} {v : Value} {n : Nat} {cs : List Value} (hv : Sl s h v n cs) (x : Ex h h') : Sl s h' v n cs := by
  refine ⟨hv.1, ?_⟩
  rcases hv.2 with h1 | ⟨id, off, cap, h1, h2, h3⟩
  · exact .inl h1
  · refine .inr ⟨id, off, cap, h1, h2, ?_⟩
    rcases h3 with h3 | ⟨c, w, h3, h4⟩
    · exact .inl h3
    · exact .inr ⟨c, w, x.some h3, h4⟩
theorem Sl.shape {s : Nat} {h : AH} {v : Value} {n : Nat} {cs : List Value} (hv : Sl s h v n cs) : ∃ a cap, v = .slice a n cap := by
  rcases hv.2 with ⟨rfl, rfl⟩ | ⟨id, off, cap, h1, _⟩
  · exact ⟨_, _, rfl⟩
  · exact ⟨_, _, h1⟩
theorem w_len {s : Nat} {h : AH} {v : Value} {n : Nat} {cs : List Value} {K : Value → Prop} (hv : Sl s h v n cs) (k : K (.int .i64 n)) : optW (lenSl v) K := by
  obtain ⟨a, cap, rfl⟩ := hv.shape
  exact k
theorem w_idx {s : Nat} {h : AH} {v : Value} {n : Nat} {cs : List Value} {kd : IntKind} {i : Int} {K : Value → Prop} (hv : Sl s h v n cs) (h0 : 0 ≤ i) (hi : i < (n : Int))
    (k : ∀ p, PtrTo h p ((cs.drop (i.toNat * s)).take s) → K p) : optW (pIdxS s v (.int kd i)) K := by
  rcases hv.2 with ⟨rfl, rfl⟩ | ⟨id, off, cap, rfl, _, h3⟩
  · omega
  · rcases h3 with rfl | ⟨c, w, h3, h4, h5⟩
    · omega
    · refine w_some (v := .pointer (some ⟨id, off + i.toNat * s, none⟩)) (by rw [pIdxS, if_pos ⟨h0, hi⟩]) (k _ ⟨id, off + i.toNat * s, c, w, rfl, h3, ?_, ?_⟩)
      · have h6 : (i.toNat + 1) * s ≤ n * s := Nat.mul_le_mul_right s (by omega)
        rw [Nat.add_mul] at h6
        have h7 : ((cs.drop (i.toNat * s)).take s).length ≤ s := List.length_take_le _ _
        omega
      · have h6 : (i.toNat + 1) * s ≤ n * s := Nat.mul_le_mul_right s (by omega)
        rw [Nat.add_mul] at h6
        have hl : ((cs.drop (i.toNat * s)).take s).length = s := by
          rw [List.length_take, List.length_drop, hv.1]; omega
        rw [hl, ← h5, List.drop_take, List.drop_drop, List.take_take]
        congr 1
        omega
def flat {α : Type} (enc : α → List Value) (l : List α) : List Value := l.flatMap enc
theorem flat_length {α : Type} {enc : α → List Value} {s : Nat} (he : ∀ x, (enc x).length = s) : ∀ (l : List α), (flat enc l).length = l.length * s
  | [] => by simp [flat]
  | x :: l => by
    have := flat_length he l
    simp only [flat, List.flatMap_cons, List.length_append, he, List.length_cons, Nat.add_mul] at this ⊢
    omega
theorem flat_append {α : Type} (enc : α → List Value) (l m : List α) : flat enc (l ++ m) = flat enc l ++ flat enc m := by simp [flat]
theorem flat_at {α : Type} {enc : α → List Value} {s : Nat} (he : ∀ x, (enc x).length = s) : ∀ (l : List α) (i : Nat) (x : α), l[i]? = some x → ((flat enc l).drop (i * s)).take s = enc x
  | [], i, x, h => by simp at h
  | y :: l, 0, x, h => by
    simp only [List.getElem?_cons_zero, Option.some.injEq] at h
    subst h
    simp [flat, ← he y]
  | y :: l, i + 1, x, h => by
    simp only [List.getElem?_cons_succ] at h
    have := flat_at he l i x h
    rw [← this]
    simp only [flat, List.flatMap_cons]
    rw [Nat.add_mul, Nat.one_mul, Nat.add_comm, ← he y, ← List.drop_drop, List.drop_left]
def SlT {α : Type} (s : Nat) (enc : α → List Value) (h : AH) (v : Value) (l : List α) : Prop := Sl s h v l.length (flat enc l)
theorem w_idxT {α : Type} {s : Nat} {enc : α → List Value} (he : ∀ x, (enc x).length = s) {h : AH} {v : Value} {l : List α} {kd : IntKind} {i : Int} {x : α} {K : Value → Prop} (hv : SlT s enc h v l) (h0 : 0 ≤ i) (hx : l[i.toNat]? = some x)
    (k : ∀ p, PtrTo h p (enc x) → K p) : optW (pIdxS s v (.int kd i)) K := by
  have hi : i.toNat < l.length := (List.getElem?_eq_some_iff.1 hx).1
  refine w_idx hv h0 (by omega) fun p hp => k p ?_
  rw [flat_at he l _ x hx] at hp
  exact hp
def eI (n : Int) : List Value := [.int .i64 n]
def eB (b : UInt8) : List Value := [.int .u8 b.toNat]
def eS (s : List UInt8) : List Value := [.string (bs s)]
def eBo (b : Bool) : List Value := [.bool b]
abbrev Ints := SlT 1 eI
abbrev Strs := SlT 1 eS
theorem eI_len (n : Int) : (eI n).length = 1 := rfl
theorem eS_len (n : List UInt8) : (eS n).length = 1 := rfl
theorem eBo_len (n : Bool) : (eBo n).length = 1 := rfl
def OwnSl (s : Nat) (b : Nat) (h : AH) (v : Value) (n : Nat) (cs : List Value) : Prop :=
  (v = .slice none 0 0 ∧ n = 0 ∧ cs = []) ∨ ∃ id, b ≤ id ∧ v = .slice (some ⟨id, 0, none⟩) n (openCap + s) ∧ h[id]? = some (.row cs true) ∧ cs.length = n * s
theorem OwnSl.sl {s b : Nat} {h : AH} {v : Value} {n : Nat} {cs : List Value} (ho : OwnSl s b h v n cs) : Sl s h v n cs := by
  rcases ho with ⟨rfl, rfl, rfl⟩ | ⟨id, hb, rfl, h1, h2⟩
  · exact ⟨by simp, .inl ⟨rfl, rfl⟩⟩
  · exact ⟨h2, .inr ⟨id, 0, _, rfl, .inr rfl, .inr ⟨cs, true, h1, by omega, by rw [← h2]; simp⟩⟩⟩
theorem OwnSl.ex {s b : Nat} {h h' : AH} {v : Value} {n : Nat} {cs : List Value} (ho : OwnSl s b h v n cs) (x : Ex h h') : OwnSl s b h' v n cs := by
  rcases ho with h1 | ⟨id, hb, h1, h2, h3⟩
  · exact .inl h1
  · exact .inr ⟨id, hb, h1, x.some h2, h3⟩
theorem OwnSl.nil (s b : Nat) (h : AH) : OwnSl s b h (.slice none 0 0) 0 [] := .inl ⟨rfl, rfl, rfl⟩
theorem OwnSl.mono {s b b' : Nat} {h : AH} {v : Value} {n : Nat} {cs : List Value} (ho : OwnSl s b h v n cs) (hb : b' ≤ b) : OwnSl s b' h v n cs := by
  rcases ho with h1 | ⟨id, h0, h1⟩
  · exact .inl h1
  · exact .inr ⟨id, Nat.le_trans hb h0, h1⟩
def onId (v : Value) (j : Nat) : Prop := match v with
  | .slice (some a) _ _ => a.block = j
  | _ => False
end Go.AM
namespace Go.AM
open Go
theorem n_new {o : AObj} {h : AH} {K : Nat → AH → Prop} (k : K h.length (h ++ [o])) : newW none o h K := k
theorem n_slot {r : Nat} {o : AObj} {h : AH} {K : Nat → AH → Prop} (k : K r (h.set r o)) : newW (some r) o h K := k
theorem n_row {c : List Value} {h : AH} {K : Value → AH → Prop} (k : K (.pointer (some ⟨h.length, 0, none⟩)) (h ++ [.row c true])) : newR none c h K := k
theorem n_box {v : Value} {h : AH} {K : Value → AH → Prop} (hv : (cellsL v).all (·.oneCell') = true) (k : K (.pointer (some ⟨h.length, 0, none⟩)) (h ++ [.row (cellsL v) true])) : aBox v none h K := ⟨hv, k⟩
theorem fillL_one {place : Nat → Option (Nat × Nat)} {z : List Value} {v : Value} {s : Nat} (hp : place 0 = some (0, s)) (hz : z.length = s) (hl : (cellsL v).length = s) (h1 : (cellsL v).all (·.oneCell') = true) : fillL place z [(0, v)] = some (cellsL v) := by
  simp only [fillL, hp]
  rw [if_pos ⟨hl, by omega, h1⟩]
  congr 1
  rw [List.take_zero, List.nil_append, Nat.zero_add, List.drop_of_length_le (by omega), List.append_nil]
theorem bldSl_one {s : Nat} {z : List Value} {v : Value} (hz : z.length = s) (hs : s ≤ 100) (hl : (cellsL v).length = s) (h1 : (cellsL v).all (·.oneCell') = true) : bldSl s z 1 [(0, v)] = some (cellsL v) := by
  unfold bldSl
  rw [if_pos ⟨hz, by omega, by decide⟩]
  exact fillL_one (by simp) (by simp [repL, hz]) hl h1
theorem srcL_new {s : Nat} {c : List Value} {h : AH} {i n cap : Nat} (hi : h[i]? = some (.row c true)) (hn : 0 < n) (hc : c.length = n * s) : srcL s (.slice (some ⟨i, 0, none⟩) n cap) h = some (n, c) := by
  simp only [srcL, hi]
  rw [if_neg (by omega), if_pos (by omega)]
  simp [hc.symm]
theorem srcL_sl {s : Nat} {h : AH} {v : Value} {n : Nat} {cs : List Value} (hs : 0 < s) (hv : Sl s h v n cs) : srcL s v h = some (n, cs) := by
  rcases hv.2 with ⟨rfl, rfl⟩ | ⟨id, off, cap, rfl, _, h3⟩
  · have : cs = [] := List.eq_nil_of_length_eq_zero (by have := hv.1; omega)
    subst this
    rfl
  · simp only [srcL]
    rcases h3 with rfl | ⟨c, w, h3, h4, h5⟩
    · rw [if_pos rfl]
      have : cs = [] := List.eq_nil_of_length_eq_zero (by have := hv.1; omega)
      rw [this]
    · split
      · rename_i h0
        subst h0
        have : cs = [] := List.eq_nil_of_length_eq_zero (by have := hv.1; omega)
        rw [this]
      · simp only [h3]
        rw [if_pos h4, h5]
theorem appSl_of {s : Nat} {b : Value} {a : Option Addr} {n c : Nat} {h : AH} {K : Value → AH → Prop} (k : appS s b (.slice a n c) h K) : appSl s b (.slice a n c) h K := k
theorem appSl_sl {s s' : Nat} {b x : Value} {h h0 : AH} {n : Nat} {cs : List Value} {K : Value → AH → Prop} (hx : Sl s' h0 x n cs) (k : appS s b x h K) : appSl s b x h K := by
  obtain ⟨a, cap, rfl⟩ := hx.shape
  exact k
end Go.AM
namespace Go.AM
theorem take_succ_get {α : Type} {l : List α} {i : Nat} {x : α} (h : l[i]? = some x) : l.take (i + 1) = l.take i ++ [x] := by
  rw [List.take_add_one, h]
  rfl
end Go.AM
namespace Go.AM
open Go
theorem w_idxN {α : Type} {s : Nat} {enc : α → List Value} (he : ∀ x, (enc x).length = s) {h : AH} {v : Value} {l : List α} {kd : IntKind} {i : Nat} {x : α} {K : Value → Prop} (hv : SlT s enc h v l) (hx : l[i]? = some x)
    (k : ∀ p, PtrTo h p (enc x) → K p) : optW (pIdxS s v (.int kd (i : Int))) K := w_idxT he hv (Int.natCast_nonneg i) (by simpa using hx) k
end Go.AM
end

section
/- Rules for walking through printed functions: fields behind a pointer; slices of one's own with room; maps used as sets. Conditions: none. -/
namespace Go.AM
open Go
set_option linter.unusedVariables false
theorem w_nilc {a : Addr} {K : Value → Prop} (k : K (.pointer (some a))) : optW (pNilCheck (.pointer (some a))) K := k
theorem w_offP {id off n : Nat} {K : Value → Prop} (k : K (.pointer (some ⟨id, off + n, none⟩))) : optW (pOff n (.pointer (some ⟨id, off, none⟩))) K := k
theorem w_rdP {h : AH} {id off : Nat} {c : List Value} {w : Bool} {v : Value} {K : Value → Prop} (hr : h[id]? = some (.row c w)) (hv : c[off]? = some v) (k : K v) : optW (rdRow false 1 (.pointer (some ⟨id, off, none⟩)) h) K := by
  refine w_some (v := v) ?_ k
  have := (List.getElem?_eq_some_iff.1 hv).1
  simp only [rdRow, hr, partV]
  rw [if_pos (by omega)]
  exact hv
theorem w_rdPA {h : AH} {id off n : Nat} {c : List Value} {w : Bool} {K : Value → Prop} (hr : h[id]? = some (.row c w)) (hl : off + n ≤ c.length) (k : K (.agg ((c.drop off).take n).toArray)) : optW (rdRow true n (.pointer (some ⟨id, off, none⟩)) h) K := by
  refine w_some ?_ k
  simp only [rdRow, hr, partV]
  rw [if_pos hl]
theorem splice_one (c : List Value) (off : Nat) (v : Value) (h : off < c.length) : spliceL c off [v] = c.set off v := by
  unfold spliceL
  rw [List.set_eq_take_append_cons_drop, if_pos h]
  simp
theorem w_stP {h : AH} {id off : Nat} {c : List Value} {v : Value} {K : AH → Prop} (hr : h[id]? = some (.row c true)) (hl : off < c.length) (hv : cellsL v = [v]) (h1 : v.oneCell' = true) (k : K (h.set id (.row (c.set off v) true))) : optW (pStore 1 (.pointer (some ⟨id, off, none⟩)) v h) K := by
  refine w_some (v := h.set id (.row (c.set off v) true)) ?_ k
  unfold pStore
  rw [hv, if_pos ⟨rfl, by simp [h1]⟩]
  simp only [stRow, hr]
  rw [if_pos (show off + [v].length ≤ c.length from hl), splice_one _ _ _ hl]
theorem w_stPA {h : AH} {id off n : Nat} {c : List Value} {v : Value} {K : AH → Prop} (hr : h[id]? = some (.row c true)) (hn : (cellsL v).length = n) (hl : off + n ≤ c.length) (h1 : (cellsL v).all (·.oneCell') = true) (k : K (h.set id (.row (spliceL c off (cellsL v)) true))) : optW (pStore n (.pointer (some ⟨id, off, none⟩)) v h) K := by
  refine w_some ?_ k
  unfold pStore
  rw [if_pos ⟨hn, h1⟩]
  simp only [stRow, hr]
  rw [if_pos (by omega)]
def OwnG (s : Nat) (F : Nat → Prop) (h : AH) (v : Value) (n : Nat) (cs : List Value) : Prop :=
  cs.length = n * s ∧ ((v = .slice none 0 0 ∧ n = 0) ∨ ∃ id c, F id ∧ v = .slice (some ⟨id, 0, none⟩) n (openCap + s) ∧ h[id]? = some (.row c true) ∧ n * s ≤ c.length ∧ c.take (n * s) = cs)
theorem OwnG.sl {s : Nat} {F : Nat → Prop} {h : AH} {v : Value} {n : Nat} {cs : List Value} (ho : OwnG s F h v n cs) : Sl s h v n cs := by
  obtain ⟨h0, ⟨rfl, rfl⟩ | ⟨id, c, hf, rfl, h1, h2, h3⟩⟩ := ho
  · exact ⟨h0, .inl ⟨rfl, rfl⟩⟩
  · exact ⟨h0, .inr ⟨id, 0, _, rfl, .inr rfl, .inr ⟨c, true, h1, by omega, by simpa using h3⟩⟩⟩
theorem OwnG.nil (s : Nat) (F : Nat → Prop) (h : AH) : OwnG s F h (.slice none 0 0) 0 [] := ⟨by simp, .inl ⟨rfl, rfl⟩⟩
theorem OwnG.mono {s : Nat} {F F' : Nat → Prop} {h h' : AH} {v : Value} {n : Nat} {cs : List Value} (ho : OwnG s F h v n cs) (hF : ∀ j, onId v j → F j → F' j) (hh : ∀ j, onId v j → F j → h'[j]? = h[j]?) : OwnG s F' h' v n cs := by
  obtain ⟨h0, ⟨rfl, rfl⟩ | ⟨id, c, hf, rfl, h1, h2, h3⟩⟩ := ho
  · exact ⟨h0, .inl ⟨rfl, rfl⟩⟩
  · exact ⟨h0, .inr ⟨id, c, hF id rfl hf, rfl, (hh id rfl hf).trans h1, h2, h3⟩⟩
theorem OwnG.on {s : Nat} {F : Nat → Prop} {h : AH} {v : Value} {n : Nat} {cs : List Value} (ho : OwnG s F h v n cs) {j : Nat} (hj : onId v j) : F j ∧ j < h.length := by
  obtain ⟨h0, ⟨rfl, rfl⟩ | ⟨id, c, hf, rfl, h1, h2, h3⟩⟩ := ho
  · exact hj.elim
  · have : id = j := hj
    subst this
    exact ⟨hf, lt_of_get h1⟩
theorem app_g {s : Nat} {F : Nat → Prop} {h : AH} {v x : Value} {n m : Nat} {cs news : List Value} {K : Value → AH → Prop} (hs : 0 < s) (ho : OwnG s F h v n cs) (hx : srcL s x h = some (m, news)) (hm : news.length = m * s) (hn : n + m < room40)
    (k : ∀ v' h', OwnG s (fun j => F j ∨ j = h.length) h' v' (n + m) (cs ++ news) → h.length ≤ h'.length → (∀ j, j < h.length → ¬ onId v j → h'[j]? = h[j]?) → (∀ j, onId v' j → onId v j ∨ j = h.length) → K v' h') : appS s v x h K := by
  refine .inl ?_
  obtain ⟨h0, ⟨rfl, rfl⟩ | ⟨id, c, hf, rfl, h1, h2, h3⟩⟩ := ho
  · by_cases m0 : m = 0
    · subst m0
      have hnews : news = [] := List.eq_nil_of_length_eq_zero (by omega)
      subst hnews
      have : pAppS s (.slice none 0 0) x h = some (.slice none 0 0, h) := by
        unfold pAppS
        simp only [hx]
        rw [if_pos hn, if_pos (by decide)]
        simp [pAppEx, stAt]
      rw [this]
      exact k _ _ ⟨by simpa using h0, .inl ⟨rfl, rfl⟩⟩ (Nat.le_refl _) (fun _ _ _ => rfl) (fun j hj => .inl hj)
    · have hcs : cs = [] := List.eq_nil_of_length_eq_zero (by omega)
      subst hcs
      have : pAppS s (.slice none 0 0) x h = some (.slice (some ⟨h.length, 0, none⟩) (0 + m) (openCap + s), h ++ [.row ([] ++ news) true]) := by
        unfold pAppS
        simp only [hx]
        rw [if_pos hn, if_pos (by decide)]
        simp only [pAppEx]
        rw [if_neg (by omega)]
        simp [firstL]
      rw [this]
      refine k _ _ ⟨by simp [hm], .inr ⟨h.length, _, .inr rfl, rfl, get_new _ _, by simp [hm], by simp [hm.symm]⟩⟩ (by simp) (fun j hj _ => List.getElem?_append_left hj) (fun j hj => .inr ?_)
      have : h.length = j := hj
      omega
  · have hid := lt_of_get h1
    have hl : (cs ++ news).length = (n + m) * s := by rw [List.length_append, h0, hm, Nat.add_mul]
    by_cases hfit : (n + m) * s ≤ c.length
    · have hnm : (n + m) * s = n * s + m * s := Nat.add_mul _ _ _
      cases hne : news with
      | nil =>
        have m0 : m = 0 := by
          have : m * s = 0 := by rw [← hm, hne]; rfl
          rcases Nat.mul_eq_zero.1 this with h | h
          · exact h
          · omega
        subst m0
        have : pAppS s (.slice (some ⟨id, 0, none⟩) n (openCap + s)) x h = some (.slice (some ⟨id, 0, none⟩) (n + 0) (openCap + s), h) := by
          unfold pAppS
          simp only [hx]
          rw [if_pos hn, if_neg (by simp), if_pos trivial]
          simp only [pAppOp, h1]
          rw [if_pos (by simpa using hfit), hne]
          simp [stAt]
        rw [this]
        exact k _ _ ⟨by simpa [hne] using h0, .inr ⟨id, c, .inl hf, rfl, h1, by simpa using h2, by simpa [hne] using h3⟩⟩ (Nat.le_refl _) (fun _ _ _ => rfl) (fun j hj => .inl hj)
      | cons a r =>
        have hst : stAt (some ⟨id, 0, none⟩) (n * s) news h = some (h.set id (.row (spliceL c (n * s) news) true)) := by
          rw [hne]
          simp only [stAt, stRow, Nat.zero_add, h1]
          rw [if_pos (by rw [← hne]; omega)]
        have : pAppS s (.slice (some ⟨id, 0, none⟩) n (openCap + s)) x h = some (.slice (some ⟨id, 0, none⟩) (n + m) (openCap + s), h.set id (.row (spliceL c (n * s) news) true)) := by
          unfold pAppS
          simp only [hx]
          rw [if_pos hn, if_neg (by simp), if_pos trivial]
          simp only [pAppOp, h1]
          rw [if_pos (by simpa using hfit), hst]
          rfl
        rw [this]
        refine k _ _ ⟨hl, .inr ⟨id, spliceL c (n * s) news, .inl hf, rfl, get_set _ hid _, ?_, ?_⟩⟩ (by simp) (fun j hj hne => get_ne (fun e => hne (by subst e; rfl)) _) (fun j hj => .inl hj)
        · unfold spliceL
          simp only [List.length_append, List.length_take, List.length_drop]
          omega
        · unfold spliceL
          rw [h3, ← hl, List.take_left]
    · have : pAppS s (.slice (some ⟨id, 0, none⟩) n (openCap + s)) x h = some (.slice (some ⟨h.length, 0, none⟩) (n + m) (openCap + s), h.set id .dead ++ [.row (cs ++ news) true]) := by
        unfold pAppS
        simp only [hx]
        rw [if_pos hn, if_neg (by simp), if_pos trivial]
        simp only [pAppOp, h1]
        rw [if_neg (by omega), if_pos (by omega)]
        simp [h3]
      rw [this]
      refine k _ _ ⟨hl, .inr ⟨h.length, cs ++ news, .inr rfl, rfl, ?_, by omega, by rw [← hl, List.take_length]⟩⟩ (by simp) (fun j hj hne => ?_) (fun j hj => .inr ?_)
      · rw [List.getElem?_append_right (by simp)]; simp
      · rw [List.getElem?_append_left (by simpa using hj), get_ne (fun e => hne (by subst e; rfl))]
      · have : h.length = j := hj
        omega
theorem cut_g {s : Nat} {F : Nat → Prop} {h : AH} {v : Value} {n m : Nat} {cs : List Value} {kd : IntKind} {K : Value → Prop} (ho : OwnG s F h v n cs) (hm : m ≤ n)
    (k : ∀ v', OwnG s F h v' m (cs.take (m * s)) → (∀ j, onId v' j → onId v j) → K v') : optW (pSliceSl s v none (some (.int kd (m : Int))) none) K := by
  obtain ⟨h0, ⟨rfl, rfl⟩ | ⟨id, c, hf, rfl, h1, h2, h3⟩⟩ := ho
  · have : m = 0 := by omega
    subst this
    refine w_some (v := .slice none 0 0) ?_ (k _ ⟨by simp, .inl ⟨rfl, rfl⟩⟩ fun j hj => hj)
    unfold pSliceSl
    dsimp only
    rw [if_pos (by decide)]
    simp [pSliceB, pSliceEx]
  · have hms : m * s ≤ n * s := Nat.mul_le_mul_right s hm
    refine w_some (v := .slice (some ⟨id, 0, none⟩) m (openCap + s)) ?_ (k _ ⟨by rw [List.length_take, h0]; omega, .inr ⟨id, c, hf, rfl, h1, by omega, by rw [← h3, List.take_take, Nat.min_eq_left hms]⟩⟩ fun j hj => hj)
    unfold pSliceSl
    dsimp only
    rw [if_neg (by simp), if_pos rfl]
    simp only [pSliceOp, pSliceB_in (Int.natCast_nonneg m) (by omega : (m : Int) ≤ (n : Int)), pSliceB, Int.toNat_natCast]
    simp [hm]
end Go.AM
end

section
/- Slices cut, bytes to strings and back: rules of the abstract machine's walk. Conditions: none. -/
namespace Go.AM
open Go
variable {P : Program}
theorem w_slice {s : Nat} {h : AH} {v : Value} {n i j : Nat} {cs : List Value} {lo hi : Option Value} {K : Value → Prop} (hv : Sl s h v n cs) (hij : i ≤ j) (hj : j ≤ n)
    (hlo : (lo = none ∧ i = 0) ∨ ∃ kd, lo = some (.int kd (i : Int))) (hhi : (hi = none ∧ j = n) ∨ ∃ kd, hi = some (.int kd (j : Int)))
    (k : ∀ v', Sl s h v' (j - i) ((cs.drop (i * s)).take ((j - i) * s)) → (∀ x, onId v' x → onId v x) → K v') : optW (pSliceSl s v lo hi none) K := by
  have hB1 : ∀ m, n ≤ m → pSliceB hi m n = some j := by
    intro m hm
    rcases hhi with ⟨rfl, rfl⟩ | ⟨kd, rfl⟩
    · rfl
    · unfold pSliceB
      dsimp only
      rw [if_pos (by omega)]
      simp
  have hB2 : pSliceB lo j 0 = some i := by
    rcases hlo with ⟨rfl, rfl⟩ | ⟨kd, rfl⟩
    · rfl
    · unfold pSliceB
      dsimp only
      rw [if_pos (by omega)]
      simp
  have hms : (j - i) * s + i * s ≤ n * s := by rw [← Nat.add_mul]; exact Nat.mul_le_mul_right s (by omega)
  have hlen : ((cs.drop (i * s)).take ((j - i) * s)).length = (j - i) * s := by
    rw [List.length_take, List.length_drop, hv.1]; omega
  rcases hv.2 with ⟨rfl, h1⟩ | ⟨id, off, cap, rfl, h2, h3⟩
  · subst h1
    obtain rfl : j = 0 := by omega
    obtain rfl : i = 0 := by omega
    refine w_some (v := .slice none 0 0) ?_ (k _ ⟨hlen, .inl ⟨rfl, rfl⟩⟩ fun x hx => hx)
    unfold pSliceSl
    dsimp only
    rw [if_pos (by decide)]
    have e0 : pSliceB none 0 0 = some 0 := rfl
    rw [e0]
    dsimp only
    unfold pSliceEx
    rw [hB1 0 (Nat.le_refl _)]
    dsimp only
    rw [hB2]
    rfl
  · have hread : (j - i = 0) ∨ ∃ c w, h[id]? = some (.row c w) ∧ off + i * s + (j - i) * s ≤ c.length ∧ (c.drop (off + i * s)).take ((j - i) * s) = (cs.drop (i * s)).take ((j - i) * s) := by
      rcases h3 with h3 | ⟨c, w, h3, h4, h5⟩
      · exact .inl (by omega)
      · refine .inr ⟨c, w, h3, by omega, ?_⟩
        rw [← h5, List.drop_take, List.take_take, List.drop_drop, Nat.min_eq_left (by omega)]
    have hread0 : (j - i = 0) ∨ ∃ c w, h[id]? = some (.row c w) ∧ off + i * s + (j - i) * s ≤ c.length ∧ (c.drop (off + i * s)).take ((j - i) * s) = (cs.drop (i * s)).take ((j - i) * s) := hread
    unfold pSliceSl
    dsimp only
    rcases h2 with ⟨h2, h4⟩ | h2
    · rw [if_pos h2]
      have e0 : pSliceB none cap cap = some cap := rfl
      rw [e0]
      dsimp only
      unfold pSliceEx
      rw [hB1 cap h4]
      dsimp only
      rw [hB2]
      dsimp only
      by_cases hci : cap = i
      · rw [if_pos hci]
        refine k _ ⟨hlen, .inr ⟨id, off, _, rfl, .inl ⟨by omega, by omega⟩, .inl (by omega)⟩⟩ fun x hx => hx
      · rw [if_neg hci]
        refine k _ ⟨hlen, .inr ⟨id, off + i * s, _, rfl, .inl ⟨by omega, by omega⟩, hread⟩⟩ fun x hx => hx
    · rw [if_neg (by omega), if_pos h2]
      unfold pSliceOp
      rw [hB1 n (Nat.le_refl _)]
      dsimp only
      rw [hB2]
      dsimp only
      exact k _ ⟨hlen, .inr ⟨id, off + i * s, _, rfl, .inr rfl, hread⟩⟩ fun x hx => hx
theorem flat_drop {α : Type} {enc : α → List Value} {s : Nat} (he : ∀ x, (enc x).length = s) : ∀ (l : List α) (i : Nat), (flat enc l).drop (i * s) = flat enc (l.drop i)
  | l, 0 => by simp
  | [], i + 1 => by simp [flat]
  | x :: l, i + 1 => by
    have h : flat enc (x :: l) = enc x ++ flat enc l := rfl
    rw [h, Nat.succ_mul, Nat.add_comm, ← List.drop_drop]
    rw [show s = (enc x).length from (he x).symm, List.drop_left, he x, flat_drop he l i]
    rfl
theorem flat_take {α : Type} {enc : α → List Value} {s : Nat} (he : ∀ x, (enc x).length = s) : ∀ (l : List α) (i : Nat), (flat enc l).take (i * s) = flat enc (l.take i)
  | l, 0 => by simp [flat]
  | [], i + 1 => by simp [flat]
  | x :: l, i + 1 => by
    have h : flat enc (x :: l) = enc x ++ flat enc l := rfl
    rw [h, Nat.succ_mul, Nat.add_comm, List.take_append]
    have h2 : flat enc ((x :: l).take (i + 1)) = enc x ++ flat enc (l.take i) := rfl
    rw [h2, List.take_of_length_le (by rw [he x]; omega), he x, Nat.add_sub_cancel_left, flat_take he l i]
theorem w_sliceT {α : Type} {enc : α → List Value} {s : Nat} (he : ∀ x, (enc x).length = s) {h : AH} {v : Value} {l : List α} {i j : Nat} {lo hi : Option Value} {K : Value → Prop} (hv : SlT s enc h v l) (hij : i ≤ j) (hj : j ≤ l.length)
    (hlo : (lo = none ∧ i = 0) ∨ ∃ kd, lo = some (.int kd (i : Int))) (hhi : (hi = none ∧ j = l.length) ∨ ∃ kd, hi = some (.int kd (j : Int)))
    (k : ∀ v', SlT s enc h v' ((l.drop i).take (j - i)) → (∀ x, onId v' x → onId v x) → K v') : optW (pSliceSl s v lo hi none) K := by
  refine w_slice hv hij hj hlo hhi fun v' h1 h2 => k v' ?_ h2
  unfold SlT
  rw [List.length_take, List.length_drop, Nat.min_eq_left (by omega)]
  rw [flat_drop he, flat_take he] at h1
  exact h1
end Go.AM
end

section
/- Rules for walking through printed functions: maps. Conditions: none. -/
namespace Go.AM
open Go
set_option linter.unusedVariables false
def SetM {α : Type} (enc : α → Value) (one : Value) (h : AH) (id : Nat) (S : α → Prop) : Prop :=
  ∃ (l : List (α × Nat)) (ck : Nat), h[id]? = some (.map (l.map fun t => (enc t.1, one, t.2)) ck) ∧ (∀ x, S x ↔ ∃ n, (x, n) ∈ l) ∧ (∀ t ∈ l, t.2 < ck) ∧ (∀ t ∈ l, ∀ u ∈ l, t.2 = u.2 → t = u) ∧ (∀ t ∈ l, ∀ u ∈ l, t.1 = u.1 → t = u)
theorem SetM.same {α : Type} {enc : α → Value} {one : Value} {h h' : AH} {id : Nat} {S : α → Prop} (hs : SetM enc one h id S) (hh : h'[id]? = h[id]?) : SetM enc one h' id S := by
  obtain ⟨l, ck, h1, h2⟩ := hs
  exact ⟨l, ck, hh.trans h1, h2⟩
theorem SetM.ex {α : Type} {enc : α → Value} {one : Value} {h h' : AH} {id : Nat} {S : α → Prop} (hs : SetM enc one h id S) (hx : Ex h h') : SetM enc one h' id S := by
  obtain ⟨l, ck, h1, h2⟩ := hs
  exact ⟨l, ck, hx.some h1, h2⟩
theorem SetM.lt {α : Type} {enc : α → Value} {one : Value} {h : AH} {id : Nat} {S : α → Prop} (hs : SetM enc one h id S) : id < h.length := by
  obtain ⟨l, ck, h1, h2⟩ := hs
  exact lt_of_get h1
theorem SetM.congr {α : Type} {enc : α → Value} {one : Value} {h : AH} {id : Nat} {S T : α → Prop} (hs : SetM enc one h id S) (hST : ∀ x, T x ↔ S x) : SetM enc one h id T := by
  obtain ⟨l, ck, h1, h2, h3⟩ := hs
  exact ⟨l, ck, h1, fun x => (hST x).trans (h2 x), h3⟩
theorem SetM.empty {α : Type} {enc : α → Value} {one : Value} {h : AH} {id : Nat} (hh : h[id]? = some (.map [] 0)) : SetM enc one h id fun _ => False :=
  ⟨[], 0, hh, fun x => by simp, (fun t ht => by cases ht), (fun t ht => by cases ht), fun t ht => by cases ht⟩
def IterM {α : Type} (enc : α → Value) (one : Value) (h : AH) (r id : Nat) (S D : α → Prop) (m : Nat) : Prop :=
  ∃ (l : List (α × Nat)) (ck : Nat) (seen : List Nat), h[id]? = some (.map (l.map fun t => (enc t.1, one, t.2)) ck) ∧ (∀ x, S x ↔ ∃ n, (x, n) ∈ l) ∧ (∀ t ∈ l, t.2 < ck) ∧ (∀ t ∈ l, ∀ u ∈ l, t.2 = u.2 → t = u) ∧
    h[r]? = some (.mapIter (some id) ck seen ck) ∧ (∀ x n, (x, n) ∈ l → n ∉ seen ∨ D x) ∧ (∀ x, D x → S x) ∧ (∀ t ∈ l, ∀ u ∈ l, t.1 = u.1 → t = u) ∧ (∀ x n, (x, n) ∈ l → D x → n ∈ seen) ∧ m = (l.filter fun t => !seen.contains t.2).length
theorem IterM.keep {α : Type} {enc : α → Value} {one : Value} {h h' : AH} {r id : Nat} {S D : α → Prop} {m : Nat} (hi : IterM enc one h r id S D m) (h1 : h'[id]? = h[id]?) (h2 : h'[r]? = h[r]?) : IterM enc one h' r id S D m := by
  obtain ⟨l, ck, seen, g1, g2, g3, g4, g5, g6⟩ := hi
  exact ⟨l, ck, seen, h1.trans g1, g2, g3, g4, h2.trans g5, g6⟩
end Go.AM
namespace Go.AM
open Go
variable {P : Program}
theorem w_slnil {t e : TypeId} (ht : P.underlying t = some (.slice e)) {a : Option Addr} {n c : Nat} {K : Value → Prop} (k : K (.bool a.isNone)) : optW (pBin P .eql t (.slice a n c) (.slice none 0 0)) K := by
  refine w_some (v := .bool a.isNone) ?_ k
  show (pBinE P t (.slice a n c) (.slice none 0 0)).map Value.bool = _
  show (pNil P t (.slice a n c) (.slice none 0 0)).map Value.bool = _
  unfold pNil
  rw [ht]
  cases a <;> rfl
theorem getElem?_of_lt {α : Type} {l : List α} {i : Nat} (h : i < l.length) : ∃ x, l[i]? = some x := ⟨_, List.getElem?_eq_getElem h⟩
end Go.AM
namespace Go.AM
open Go
theorem n_var {c : List Value} {v : Value} {n : Nat} {h : AH} {K : Value → AH → Prop} (hc : c.length = n) (hv : (cellsL v).length = n) (h1 : (cellsL v).all (·.oneCell') = true)
    (k : ∀ h', Ex h h' → h'.length = h.length + 1 → h'[h.length]? = some (.row (cellsL v) true) → K (.pointer (some ⟨h.length, 0, none⟩)) h') : newR none c h fun p h2 => optW (pStore n p v h2) fun h3 => K p h3 := by
  refine n_row ?_
  refine w_stPA (get_new _ _) hv (by omega) h1 ?_
  refine k _ ((Ex.app _ _).set (Nat.le_refl _) _) (by simp) ?_
  rw [get_set _ (by simp)]
  congr 2
  unfold spliceL
  rw [List.take_zero, List.nil_append, Nat.zero_add, List.drop_of_length_le (by omega), List.append_nil]
theorem n_boxv {v : Value} {h : AH} {K : Value → AH → Prop} (hv : (cellsL v).all (·.oneCell') = true) (k : ∀ h', Ex h h' → h'.length = h.length + 1 → h'[h.length]? = some (.row (cellsL v) true) → K (.pointer (some ⟨h.length, 0, none⟩)) h') : aBox v none h K :=
  n_box hv (k _ (Ex.app _ _) (by simp) (get_new _ _))
theorem Ex.lt {h h' : AH} (x : Ex h h') {i : Nat} (hi : i < h.length) : i < h'.length := Nat.lt_of_lt_of_le hi x.len
end Go.AM
end

section
/- Rules for walking through printed functions: maps of values; guards in regions that draw. Conditions: none. -/
namespace Go.AM
open Go
set_option linter.unusedVariables false
theorem gd_tt {p : Prop} [Decidable p] {f : (Value → AH → HT → ST → Prop) → Prop} {h : AH} {H : HT} {S : ST} {K : Value → AH → HT → ST → Prop} (hp : p) (k : f K) : gopD (gB (.bool (decide p)) true) f h H S K := by
  rw [decide_eq_true hp]; exact k
theorem gd_tf {p : Prop} [Decidable p] {f : (Value → AH → HT → ST → Prop) → Prop} {h : AH} {H : HT} {S : ST} {K : Value → AH → HT → ST → Prop} (hp : ¬ p) (k : K undef h H S) : gopD (gB (.bool (decide p)) true) f h H S K := by
  rw [decide_eq_false hp]; exact k
theorem gd_ft {p : Prop} [Decidable p] {f : (Value → AH → HT → ST → Prop) → Prop} {h : AH} {H : HT} {S : ST} {K : Value → AH → HT → ST → Prop} (hp : p) (k : K undef h H S) : gopD (gB (.bool (decide p)) false) f h H S K := by
  rw [decide_eq_true hp]; exact k
theorem gd_ff {p : Prop} [Decidable p] {f : (Value → AH → HT → ST → Prop) → Prop} {h : AH} {H : HT} {S : ST} {K : Value → AH → HT → ST → Prop} (hp : ¬ p) (k : f K) : gopD (gB (.bool (decide p)) false) f h H S K := by
  rw [decide_eq_false hp]; exact k
theorem gdc_tt {f : (Value → AH → HT → ST → Prop) → Prop} {h : AH} {H : HT} {S : ST} {K : Value → AH → HT → ST → Prop} (k : f K) : gopD (gB (.bool true) true) f h H S K := k
theorem gdc_ft {f : (Value → AH → HT → ST → Prop) → Prop} {h : AH} {H : HT} {S : ST} {K : Value → AH → HT → ST → Prop} (k : K undef h H S) : gopD (gB (.bool true) false) f h H S K := k
theorem gdc_ff {f : (Value → AH → HT → ST → Prop) → Prop} {h : AH} {H : HT} {S : ST} {K : Value → AH → HT → ST → Prop} (k : f K) : gopD (gB (.bool false) false) f h H S K := k
theorem hist_nil {b : Array Nat} {i : Nat} {xs : List Loc} {K : Prop} (k : K) : histC b i xs [] K := k
end Go.AM
namespace Go.AM
open Go
theorem reserve_one (h : AH) : reserve 1 h = h ++ [.dead] := rfl
theorem reserve_set (h : AH) (o : AObj) : (reserve 1 h).set h.length o = h ++ [o] := by
  rw [reserve_one, List.set_append_right _ _ (Nat.le_refl _)]
  simp
theorem Ex.res (h : AH) : Ex h (reserve 1 h) := Ex.app _ _
end Go.AM
end

section
/- Rules of one's own for walks, of no program: slices that are empty or one's own, what changes, what stays. Conditions: none. -/
namespace Go.AM
open Go
set_option linter.unusedVariables false
set_option maxRecDepth 100000
def isSl (v : Value) : Prop := ∃ a n c, v = .slice a n c
theorem Sl.isSl {s : Nat} {h : AH} {v : Value} {n : Nat} {cs : List Value} (hv : Sl s h v n cs) : isSl v := by
  obtain ⟨a, c, e⟩ := hv.shape
  exact ⟨a, _, c, e⟩
theorem Sl.same {s : Nat} {h h' : AH} {v : Value} {n : Nat} {cs : List Value} (hv : Sl s h v n cs) (hh : ∀ j, onId v j → h'[j]? = h[j]?) : Sl s h' v n cs := by
  refine ⟨hv.1, ?_⟩
  rcases hv.2 with h1 | ⟨id, off, cap, rfl, h2, h3⟩
  · exact .inl h1
  · refine .inr ⟨id, off, cap, rfl, h2, ?_⟩
    rcases h3 with h3 | ⟨c, w, h3, h4⟩
    · exact .inl h3
    · exact .inr ⟨c, w, (hh id rfl).trans h3, h4⟩
theorem hist_all {b : Array Nat} {j : Nat} {xs : List Loc} {K : Prop} (k : K) : ∀ {H : HT}, (∀ t ∈ H, ∀ x ∈ xs, vw x t.2.1 = vw x t.2.2) → histC b j xs H K
  | [], _ => k
  | t :: H, hall => by
    unfold histC
    split
    · exact ⟨hall t (by simp), hist_all k fun u hu => hall u (by simp [hu])⟩
    · exact hist_all k fun u hu => hall u (by simp [hu])
theorem read_all {b : Array Nat} {j : Nat} {hb ha : AH} {K : Prop} (k : K) : ∀ {S : ST}, (∀ t ∈ S, ∀ x ∈ t.2, vw x hb = vw x ha) → readC b j hb ha S K
  | [], _ => k
  | t :: S, hall => by
    unfold readC
    split
    · exact ⟨hall t (by simp), read_all k fun u hu => hall u (by simp [hu])⟩
    · exact read_all k fun u hu => hall u (by simp [hu])
theorem ce_id {n i off : Nat} {z : Loc} (hz : z ∈ ceOf n (.pointer (some ⟨i, off, none⟩))) : z = .cells i off n := List.mem_singleton.1 hz
theorem idp {n : Nat} {a b : AH} (x : Ex a b) {i off : Nat} (hi : i < a.length) : ∀ z ∈ ceOf n (.pointer (some ⟨i, off, none⟩)), vw z a = vw z b := by
  intro z hz
  rw [ce_id hz]
  exact vw_eq (x.get i hi).symm
theorem idrow {n : Nat} {a b : AH} {i off : Nat} {o : AObj} (h1 : a[i]? = some o) (h2 : b[i]? = some o) : ∀ z ∈ ceOf n (.pointer (some ⟨i, off, none⟩)), vw z a = vw z b := by
  intro z hz
  rw [ce_id hz]
  exact vw_eq (h1.trans h2.symm)
theorem idcell {n : Nat} {a b : AH} {i off : Nat} {c c' : List Value} {w w' : Bool} (h1 : a[i]? = some (.row c w)) (h2 : b[i]? = some (.row c' w')) (hl : c.length = c'.length) (he : (c.drop off).take n = (c'.drop off).take n) : ∀ z ∈ ceOf n (.pointer (some ⟨i, off, none⟩)), vw z a = vw z b := by
  intro z hz
  rw [ce_id hz]
  show vwO (.cells i off n) a[i]? = vwO (.cells i off n) b[i]?
  rw [h1, h2]
  show (if off + n ≤ c.length then some (AObj.row ((c.drop off).take n) true) else none) = (if off + n ≤ c'.length then some (AObj.row ((c'.drop off).take n) true) else none)
  rw [hl, he]
theorem n_rowv {c : List Value} {h : AH} {K : Value → AH → Prop} (k : ∀ h', Ex h h' → h'.length = h.length + 1 → h'[h.length]? = some (.row c true) → K (.pointer (some ⟨h.length, 0, none⟩)) h') : newR none c h K :=
  n_row (k _ (.app _ _) (by simp) (get_new _ _))
theorem n_newv {o : AObj} {h : AH} {K : Nat → AH → Prop} (k : ∀ h', Ex h h' → h'.length = h.length + 1 → h'[h.length]? = some o → K h.length h') : newW none o h K :=
  n_new (k _ (.app _ _) (by simp) (get_new _ _))
theorem hopt {α : Type} {o : Option α} {x : α} (ho : optW o fun y => y = x) : o = some x := by
  cases o with
  | none => exact ho.elim
  | some y => have : y = x := ho; rw [this]
def QS (s b : Nat) (h : AH) (v : Value) (n : Nat) (cs : List Value) : Prop := OwnSl s b h v n cs ∨ ∃ i, b ≤ i ∧ i < h.length ∧ v = .slice (some ⟨i, 0, none⟩) 0 0 ∧ n = 0 ∧ cs = []
theorem QS.sl {s b : Nat} {h : AH} {v : Value} {n : Nat} {cs : List Value} (q : QS s b h v n cs) : Sl s h v n cs := by
  rcases q with q | ⟨i, hb, hi, rfl, rfl, rfl⟩
  · exact q.sl
  · exact ⟨by simp, .inr ⟨i, 0, 0, rfl, .inl ⟨by decide, Nat.le_refl _⟩, .inl rfl⟩⟩
theorem QS.ex {s b : Nat} {h h' : AH} {v : Value} {n : Nat} {cs : List Value} (q : QS s b h v n cs) (x : Ex h h') : QS s b h' v n cs := by
  rcases q with q | ⟨i, hb, hi, e⟩
  · exact .inl (q.ex x)
  · exact .inr ⟨i, hb, x.lt hi, e⟩
theorem QS.low {s b : Nat} {h : AH} {v : Value} {n : Nat} {cs : List Value} (q : QS s b h v n cs) {j : Nat} (hj : onId v j) : b ≤ j := by
  rcases q with (⟨rfl, _⟩ | ⟨id, hb, rfl, _⟩) | ⟨i, hb, hi, rfl, _⟩
  · exact hj.elim
  · have : id = j := hj
    omega
  · have : i = j := hj
    omega
theorem n_res {o : AObj} {h : AH} {K : Nat → AH → Prop} (k : newW none o h K) : newW (some h.length) o (reserve 1 h) K := by
  refine n_slot ?_
  rw [reserve_set]
  exact k
structure Exx (i : Nat) (a b : AH) : Prop where
  len : a.length ≤ b.length
  get : ∀ j, j < a.length → j ≠ i → b[j]? = a[j]?
theorem Exx.refl (i : Nat) (a : AH) : Exx i a a := ⟨Nat.le_refl _, fun _ _ _ => rfl⟩
theorem Exx.ex {i : Nat} {a b c : AH} (x : Exx i a b) (y : Ex b c) : Exx i a c := ⟨Nat.le_trans x.len y.len, fun j hj hi => (y.get j (Nat.lt_of_lt_of_le hj x.len)).trans (x.get j hj hi)⟩
theorem Exx.trans {i : Nat} {a b c : AH} (x : Exx i a b) (y : Exx i b c) : Exx i a c := ⟨Nat.le_trans x.len y.len, fun j hj hi => (y.get j (Nat.lt_of_lt_of_le hj x.len) hi).trans (x.get j hj hi)⟩
theorem Exx.base {i : Nat} {h a b : AH} (x : Ex h a) (y : Exx i a b) (hi : h.length ≤ i) : Ex h b := ⟨Nat.le_trans x.len y.len, fun j hj => (y.get j (Nat.lt_of_lt_of_le hj x.len) (by omega)).trans (x.get j hj)⟩
theorem Exx.some {i : Nat} {a b : AH} (x : Exx i a b) {j : Nat} {o : AObj} (h : a[j]? = some o) (hj : j ≠ i) : b[j]? = some o := (x.get j (lt_of_get h) hj).trans h
theorem PtrTo.ids {h : AH} {p : Value} {cs : List Value} (hp : PtrTo h p cs) {a b : AH} {n : Nat} (x : Ex h a) (y : Ex h b) : ∀ z ∈ ceOf n p, vw z a = vw z b := by
  obtain ⟨id, off, c, w, rfl, h1, h2⟩ := hp
  intro z hz
  rw [ce_id hz]
  exact vw_eq ((x.get _ (lt_of_get h1)).trans (y.get _ (lt_of_get h1)).symm)
structure Chg (F : Nat → Prop) (h : AH) (F' : Nat → Prop) (h' : AH) : Prop where
  len : h.length ≤ h'.length
  get : ∀ j, j < h.length → ¬ F j → h'[j]? = h[j]?
  dom : ∀ j, F' j → F j ∨ h.length ≤ j
theorem Chg.refl (F : Nat → Prop) (h : AH) : Chg F h F h := ⟨Nat.le_refl _, fun _ _ _ => rfl, fun _ h => .inl h⟩
theorem Chg.trans {F F1 F2 : Nat → Prop} {h h1 h2 : AH} (a : Chg F h F1 h1) (b : Chg F1 h1 F2 h2) : Chg F h F2 h2 where
  len := Nat.le_trans a.len b.len
  get j hj hF := by
    rw [b.get j (Nat.lt_of_lt_of_le hj a.len) (fun h => (a.dom j h).elim hF (by omega)), a.get j hj hF]
  dom j hj := (b.dom j hj).elim (a.dom j) fun h => .inr (Nat.le_trans a.len h)
theorem Chg.ex {h h' : AH} {F : Nat → Prop} (x : Ex h h') : Chg F h F h' := ⟨x.len, fun j hj _ => x.get j hj, fun _ hj => .inl hj⟩
theorem Chg.setf {h : AH} {f : Nat} {F : Nat → Prop} (hf : F f) (o : AObj) : Chg F h F (h.set f o) :=
  ⟨by simp, fun j hj hF => get_ne (fun e => hF (by rw [← e]; exact hf)) _, fun j hj => .inl hj⟩
theorem Chg.toEx {h h1 h2 : AH} {F F' : Nat → Prop} (c : Chg F h1 F' h2) (x : Ex h h1) (hF : ∀ j, F j → h.length ≤ j) : Ex h h2 :=
  ⟨Nat.le_trans x.len c.len, fun j hj => (c.get j (x.lt hj) fun h => by have := hF j h; omega).trans (x.get j hj)⟩
theorem Chg.low {h h1 h2 : AH} {F F' : Nat → Prop} (c : Chg F h1 F' h2) (x : Ex h h1) (hF : ∀ j, F j → h.length ≤ j) : ∀ j, F' j → h.length ≤ j :=
  fun j hj => (c.dom j hj).elim (hF j) fun h => Nat.le_trans x.len h
end Go.AM
end

section
/- The abstract machine, run: one operation. Conditions: none. -/
namespace Go.AM
open Go
abbrev KB := Value → HS → Bool
abbrev CallB := FuncId → List Value → HS → KB → Bool
def HS.lookF (s : HS) : Look := fun i => s.t.get i
theorem RepH.lf {s : HS} {h : AH} (R : RepH s h) : s.lookF = fun i => h[i]? := R.fn
def KOK (kb : KB) (K : Value → AH → Prop) : Prop := ∀ v s h, RepH s h → kb v s = true → K v h
theorem blt_lt {a b : Nat} (h : Nat.blt a b = true) : a < b := Nat.le_of_ble_eq_true h
def newB (slot : Option Nat) (o : AObj) (s : HS) (k : Nat → HS → Bool) : Bool :=
  match slot with
  | none => s.push o k
  | some r => cond (Nat.blt r s.n) (k r (s.put r o)) false
theorem newB_ok {slot : Option Nat} {o : AObj} {s : HS} {h : AH} {k : Nat → HS → Bool} {K : Nat → AH → Prop} (R : RepH s h) (hb : newB slot o s k = true) (hk : ∀ i s h, RepH s h → k i s = true → K i h) : newW slot o h K := by
  cases slot with
  | none =>
    simp only [newB, HS.push] at hb
    cases hc : Nat.blt s.n 999999999 with
    | false => rw [hc] at hb; cases hb
    | true =>
      rw [hc] at hb
      have hl : s.n < 999999999 := blt_lt hc
      simp only [newW]
      rw [← R.n]
      exact hk _ _ _ (R.push o hl) hb
  | some r =>
    simp only [newB] at hb
    cases hc : Nat.blt r s.n with
    | false => rw [hc] at hb; cases hb
    | true =>
      rw [hc] at hb
      have hl : r < s.n := blt_lt hc
      exact hk _ _ _ (R.put (by rw [← R.n]; exact hl) o) hb
def setB (u : Option (Nat × AObj)) (s : HS) (k : HS → Bool) : Bool :=
  match u with
  | some (i, o) => k (s.put i o)
  | none => false
def stAtG (a : Option Addr) (d : Nat) (vs : List Value) (s : HS) (k : HS → Bool) : Bool :=
  match vs with
  | [] => k s
  | v :: r => match a with
    | some ⟨id, off, none⟩ => setB (stRowG (.pointer (some ⟨id, off + d, none⟩)) (v :: r) s.lookF) s k
    | _ => false
theorem stAtG_ok {a : Option Addr} {d : Nat} {vs : List Value} {s : HS} {h : AH} {k : HS → Bool} {K : AH → Prop} (R : RepH s h) (hb : stAtG a d vs s k = true) (hk : ∀ s h, RepH s h → k s = true → K h) : ∃ h', stAt a d vs h = some h' ∧ K h' := by
  unfold stAtG at hb
  split at hb
  · exact ⟨h, rfl, hk _ _ R hb⟩
  · split at hb
    · rename_i v r _ id off
      unfold setB at hb
      split at hb
      · rename_i i o hu
        rw [R.lf] at hu
        have h1 := stRowG_eq hu
        obtain ⟨o', h2⟩ := stRowG_in hu
        exact ⟨_, h1, hk _ _ (R.put (List.getElem?_eq_some_iff.1 h2).1 o) hb⟩
      · cases hb
    · cases hb
def appExB (s : Nat) (a : Option Addr) (len cap n : Nat) (news : List Value) (h : HS) (k : KB) : Bool :=
  if len + n ≤ cap then stAtG a (len * s) news h fun h' => k (.slice a (len + n) cap) h'
  else match firstLG (len * s) a h.lookF with
    | some old => h.push (.row (old ++ news) true) fun id h' => k (.slice (some ⟨id, 0, none⟩) (len + n) (openCap + s)) h'
    | none => false
def appOpB (s : Nat) (a : Option Addr) (len n : Nat) (news : List Value) (h : HS) (k : KB) : Bool :=
  match a with
  | some ⟨id, off, none⟩ => match h.lookF id with
    | some (.row c true) =>
      if off + (len + n) * s ≤ c.length then stAtG a (len * s) news h fun h' => k (.slice a (len + n) (openCap + s)) h'
      else if off + len * s ≤ c.length then (h.put id .dead).push (.row ((c.drop off).take (len * s) ++ news) true) fun id' h' => k (.slice (some ⟨id', 0, none⟩) (len + n) (openCap + s)) h'
      else false
    | _ => false
  | _ => false
def appB (s : Nat) (b x : Value) (h : HS) (k : KB) : Bool :=
  match b, srcLG s x h.lookF with
  | .slice a len cap, some (n, news) =>
    if len + n < room40 then
      if cap < openCap then appExB s a len cap n news h k
      else if cap = openCap + s then appOpB s a len n news h k
      else false
    else false
  | _, _ => false
theorem appExB_ok {s : Nat} {a : Option Addr} {len cap n : Nat} {news : List Value} {t : HS} {h : AH} {k : KB} {K : Value → AH → Prop} (R : RepH t h) (hk : KOK k K) (hb : appExB s a len cap n news t k = true) : optW (pAppEx s a len cap n news h) fun r => K r.1 r.2 := by
  unfold appExB at hb
  unfold pAppEx
  split at hb
  · rename_i hc
    rw [if_pos hc]
    obtain ⟨h', h1, h2⟩ := stAtG_ok (K := fun h' => K (.slice a (len + n) cap) h') R hb fun s h R' hh => hk _ _ _ R' hh
    rw [h1]
    exact h2
  · rename_i hc
    rw [if_neg hc]
    split at hb
    · rename_i old ho
      rw [R.lf, firstLG_eq] at ho
      rw [ho]
      simp only [HS.push] at hb
      cases hl : Nat.blt t.n 999999999 with
      | false => rw [hl] at hb; cases hb
      | true =>
        rw [hl] at hb
        have hl' : t.n < 999999999 := blt_lt hl
        show K _ _
        rw [← R.n]
        exact hk _ _ _ (R.push _ hl') hb
    · cases hb
theorem appOpB_ok {s : Nat} {a : Option Addr} {len n : Nat} {news : List Value} {t : HS} {h : AH} {k : KB} {K : Value → AH → Prop} (R : RepH t h) (hk : KOK k K) (hb : appOpB s a len n news t k = true) : optW (pAppOp s a len n news h) fun r => K r.1 r.2 := by
  unfold appOpB at hb
  unfold pAppOp
  split at hb
  · split at hb
    · rename_i id off _ c ho
      rw [R.lf] at ho
      simp only [show h[id]? = _ from ho]
      split at hb
      · rename_i hc
        rw [if_pos hc]
        obtain ⟨h', h1, h2⟩ := stAtG_ok (K := fun h' => K (.slice (some ⟨id, off, none⟩) (len + n) (openCap + s)) h') R hb fun s h R' hh => hk _ _ _ R' hh
        rw [h1]
        exact h2
      · rename_i hc
        rw [if_neg hc]
        split at hb
        · rename_i hc2
          rw [if_pos hc2]
          simp only [HS.push] at hb
          have hid : id < h.length := (List.getElem?_eq_some_iff.1 ho).1
          have R' := R.put hid .dead
          cases hl : Nat.blt (t.put id .dead).n 999999999 with
          | false => rw [hl] at hb; cases hb
          | true =>
            rw [hl] at hb
            have hl' : (t.put id .dead).n < 999999999 := blt_lt hl
            show K _ _
            have e : h.length = (t.put id .dead).n := by rw [R'.n, List.length_set]
            rw [e]
            exact hk _ _ _ (R'.push _ hl') hb
        · cases hb
    · cases hb
  · cases hb
theorem appB_ok {s : Nat} {b x : Value} {t : HS} {h : AH} {k : KB} {K : Value → AH → Prop} (R : RepH t h) (hk : KOK k K) (hb : appB s b x t k = true) : appS s b x h K := by
  refine .inl ?_
  unfold appB at hb
  unfold pAppS
  split at hb
  · rename_i a len cap n news hs
    rw [R.lf, srcLG_eq] at hs
    simp only [hs]
    split at hb
    · rename_i h1
      rw [if_pos h1]
      split at hb
      · rename_i h2
        rw [if_pos h2]
        exact appExB_ok R hk hb
      · rename_i h2
        rw [if_neg h2]
        split at hb
        · rename_i h3
          rw [if_pos h3]
          exact appOpB_ok R hk hb
        · cases hb
    · cases hb
  · cases hb
def appZB (s : Nat) (z : List Value) (b : Value) (n : Int) (h : HS) (k : KB) : Bool :=
  match b with
  | .slice none 0 0 => if n = 0 then k (.slice none 0 0) h else if 0 < n ∧ n < (room40 : Int) then h.push (.row (repL z n.toNat) true) fun id h' => k (.slice (some ⟨id, 0, none⟩) n.toNat (openCap + s)) h' else false
  | _ => false
theorem appZB_ok {s : Nat} {z : List Value} {b : Value} {n : Int} {t : HS} {h : AH} {k : KB} {K : Value → AH → Prop} (R : RepH t h) (hk : KOK k K) (hb : appZB s z b n t k = true) : appZ s z b n h K := by
  unfold appZB at hb
  unfold appZ
  split at hb
  · split at hb
    · rename_i h0; rw [if_pos h0]; exact hk _ _ _ R hb
    · rename_i h0
      rw [if_neg h0]
      split at hb
      · rename_i h1
        rw [if_pos h1]
        simp only [HS.push] at hb
        cases hl : Nat.blt t.n 999999999 with
        | false => rw [hl] at hb; cases hb
        | true =>
          rw [hl] at hb
          rw [← R.n]
          exact hk _ _ _ (R.push _ (blt_lt hl)) hb
      · cases hb
  · cases hb
def appendB (P : Program) (ts : Array TypeId) (b x : Value) (h : HS) (k : KB) : Bool :=
  match ts.toList with
  | [t, tx] => match P.underlying t, P.underlying tx, x with
    | some (.slice e), some (.slice _), .slice .. | some (.slice e), some .string, .string _ => match P.info? e, zeroL P e with
      | some i, some z => if 0 < i.size ∧ i.bytes ≤ 64 ∧ z.length = i.size then appB i.size b x h k else false
      | _, _ => false
    | some (.slice e), some (.int _), .int .i64 n => match P.info? e, zeroL P e with
      | some i, some z => if 0 < i.size ∧ i.bytes ≤ 64 ∧ z.length = i.size then appZB i.size z b n h k else false
      | _, _ => false
    | _, _, _ => false
  | _ => false
theorem appendB_ok {P : Program} {ts : Array TypeId} {b x : Value} {t : HS} {h : AH} {k : KB} {K : Value → AH → Prop} (R : RepH t h) (hk : KOK k K) (hb : appendB P ts b x t k = true) : aAppend P ts b x h K := by
  unfold appendB at hb
  unfold aAppend
  split at hb
  · rename_i hts
    simp only [hts]
    split at hb
    · rename_i h1 h2
      simp only [h1, h2]
      split at hb
      · rename_i h3 h4
        simp only [h3, h4]
        split at hb
        · rename_i h5
          rw [if_pos h5]
          exact appB_ok R hk hb
        · cases hb
      · cases hb
    · rename_i h1 h2
      simp only [h1, h2]
      split at hb
      · rename_i h3 h4
        simp only [h3, h4]
        split at hb
        · rename_i h5
          rw [if_pos h5]
          exact appB_ok R hk hb
        · cases hb
      · cases hb
    · rename_i h1 h2
      simp only [h1, h2]
      split at hb
      · rename_i h3 h4
        simp only [h3, h4]
        split at hb
        · rename_i h5
          rw [if_pos h5]
          exact appZB_ok R hk hb
        · cases hb
      · cases hb
    · cases hb
  · cases hb
def rangeB (P : Program) (t : TypeId) (x : Value) (slot : Option Nat) (h : HS) (k : KB) : Bool :=
  match P.underlying t, x with
  | some .string, .string s => newB slot (.strIter s 0) h fun id h' => k (.pointer (some ⟨id, 0, none⟩)) h'
  | some (.map ..), .map none => newB slot (.mapIter none 0 [] 0) h fun id h' => k (.pointer (some ⟨id, 0, none⟩)) h'
  | some (.map ..), .map (some m) => match h.lookF m with
    | some (.map _ ck) => newB slot (.mapIter (some m) ck [] ck) h fun id h' => k (.pointer (some ⟨id, 0, none⟩)) h'
    | _ => false
  | _, _ => false
theorem rangeB_ok {P : Program} {t : TypeId} {x : Value} {slot : Option Nat} {s : HS} {h : AH} {k : KB} {K : Value → AH → Prop} (R : RepH s h) (hk : KOK k K) (hb : rangeB P t x slot s k = true) : aRange P t x slot h K := by
  unfold rangeB at hb
  unfold aRange
  split at hb
  · rename_i h1
    simp only [h1]
    exact newB_ok R hb fun i s h R' hh => hk _ _ _ R' hh
  · rename_i h1
    simp only [h1]
    exact newB_ok R hb fun i s h R' hh => hk _ _ _ R' hh
  · rename_i h1
    simp only [h1]
    split at hb
    · rename_i h2
      rw [R.lf] at h2
      simp only [show h[_]? = _ from h2]
      exact newB_ok R hb fun i s h R' hh => hk _ _ _ R' hh
    · cases hb
  · cases hb
def nextB (it : Value) (isString : Bool) (h : HS) (k : KB) : Bool :=
  match it with
  | .pointer (some ⟨r, 0, none⟩) => match h.lookF r, isString with
    | some (.strIter s pos), true =>
      if pos < s.size then k (.tuple #[.bool true, .int .i64 pos, .int .i32 (Utf8.decode s pos).1]) (h.put r (.strIter s (pos + (Utf8.decode s pos).2))) else k over h
    | some (.mapIter none _ _ _), false => k over h
    | some (.mapIter (some m) since seen last), false => match h.lookF m with
      | some (.map es ck) => cond (gone es seen last) false ((cands es since seen).all fun c => match c with
          | none => k over h
          | some e => k (.tuple #[.bool true, e.1, e.2.1]) (h.put r (.mapIter (some m) since (seen ++ [e.2.2]) ck)))
      | _ => false
    | _, _ => false
  | _ => false
theorem nextB_ok {it : Value} {b : Bool} {s : HS} {h : AH} {k : KB} {K : Value → AH → Prop} (R : RepH s h) (hk : KOK k K) (hb : nextB it b s k = true) : aNext it b h K := by
  unfold nextB at hb
  unfold aNext
  split at hb
  · split at hb
    · rename_i h1
      rw [R.lf] at h1
      simp only [show h[_]? = _ from h1]
      split at hb
      · rename_i h2
        rw [if_pos h2]
        exact hk _ _ _ (R.put (List.getElem?_eq_some_iff.1 h1).1 _) hb
      · rename_i h2
        rw [if_neg h2]
        exact hk _ _ _ R hb
    · rename_i h1
      rw [R.lf] at h1
      simp only [show h[_]? = _ from h1]
      exact hk _ _ _ R hb
    · rename_i h1
      rw [R.lf] at h1
      simp only [show h[_]? = _ from h1]
      split at hb
      · rename_i h2
        rw [R.lf] at h2
        simp only [show h[_]? = _ from h2]
        rename_i es ck
        cases hg : gone es _ _ with
        | true => rw [hg] at hb; cases hb
        | false =>
          rw [hg] at hb
          refine ⟨rfl, fun c hc => ?_⟩
          have := List.all_eq_true.1 hb c hc
          cases c with
          | none => exact hk _ _ _ R this
          | some e => exact hk _ _ _ (R.put (List.getElem?_eq_some_iff.1 h1).1 _) this
      · cases hb
    · cases hb
  · cases hb
end Go.AM
end

section
/- The abstract machine, run: regions, code, calls; and that a run that says yes is right. Conditions: none. -/
namespace Go.AM
open Go
variable {P : Program}
theorem optB_ok {α : Type} {o : Option α} {k : α → Bool} {K : α → Prop} (hb : optB o k = true) (hk : ∀ v, k v = true → K v) : optW o K := by
  obtain ⟨v, rfl, h⟩ := optB_elim hb
  exact hk v h
def convB (P : Program) (s d : TypeId) (x : Value) (slot : Option Nat) (h : HS) (k : KB) : Bool :=
  match P.underlying s, P.underlying d with
  | some .string, some (.slice e) => match P.underlying e, x with
    | some (.int .u8), .string b => cond (Nat.blt b.size room40) (newB slot (.row (bytesL b) false) h fun id h' => k (.slice (some ⟨id, 0, none⟩) b.size (openCap + 1)) h') false
    | _, _ => false
  | some (.slice e), some .string => match P.underlying e with
    | some (.int .u8) => optB (pBytesStrG x h.lookF) fun v => k v h
    | _ => false
  | some (.slice _), some (.slice e) => match P.underlying e, x, s == d with
    | some (.int .u8), .slice (some ⟨id, off, none⟩) (len + 1) cap, true => match h.lookF id with
      | some (.row _ true) => false
      | _ => false
    | _, _, _ => false
  | _, _ => optB (pConv P s d x) fun v => k v h
theorem convB_ok {s d : TypeId} {x : Value} {slot : Option Nat} {t : HS} {h : AH} {k : KB} {K : Value → AH → Prop} (R : RepH t h) (hk : KOK k K) (hb : convB P s d x slot t k = true) : convW P s d x slot h K := by
  unfold convB at hb
  unfold convW
  split at hb
  · rename_i h1 h2
    simp only [h1, h2]
    split at hb
    · rename_i h3
      simp only [h3]
      rename_i b
      cases hc : Nat.blt b.size room40 with
      | false => rw [hc] at hb; cases hb
      | true =>
        rw [hc] at hb
        exact ⟨blt_lt hc, newB_ok R hb fun i s h R' hh => hk _ _ _ R' hh⟩
    · cases hb
  · rename_i h1 h2
    simp only [h1, h2]
    split at hb
    · rename_i h3
      simp only [h3]
      rw [R.lf, pBytesStrG_eq] at hb
      exact optB_ok hb fun v hv => hk _ _ _ R hv
    · cases hb
  · rename_i h1 h2
    simp only [h1, h2]
    split at hb
    · rename_i h3 h4
      simp only [h3, h4]
      split at hb
      · rename_i h5
        rw [R.lf] at h5
        simp only [show h[_]? = _ from h5]
        cases hb
      · cases hb
    · cases hb
  · rename_i h1 h2 h3
    split
    · rename_i q1 q2; exact (h1 _ q1 q2).elim
    · rename_i q1 q2; exact (h2 _ q1 q2).elim
    · rename_i q1 q2; exact (h3 _ _ q1 q2).elim
    · exact optB_ok hb fun v hv => hk _ _ _ R hv
def XOK (X : CallB) (XX : CallT) : Prop := ∀ f args s k h K, RepH s h → KOK k K → X f args s k = true → XX f args h K
def callOpB (P : Program) (X : CallB) (c : Call) (e : TE) (h : HS) (k : KB) : Bool :=
  match c.callee with
  | .builtin b => match b, c.args.toList, c.argTypes.toList with
    | .len, [x], t :: _ => optB (lenG P t (tev e x) h.lookF) fun v => k v h
    | .append, [x, y], [t, u] => appendB P #[t, u] (tev e x) (tev e y) h k
    | .max, [x, y], _ => optB (pMax2 true (tev e x) (tev e y)) fun v => k v h
    | .min, [x, y], _ => optB (pMax2 false (tev e x) (tev e y)) fun v => k v h
    | .cap, [x], t :: _ => optB (pCap P t (tev e x)) fun v => k v h
    | _, _, _ => false
  | .value f => match tev e f with
    | .func (.func g) a b => X g (a.toList ++ c.args.toList.map (tev e) ++ b.toList) h k
    | _ => false
  | .invoke .. => false
theorem callOpB_ok {X : CallB} {XX : CallT} (hX : XOK X XX) {c : Call} {te : TE} {e : Env} (E : RepE te e) {t : HS} {h : AH} {k : KB} {K : Value → AH → Prop} (R : RepH t h) (hk : KOK k K) (hb : callOpB P X c te t k = true) : callOpW P XX c e h K := by
  unfold callOpB at hb
  unfold callOpW
  rw [E.fn] at hb
  split at hb
  · rename_i h1
    simp only [h1]
    split at hb
    · rename_i h2 h3
      simp only [h2, h3]
      rw [R.lf, lenG_eq] at hb
      exact optB_ok hb fun v hv => hk _ _ _ R hv
    · rename_i h2 h3
      simp only [h2, h3]
      exact appendB_ok R hk hb
    · rename_i h2
      simp only [h2]
      exact optB_ok hb fun v hv => hk _ _ _ R hv
    · rename_i h2
      simp only [h2]
      exact optB_ok hb fun v hv => hk _ _ _ R hv
    · rename_i h2 h3
      simp only [h2, h3]
      exact optB_ok hb fun v hv => hk _ _ _ R hv
    · cases hb
  · rename_i h1
    simp only [h1]
    split at hb
    · rename_i h2
      simp only [h2]
      exact hX _ _ _ _ _ _ R hk hb
    · cases hb
  · cases hb
def opB (P : Program) (X : CallB) (slot : Option Nat) (o : Oper) (e : TE) (h : HS) (k : KB) : Bool :=
  match o.op with
  | .move x | .assign x => k (tev e x) h
  | .pick c a b => optB (pPick (tev e c) (tev e a) (tev e b)) fun v => k v h
  | .alloc t => optB (zeroL P t) fun c => newB slot (.row c true) h fun id h' => k (.pointer (some ⟨id, 0, none⟩)) h'
  | .box _ x => cond ((cellsL (tev e x)).all (·.oneCell')) (newB slot (.row (cellsL (tev e x)) true) h fun id h' => k (.pointer (some ⟨id, 0, none⟩)) h') false
  | .build t ps => optB (pBuild P t (ps.toList.map fun p => (p.1, tev e p.2))) fun v => k v h
  | .buildSlice t n ps => optB (pBuildSlice P t n (ps.toList.map fun p => (p.1, tev e p.2))) fun c => newB slot (.row c true) h fun id h' => k (.slice (some ⟨id, 0, none⟩) n n) h'
  | .load t x => optB (pLoadG P t (tev e x) h.lookF) fun v => k v h
  | .store t x v => setB (stOfG P t (tev e x) (tev e v) h.lookF) h fun h' => k undef h'
  | .nilCheck x => optB (pNilCheck (tev e x)) fun v => k v h
  | .binOp op t x y _ => optB (pBinQ P op t (tev e x) (tev e y)) fun v => k v h
  | .unOp op _ x => optB (pUn op (tev e x)) fun v => k v h
  | .convert s d x => convB P s d (tev e x) slot h k
  | .makeFunc fn a b => k (.func fn (a.map (tev e)) (b.map (tev e))) h
  | .makeMap _ none => newB slot (.map [] 0) h fun id h' => k (.map (some id)) h'
  | .makeSlice t l c => optB (pMakeSlice P t (tev e l) (tev e c)) fun r => newB slot (.row r.2.2 true) h fun id h' => k (.slice (some ⟨id, 0, none⟩) r.1 r.2.1) h'
  | .slice t x lo hi mx => optB (pSliceQ P t (tev e x) (lo.map (tev e)) (hi.map (tev e)) (mx.map (tev e))) fun v => k v h
  | .fieldAddr s x f => optB (pFieldAddr P s f (tev e x)) fun v => k v h
  | .field t x f => optB (pField P t (tev e x) f) fun v => k v h
  | .indexAddr t x i => optB (pIndexAddr P t (tev e x) (tev e i)) fun v => k v h
  | .index t x i => optB (pIndexQ P t (tev e x) (tev e i)) fun v => k v h
  | .lookup t x i ok => optB (pLookG P t (tev e x) (tev e i) ok h.lookF) fun v => k v h
  | .mapUpdate t m kk v => setB (pMapUG P t (tev e m) (tev e kk) (tev e v) h.lookF) h fun h' => k undef h'
  | .range t x => rangeB P t (tev e x) slot h k
  | .next it s => nextB (tev e it) s h k
  | .entry it => optB (pEntryG (tev e it) h.lookF) fun v => k v h
  | .extract t i => optB (pExtract (tev e t) i) fun v => k v h
  | .call c => callOpB P X c e h k
  | _ => false
theorem setB_ok {u : Option (Nat × AObj)} {s : HS} {h : AH} {k : HS → Bool} (R : RepH s h) (hb : setB u s k = true) (hin : ∀ v, u = some v → ∃ o, h[v.1]? = some o) : ∃ v, u = some v ∧ RepH (s.put v.1 v.2) (setH h v) ∧ k (s.put v.1 v.2) = true := by
  unfold setB at hb
  split at hb
  · rename_i i o
    obtain ⟨o', ho⟩ := hin _ rfl
    exact ⟨_, rfl, R.put (List.getElem?_eq_some_iff.1 ho).1 _, hb⟩
  · cases hb
theorem cond_true {b c : Bool} (h : cond b c false = true) : b = true ∧ c = true := by
  cases b with
  | false => cases h
  | true => exact ⟨rfl, h⟩
theorem opB_ok {X : CallB} {XX : CallT} (hX : XOK X XX) {slot : Option Nat} {o : Oper} {te : TE} {e : Env} (E : RepE te e) {t : HS} {h : AH} {k : KB} {K : Value → AH → Prop} (R : RepH t h) (hk : KOK k K) (hb : opB P X slot o te t k = true) : opW P XX slot o e h K := by
  unfold opB at hb
  unfold opW
  have here : ∀ {v}, k v t = true → K v h := fun hv => hk _ _ _ R hv
  rw [E.fn] at hb
  split at hb <;> rename_i ho <;> simp only [ho]
  · exact here hb
  · exact here hb
  · exact optB_ok hb fun v hv => here hv
  · exact optB_ok hb fun v hv => newB_ok R hv fun i s h R' hh => hk _ _ _ R' hh
  · obtain ⟨h1, h2⟩ := cond_true hb
    exact ⟨h1, newB_ok R h2 fun i s h R' hh => hk _ _ _ R' hh⟩
  · exact optB_ok hb fun v hv => here hv
  · exact optB_ok hb fun v hv => newB_ok R hv fun i s h R' hh => hk _ _ _ R' hh
  · rw [R.lf, pLoadG_eq] at hb
    exact optB_ok hb fun v hv => here hv
  · rw [R.lf] at hb
    obtain ⟨v, hv, R', h2⟩ := setB_ok R hb fun v hv => stOfG_in hv
    rw [stOfG_eq hv]
    exact hk _ _ _ R' h2
  · exact optB_ok hb fun v hv => here hv
  · rw [pBinQ_eq] at hb
    exact optB_ok hb fun v hv => here hv
  · exact optB_ok hb fun v hv => here hv
  · exact convB_ok R hk hb
  · exact here hb
  · exact newB_ok R hb fun i s h R' hh => hk _ _ _ R' hh
  · exact optB_ok hb fun v hv => newB_ok R hv fun i s h R' hh => hk _ _ _ R' hh
  · rw [pSliceQ_eq] at hb
    exact optB_ok hb fun v hv => here hv
  · exact optB_ok hb fun v hv => here hv
  · exact optB_ok hb fun v hv => here hv
  · exact optB_ok hb fun v hv => here hv
  · rw [pIndexQ_eq] at hb
    exact optB_ok hb fun v hv => here hv
  · rw [R.lf, pLookG_eq] at hb
    exact optB_ok hb fun v hv => here hv
  · rw [R.lf] at hb
    obtain ⟨v, hv, R', h2⟩ := setB_ok R hb fun v hv => pMapUG_in hv
    rw [pMapUG_eq hv]
    exact hk _ _ _ R' h2
  · exact rangeB_ok R hk hb
  · exact nextB_ok R hk hb
  · rw [R.lf, pEntryG_eq] at hb
    exact optB_ok hb fun v hv => here hv
  · exact optB_ok hb fun v hv => here hv
  · exact callOpB_ok hX E R hk hb
  · cases hb
end Go.AM
end

section
/- The abstract machine, run: regions, code, calls; and that a run that says yes is right. Conditions: none. -/
namespace Go.AM
open Go
variable {P : Program}
def adEq : Option Addr → Option Addr → Bool
  | none, none => true
  | some ⟨a, x, none⟩, some ⟨b, y, none⟩ => Nat.beq a b && Nat.beq x y
  | _, _ => false
def nOEq : Option Nat → Option Nat → Bool
  | none, none => true
  | some a, some b => Nat.beq a b
  | _, _ => false
def veqS : Value → Value → Bool
  | .bool a, .bool b => a == b
  | .int k a, .int k' b => decide (k = k') && decide (a = b)
  | .string a, .string b => u8s a.data.toList b.data.toList
  | .pointer a, .pointer b => adEq a b
  | .slice a l c, .slice b l' c' => adEq a b && Nat.beq l l' && Nat.beq c c'
  | .map a, .map b => nOEq a b
  | .nilFunc, .nilFunc => true
  | .nilIface, .nilIface => true
  | _, _ => false
def listEq {α : Type} (f : α → α → Bool) : List α → List α → Bool
  | [], [] => true
  | a :: l, b :: m => f a b && listEq f l m
  | _, _ => false
theorem listEq_sound {α : Type} {f : α → α → Bool} (hf : ∀ a b, f a b = true → a = b) : ∀ {l m : List α}, listEq f l m = true → l = m
  | [], [], _ => rfl
  | [], _ :: _, h => by cases h
  | _ :: _, [], h => by cases h
  | a :: l, b :: m, h => by
    simp only [listEq, Bool.and_eq_true] at h
    rw [hf _ _ h.1, listEq_sound hf h.2]
theorem adEq_sound {a b : Option Addr} (h : adEq a b = true) : a = b := by
  unfold adEq at h
  split at h
  · rfl
  · simp only [Bool.and_eq_true] at h
    rw [Nat.eq_of_beq_eq_true h.1, Nat.eq_of_beq_eq_true h.2]
  · cases h
theorem nOEq_sound {a b : Option Nat} (h : nOEq a b = true) : a = b := by
  unfold nOEq at h
  split at h
  · rfl
  · rw [Nat.eq_of_beq_eq_true h]
  · cases h
theorem bytes_ext {x y : ByteArray} (h : x.data.toList = y.data.toList) : x = y := ByteArray.ext (Array.toList_inj.1 h)
theorem veqS_sound (x y : Value) (h : veqS x y = true) : x = y := by
  unfold veqS at h
  split at h
  · rw [eq_of_beq h]
  · simp only [Bool.and_eq_true, decide_eq_true_eq] at h
    rw [h.1, h.2]
  · rw [u8s_eq] at h
    rw [bytes_ext (eq_of_beq h)]
  · rw [adEq_sound h]
  · simp only [Bool.and_eq_true] at h
    rw [adEq_sound h.1.1, Nat.eq_of_beq_eq_true h.1.2, Nat.eq_of_beq_eq_true h.2]
  · rw [nOEq_sound h]
  · rfl
  · rfl
  · cases h
def veq : Value → Value → Bool
  | .agg a, .agg b => listEq veqS a.toList b.toList
  | .tuple a, .tuple b => listEq veqS a.toList b.toList
  | x, y => veqS x y
theorem veq_sound (x y : Value) (h : veq x y = true) : x = y := by
  unfold veq at h
  split at h
  · rw [Array.toList_inj.1 (listEq_sound veqS_sound h)]
  · rw [Array.toList_inj.1 (listEq_sound veqS_sound h)]
  · exact veqS_sound _ _ h
def entEq (a b : Ent) : Bool := veq a.1 b.1 && veq a.2.1 b.2.1 && Nat.beq a.2.2 b.2.2
theorem entEq_sound (a b : Ent) (h : entEq a b = true) : a = b := by
  simp only [entEq, Bool.and_eq_true] at h
  exact Prod.ext (veq_sound _ _ h.1.1) (Prod.ext (veq_sound _ _ h.1.2) (Nat.eq_of_beq_eq_true h.2))
def oEq : Option AObj → Option AObj → Bool
  | none, none => true
  | some .dead, some .dead => true
  | some (.row c w), some (.row c' w') => (w == w') && listEq veq c c'
  | some (.map es k), some (.map es' k') => listEq entEq es es' && Nat.beq k k'
  | _, _ => false
theorem oEq_sound {x y : Option AObj} (h : oEq x y = true) : x = y := by
  unfold oEq at h
  split at h
  · rfl
  · rfl
  · simp only [Bool.and_eq_true] at h
    rw [eq_of_beq h.1, listEq_sound veq_sound h.2]
  · simp only [Bool.and_eq_true] at h
    rw [listEq_sound entEq_sound h.1, Nat.eq_of_beq_eq_true h.2]
  · cases h
def gvalB (ops : Array Oper) (o : Oper) (e : TE) : Bool :=
  match o.guard with
  | none => true
  | some (j, want) => match (ops[j]?).bind (·.dst) with
    | some t => gB (tev e (.tmp t)) want
    | none => false
theorem gvalB_eq {ops : Array Oper} {o : Oper} {te : TE} {e : Env} (E : RepE te e) : gvalB ops o te = gval ops o e := by
  unfold gvalB gval
  simp only [E.ev]
  rfl
def ordB (P : Program) (X : CallB) (ops : Array Oper) : List Oper → TE → HS → (TE → HS → Bool) → Bool
  | [], e, h, q => q e h
  | o :: r, e, h, q => cond (gvalB ops o e) (opB P X none o e h fun v h' => ordB P X ops r (tput e o.dst v) h' q) (ordB P X ops r (tput e o.dst undef) h q)
def QOK (q : TE → HS → Bool) (Q : Env → AH → Prop) : Prop := ∀ te e s h, RepE te e → RepH s h → q te s = true → Q e h
theorem ordB_ok {X : CallB} {XX : CallT} (hX : XOK X XX) {ops : Array Oper} (hd : ∀ o ∈ ops.toList, ∀ d, o.dst = some d → d < 1000000) {q : TE → HS → Bool} {Q : Env → AH → Prop} (hq : QOK q Q) : ∀ (l : List Oper) (i : Nat) {te : TE} {e : Env} {s : HS} {h : AH},
    RepE te e → RepH s h → ops.toList.drop i = l → ordB P X ops l te s q = true → ordW P XX ops (fun _ => none) (List.range' i l.length) e h Q
  | [], _, _, _, _, _, E, R, _, hb => hq _ _ _ _ E R hb
  | o :: r, i, te, e, s, h, E, R, hdr, hb => by
    have ho : ops[i]? = some o := by
      rw [← Array.getElem?_toList]
      have : (ops.toList.drop i)[0]? = some o := by rw [hdr]; rfl
      simpa using this
    have hr : ops.toList.drop (i + 1) = r := by
      have : (ops.toList.drop i).drop 1 = r := by rw [hdr]; rfl
      simpa [List.drop_drop, Nat.add_comm] using this
    have hdo : ∀ d, o.dst = some d → d < 1000000 := hd o (by
      rw [← List.take_append_drop i ops.toList, hdr]; simp)
    show ordW P XX ops _ (i :: List.range' (i + 1) r.length) e h Q
    simp only [ordW, ho]
    rw [ordB, gvalB_eq E] at hb
    cases hg : gval ops o e with
    | true =>
      rw [hg, _root_.cond_true] at hb
      simp only [gopW]
      refine opB_ok hX E R ?_ hb
      intro v s' h' R' hh
      exact ordB_ok hX hd hq r (i + 1) (E.put _ _ hdo) R' hr hh
    | false =>
      rw [hg] at hb
      exact ordB_ok hX hd hq r (i + 1) (E.put _ _ hdo) R hr hb
abbrev HB := List (Nat × HS × HS)
def RepHB : HB → HT → Prop
  | [], [] => True
  | a :: l, b :: m => a.1 = b.1 ∧ RepH a.2.1 b.2.1 ∧ RepH a.2.2 b.2.2 ∧ RepHB l m
  | _, _ => False
theorem RepHB.cons {i : Nat} {s s' : HS} {h h' : AH} {l : HB} {m : HT} (h1 : RepH s h) (h2 : RepH s' h') (h3 : RepHB l m) : RepHB ((i, s, s') :: l) ((i, h, h') :: m) := by
  unfold RepHB
  exact ⟨rfl, h1, h2, h3⟩
theorem RepHB.nil : RepHB [] [] := by
  unfold RepHB
  trivial
def histB (b : Array Nat) (j : Nat) (xs : List Loc) : HB → Bool
  | [] => true
  | (k, hb, ha) :: r => cond (free b k j && Nat.blt k j) (xs.all fun x => oEq (hb.lookF x.id) (ha.lookF x.id)) true && histB b j xs r
theorem histB_ok {b : Array Nat} {j : Nat} {xs : List Loc} {K : Prop} (hK : K) : ∀ {HB : HB} {H : HT}, RepHB HB H → histB b j xs HB = true → histC b j xs H K
  | [], [], _, _ => hK
  | [], _ :: _, h, _ => h.elim
  | _ :: _, [], h, _ => h.elim
  | (k, x, y) :: l, (k', x', y') :: m, ⟨h1, h2, h3, h4⟩, hb => by
    dsimp only at h1 h2 h3
    subst h1
    simp only [histB, Bool.and_eq_true] at hb
    simp only [histC]
    cases hc : (free b k j && Nat.blt k j) with
    | true =>
      rw [hc] at hb
      refine ⟨fun z hz => ?_, histB_ok hK h4 hb.2⟩
      have := oEq_sound (List.all_eq_true.1 hb.1 z hz)
      rw [h2.lf, h3.lf] at this
      exact vw_eq this
    | false => exact histB_ok hK h4 hb.2
def readB (b : Array Nat) (j : Nat) (hb ha : HS) : ST → Bool
  | [] => true
  | (k, xs) :: r => cond (free b k j && Nat.blt k j) (xs.all fun x => oEq (hb.lookF x.id) (ha.lookF x.id)) true && readB b j hb ha r
theorem readB_ok {b : Array Nat} {j : Nat} {x y : HS} {x' y' : AH} {K : Prop} (hK : K) (h2 : RepH x x') (h3 : RepH y y') : ∀ {S : ST}, readB b j x y S = true → readC b j x' y' S K
  | [], _ => hK
  | (k, xs) :: r, hb => by
    simp only [readB, Bool.and_eq_true] at hb
    simp only [readC]
    cases hc : (free b k j && Nat.blt k j) with
    | true =>
      rw [hc] at hb
      refine ⟨fun z hz => ?_, readB_ok hK h2 h3 hb.2⟩
      have := oEq_sound (List.all_eq_true.1 hb.1 z hz)
      rw [h2.lf, h3.lf] at this
      exact vw_eq this
    | false => exact readB_ok hK h2 h3 hb.2
def touchB (P : Program) (o : Oper) (e : TE) : List Loc :=
  match o.op with
  | .load t x => match P.info? t with
    | some i => ceOf i.size (tev e x)
    | none => []
  | .lookup _ x _ _ => obOf (tev e x)
  | .convert _ _ x => obOf (tev e x)
  | .store _ x _ => obOf (tev e x)
  | .mapUpdate _ m _ _ => obOf (tev e m)
  | .call c => match c.args.toList with
    | [x] => obOf (tev e x)
    | [x, y] => obOf (tev e x) ++ obOf (tev e y)
    | _ => []
  | _ => []
theorem touchB_eq {P : Program} {o : Oper} {te : TE} {e : Env} (E : RepE te e) : touchB P o te = touch P o e := by
  unfold touchB touch
  rw [E.fn]
  rfl
abbrev KD := Value → HS → HB → ST → Bool
def KDOK (k : KD) (K : Value → AH → HT → ST → Prop) : Prop := ∀ v s h HB H S, RepH s h → RepHB HB H → k v s HB S = true → K v h H S
def opDB (P : Program) (X : CallB) (b : Array Nat) (sl : List (Option Nat)) (i : Nat) (o : Oper) (H : HB) (S : ST) (e : TE) (h : HS) (k : KD) : Bool :=
  match clOf P o with
  | .pure => opB P X none o e h fun v h' => k v h' H S
  | .rd => histB b i (touchB P o e) H && opB P X none o e h fun v h' => k v h' H ((i, touchB P o e) :: S)
  | .al => opB P X (slotAt sl i) o e h fun v h' => k v h' ((i, h, h') :: H) S
  | .eff => histB b i (touchB P o e) H && opB P X none o e h fun v h' => readB b i h h' S && k v h' ((i, h, h') :: H) S
  | .call => opB P X none o e h fun v h' => readB b i h h' S && k v h' ((i, h, h') :: H) S
  | .bad => false
theorem opDB_ok {X : CallB} {XX : CallT} (hX : XOK X XX) {b : Array Nat} {sl : List (Option Nat)} {i : Nat} {o : Oper} {HB : HB} {H : HT} {S : ST} {te : TE} {e : Env} {s : HS} {h : AH} {k : KD} {K : Value → AH → HT → ST → Prop}
    (E : RepE te e) (R : RepH s h) (RH : RepHB HB H) (hk : KDOK k K) (hb : opDB P X b sl i o HB S te s k = true) : opD P XX b sl i o H S e h K := by
  unfold opDB at hb
  unfold opD
  split at hb <;> rename_i hc <;> simp only [hc]
  · exact opB_ok hX E R (fun v s h R' hh => hk _ _ _ _ _ _ R' RH hh) hb
  · rw [Bool.and_eq_true, touchB_eq E] at hb
    refine histB_ok (opB_ok hX E R ?_ hb.2) RH hb.1
    intro v s h R' hh
    exact hk _ _ _ _ _ _ R' RH hh
  · refine opB_ok hX E R ?_ hb
    intro v s h R' hh
    exact hk _ _ _ _ _ _ R' (.cons R R' RH) hh
  · rw [Bool.and_eq_true, touchB_eq E] at hb
    refine histB_ok (opB_ok hX E R (fun v s h R' hh => ?_) hb.2) RH hb.1
    rw [Bool.and_eq_true] at hh
    exact readB_ok (hk _ _ _ _ _ _ R' (.cons R R' RH) hh.2) R R' hh.1
  · refine opB_ok hX E R (fun v s h R' hh => ?_) hb
    rw [Bool.and_eq_true] at hh
    exact readB_ok (hk _ _ _ _ _ _ R' (.cons R R' RH) hh.2) R R' hh.1
  · cases hb
def textB (P : Program) (X : CallB) (ops : Array Oper) (b : Array Nat) (sl : List (Option Nat)) : List Oper → Nat → HB → ST → TE → HS → (TE → HS → Bool) → Bool
  | [], _, _, _, e, h, q => q e h
  | o :: r, i, H, S, e, h, q => cond (gvalB ops o e) (opDB P X b sl i o H S e h fun v h' H' S' => textB P X ops b sl r (Nat.succ i) H' S' (tput e o.dst v) h' q) (textB P X ops b sl r (Nat.succ i) H S (tput e o.dst undef) h q)
theorem textB_ok {X : CallB} {XX : CallT} (hX : XOK X XX) {ops : Array Oper} (hd : ∀ o ∈ ops.toList, ∀ d, o.dst = some d → d < 1000000) {b : Array Nat} {sl : List (Option Nat)} {q : TE → HS → Bool} {Q : Env → AH → Prop} (hq : QOK q Q) :
    ∀ (l : List Oper) (i : Nat) {HB : HB} {H : HT} {S : ST} {te : TE} {e : Env} {s : HS} {h : AH},
    RepE te e → RepH s h → RepHB HB H → ops.toList.drop i = l → textB P X ops b sl l i HB S te s q = true → textD P XX ops b sl (List.range' i l.length) H S e h Q
  | [], _, _, _, _, _, _, _, _, E, R, _, _, hb => hq _ _ _ _ E R hb
  | o :: r, i, HB, H, S, te, e, s, h, E, R, RH, hdr, hb => by
    have ho : ops[i]? = some o := by
      rw [← Array.getElem?_toList]
      have : (ops.toList.drop i)[0]? = some o := by rw [hdr]; rfl
      simpa using this
    have hr : ops.toList.drop (i + 1) = r := by
      have : (ops.toList.drop i).drop 1 = r := by rw [hdr]; rfl
      simpa [List.drop_drop, Nat.add_comm] using this
    have hdo : ∀ d, o.dst = some d → d < 1000000 := hd o (by
      rw [← List.take_append_drop i ops.toList, hdr]; simp)
    show textD P XX ops b sl (i :: List.range' (i + 1) r.length) H S e h Q
    simp only [textD, ho]
    rw [textB, gvalB_eq E] at hb
    cases hg : gval ops o e with
    | true =>
      rw [hg, _root_.cond_true] at hb
      simp only [gopD]
      refine opDB_ok hX E R RH ?_ hb
      intro v s' h' HB' H' S' R' RH' hh
      exact textB_ok hX hd hq r (i + 1) (E.put _ _ hdo) R' RH' hr hh
    | false =>
      rw [hg] at hb
      exact textB_ok hX hd hq r (i + 1) (E.put _ _ hdo) R RH hr hb
def reserveB : Nat → HS → (HS → Bool) → Bool
  | 0, h, k => k h
  | n + 1, h, k => h.push .dead fun _ h' => reserveB n h' k
theorem reserveB_ok {k : HS → Bool} {K : AH → Prop} (hk : ∀ s h, RepH s h → k s = true → K h) : ∀ (n : Nat) {s : HS} {h : AH}, RepH s h → reserveB n s k = true → K (reserve n h)
  | 0, _, _, R, hb => hk _ _ R hb
  | n + 1, s, h, R, hb => by
    simp only [reserveB, HS.push] at hb
    obtain ⟨h1, h2⟩ := cond_true hb
    exact reserveB_ok hk n (R.push .dead (blt_lt h1)) h2
def regB (P : Program) (X : CallB) (ops : Array Oper) (draw : Bool) (e : TE) (h : HS) (q : TE → HS → Bool) : Bool :=
  match draw with
  | false => ordB P X ops ops.toList e h q
  | true => cond (drawOK P ops) (reserveB (countAl P ops.toList) h fun h' => textB P X ops (Region.before ops) (slots P ops.toList h.n) ops.toList 0 [] [] e h' q) false
theorem regB_ok {X : CallB} {XX : CallT} (hX : XOK X XX) {ops : Array Oper} (hd : ∀ o ∈ ops.toList, ∀ d, o.dst = some d → d < 1000000) {draw : Bool} {q : TE → HS → Bool} {Q : Env → AH → Prop} (hq : QOK q Q) {te : TE} {e : Env} {s : HS} {h : AH}
    (E : RepE te e) (R : RepH s h) (hb : regB P X ops draw te s q = true) : regW P XX ops draw e h Q := by
  cases draw with
  | false =>
    have := ordB_ok hX hd hq ops.toList 0 E R rfl hb
    simp only [regW]
    rw [List.range_eq_range']
    exact this
  | true =>
    simp only [regB] at hb
    obtain ⟨h1, h2⟩ := cond_true hb
    simp only [regW, h1]
    rw [← R.n, List.range_eq_range']
    exact reserveB_ok (K := fun h' => textD P XX ops (Region.before ops) (slots P ops.toList s.n) (List.range' 0 ops.size) [] [] e h' Q) (fun s' h' R' hh => textB_ok hX hd hq ops.toList 0 E R' .nil rfl hh) _ R h2
end Go.AM
end

section
/- The abstract machine, run: code and calls; a run that says yes is right. Conditions: none. -/
namespace Go.AM
open Go
variable {P : Program}
abbrev KE := Exit → TE → HS → Bool
def EOK (k : KE) (Q : Exit → Env → AH → Prop) : Prop := ∀ x te e s h, RepE te e → RepH s h → k x te s = true → Q x e h
def iterB : Nat → (KE → TE → HS → Bool) → KE → TE → HS → Bool
  | 0, _, _, _, _ => false
  | n + 1, B, k, e, s => B (fun x e s => match x with
      | .normal => iterB n B k e s
      | x => k x e s) e s
def codeB (P : Program) (X : CallB) (fuel : Nat) : Code → KE → TE → HS → Bool
  | .skip, k, e, h => k .normal e h
  | .region _ ops draw, k, e, h => regB P X ops draw e h (k .normal)
  | .seq a b, k, e, h => codeB P X fuel a (fun x e h => match x with
      | .normal => codeB P X fuel b k e h
      | x => k x e h) e h
  | .cond c a b, k, e, h => match tev e c with
      | .bool true => codeB P X fuel a k e h
      | .bool false => codeB P X fuel b k e h
      | _ => false
  | .block id c, k, e, h => codeB P X fuel c (fun x e h => match x with
      | .exit id' => cond (Nat.beq id' id) (k .normal e h) (k (.exit id') e h)
      | x => k x e h) e h
  | .loop c, k, e, h => iterB fuel (codeB P X fuel c) k e h
  | .exit id, k, e, h => k (.exit id) e h
  | .ret, k, e, h => k .ret e h
  | _, _, _, _ => false
theorem ops_dst {nt : Nat} (hnt : nt < 1000000) {ops : Array Oper} (h : ops.toList.all (operOK nt) = true) : ∀ o ∈ ops.toList, ∀ d, o.dst = some d → d < 1000000 := by
  intro o ho d hd
  exact Nat.lt_trans ((operOK_dst (List.all_eq_true.1 h o ho)).2 d hd) hnt
theorem codeB_ok {X : CallB} {XX : CallT} (hX : XOK X XX) {fuel nt : Nat} (hnt : nt < 1000000) : ∀ (c : Code), codeOK nt c = true → ∀ {k : KE} {Q : Exit → Env → AH → Prop} {te : TE} {e : Env} {s : HS} {h : AH}, EOK k Q → RepE te e → RepH s h → codeB P X fuel c k te s = true → cwp P XX c Q e h
  | .skip, _, k, Q, te, e, s, h, hk, E, R, hb => hk _ _ _ _ _ E R hb
  | .region _ ops draw, hok, k, Q, te, e, s, h, hk, E, R, hb => regB_ok hX (ops_dst hnt hok) (fun te e s h E R hh => hk _ _ _ _ _ E R hh) E R hb
  | .seq a b, hok, k, Q, te, e, s, h, hk, E, R, hb => by
    simp only [codeOK, Bool.and_eq_true] at hok
    refine codeB_ok hX hnt a hok.1 (Q := thenW (cwp P XX b Q) Q) ?_ E R hb
    intro x te e s h E R hh
    cases x with
    | normal => exact codeB_ok hX hnt b hok.2 hk E R hh
    | _ => exact hk _ _ _ _ _ E R hh
  | .cond c a b, hok, k, Q, te, e, s, h, hk, E, R, hb => by
    simp only [codeOK, Bool.and_eq_true] at hok
    simp only [codeB, E.ev] at hb
    simp only [cwp]
    split at hb
    · rename_i hv
      rw [hv]
      exact codeB_ok hX hnt a hok.1.2 hk E R hb
    · rename_i hv
      rw [hv]
      exact codeB_ok hX hnt b hok.2 hk E R hb
    · cases hb
  | .block id c, hok, k, Q, te, e, s, h, hk, E, R, hb => by
    refine codeB_ok hX hnt c hok (Q := blockW id Q) ?_ E R hb
    intro x te e s h E R hh
    cases x with
    | exit id' =>
      simp only [blockW]
      dsimp only at hh
      cases hi : Nat.beq id' id with
      | true => rw [hi] at hh; exact hk _ _ _ _ _ E R hh
      | false => rw [hi] at hh; exact hk _ _ _ _ _ E R hh
    | _ => exact hk _ _ _ _ _ E R hh
  | .loop c, hok, k, Q, te, e, s, h, hk, E, R, hb => by
    intro I hI
    have key : ∀ (n : Nat) {te : TE} {e : Env} {s : HS} {h : AH}, RepE te e → RepH s h → iterB n (codeB P X fuel c) k te s = true → I e h := by
      intro n
      induction n with
      | zero => intro te e s h _ _ hb; cases hb
      | succ n ih =>
        intro te e s h E R hb
        refine hI e h (codeB_ok hX hnt c hok (Q := thenW I Q) ?_ E R hb)
        intro x te e s h E R hh
        cases x with
        | normal => exact ih E R hh
        | _ => exact hk _ _ _ _ _ E R hh
    exact key fuel E R hb
  | .exit id, _, k, Q, te, e, s, h, hk, E, R, hb => hk _ _ _ _ _ E R hb
  | .ret, _, k, Q, te, e, s, h, hk, E, R, hb => hk _ _ _ _ _ E R hb
  | .rangeFunc .., _, _, _, _, _, _, _, _, _, _, hb => by cases hb
  | .scope _, _, _, _, _, _, _, _, _, _, _, hb => by cases hb
  | .label _, _, _, _, _, _, _, _, _, _, _, hb => by cases hb
  | .goto _, _, _, _, _, _, _, _, _, _, _, hb => by cases hb
  | .refuse _, _, _, _, _, _, _, _, _, _, _, hb => by cases hb
def teOf : List Value → Nat → TE → TE
  | [], _, t => t
  | v :: r, i, t => teOf r (Nat.succ i) (Tr.set v 40 t i)
theorem teOf_get : ∀ (l : List Value) (i : Nat) (t : TE), i + l.length < 1000000 → ∀ j, Tr.get (teOf l i t) j = if i ≤ j ∧ j < i + l.length then l[j - i]? else Tr.get t j
  | [], i, t, _, j => by
    have : ¬ (i ≤ j ∧ j < i + ([] : List Value).length) := by simp
    rw [if_neg this]; rfl
  | v :: r, i, t, h, j => by
    simp only [List.length_cons] at h ⊢
    rw [teOf, teOf_get r (i + 1) _ (by omega), Tr.get_set _ _ _ _ _ (by omega)]
    by_cases h1 : j = i
    · subst h1
      rw [if_neg (by omega), if_pos rfl, if_pos (by omega)]
      simp
    · by_cases h2 : i + 1 ≤ j ∧ j < i + 1 + r.length
      · rw [if_pos h2, if_pos (by omega)]
        have : j - i = (j - (i + 1)) + 1 := by omega
        rw [this, List.getElem?_cons_succ]
      · rw [if_neg h2, if_neg h1, if_neg (by omega)]
theorem teOf_rep {args : List Value} (h : args.length < 1000000) : RepE (teOf args 0 .leaf) (envOf args) := by
  intro j
  rw [teOf_get args 0 .leaf (by omega)]
  show args.getD j undef = _
  by_cases hj : j < args.length
  · rw [if_pos (by omega)]; simp [List.getD_eq_getElem?_getD]
  · rw [if_neg (by omega), Tr.get_leaf]
    simp [List.getD_eq_getElem?_getD, List.getElem?_eq_none (by omega : args.length ≤ j)]
def resCellB (P : Program) (e : TE) (h : HS) : ResultVar → Option Value
  | .tmp t => some (tev e (.tmp t))
  | .cell a t => pLoadG P t (tev e (.tmp a)) h.lookF
def resListB (P : Program) (e : TE) (h : HS) : List ResultVar → Option (List Value)
  | [] => some []
  | r :: rs => match resCellB P e h r with
    | some v => match resListB P e h rs with
      | some vs => some (v :: vs)
      | none => none
    | none => none
theorem resListB_eq {te : TE} {e : Env} {s : HS} {h : AH} (E : RepE te e) (R : RepH s h) : ∀ (l : List ResultVar), resListB P te s l = resList P e h l
  | [] => rfl
  | r :: rs => by
    have h1 : resCellB P te s r = resCell P e h r := by
      cases r with
      | tmp t => exact congrArg some (E t).symm
      | cell a t =>
        show pLoadG P t (tev te (.tmp a)) s.lookF = pLoad P t (e a) h
        rw [R.lf, pLoadG_eq, E.ev]
        rfl
    rw [resListB, resList, h1, resListB_eq E R rs]
    rfl
def endB (P : Program) (fn : Func) (k : KB) : KE
  | .normal, e, h | .ret, e, h => optB (resListB P e h fn.results.toList) fun vs => k (resOf vs) h
  | _, _, _ => false
abbrev Orc := FuncId → List Value → (Nat → Option AObj) → Option (List Value)
def OrcOK (P : Program) (orc : Orc) : Prop := ∀ f args outs (h : AH), orc f args (fun i => h[i]?) = some outs → ∀ (K : Value → AH → Prop), (∀ v ∈ outs, K v h) → callW P f args h K
def callB (P : Program) (orc : Orc) (fuel : Nat) : Nat → CallB
  | 0, _, _, _, _ => false
  | d + 1, f, args, s, k => match orc f args s.lookF with
    | some outs => outs.all fun v => k v s
    | none => match P.funcs[f]? with
      | some fn => match fn.body, fnOK fn && decide (args.length ≤ fn.ntmps) && Nat.blt fn.ntmps 1000000 with
        | some c, true => codeB P (callB P orc fuel d) fuel c (endB P fn k) (teOf args 0 .leaf) s
        | _, _ => false
      | none => false
theorem callB_ok {orc : Orc} (ho : OrcOK P orc) {fuel : Nat} : ∀ (d : Nat), XOK (callB P orc fuel d) (callW P)
  | 0 => fun f args s k h K R hk hb => by cases hb
  | d + 1 => fun f args s k h K R hk hb => by
    simp only [callB] at hb
    split at hb
    · rename_i outs hout
      rw [R.lf] at hout
      exact ho _ _ _ h hout K fun v hv => hk _ _ _ R (List.all_eq_true.1 hb v hv)
    · split at hb
      · rename_i fn hfn
        split at hb
        · rename_i c hc hok
          simp only [Bool.and_eq_true] at hok
          have hnt := blt_lt hok.2
          have hlen : args.length ≤ fn.ntmps := of_decide_eq_true hok.1.2
          refine callW_step (.inr ?_)
          unfold stepF
          simp only [hfn, hc, hok.1.1, hok.1.2, Bool.and_self]
          have hco : codeOK fn.ntmps c = true := by
            have := hok.1.1
            unfold fnOK at this
            rw [hc, Bool.and_eq_true] at this
            exact this.2
          refine codeB_ok (callB_ok ho d) hnt c hco ?_ (teOf_rep (by omega)) R hb
          intro x te e s h E R hh
          cases x with
          | normal =>
            simp only [endB, resListB_eq E R] at hh
            exact optB_ok hh fun v hv => hk _ _ _ R hv
          | ret =>
            simp only [endB, resListB_eq E R] at hh
            exact optB_ok hh fun v hv => hk _ _ _ R hv
          | _ => cases hh
        · cases hb
      · cases hb
def orcJoin (g : Nat) : Orc := fun f args look => cond (Nat.beq f g) (match args with
  | [v, .string sep] => match strsL v look with
    | some xs => cond (Nat.ble xs.length 1000000 && Nat.ble (Lib.join (xs.map (·.data.toList)) sep.data.toList).length 1000000) (some [.string (joinS xs sep)]) none
    | none => none
  | _ => none) none
theorem orcJoin_ok {g : Nat} (hj : isJoin P g) : OrcOK P (orcJoin g) := fun f args outs h ho K hK => by
  unfold orcJoin at ho
  rw [Tr.cond_beq] at ho
  split at ho
  · rename_i hf
    subst hf
    split at ho
    · rename_i v sep
      split at ho
      · rename_i xs hx
        cases hb : (Nat.ble xs.length 1000000 && Nat.ble (Lib.join (xs.map (·.data.toList)) sep.data.toList).length 1000000) with
        | false => rw [hb] at ho; cases ho
        | true =>
          rw [hb] at ho
          cases ho
          rw [Bool.and_eq_true] at hb
          exact callW_step (.inl (.inl ⟨hj, v, sep, xs, rfl, hx, Nat.le_of_ble_eq_true hb.1, Nat.le_of_ble_eq_true hb.2, hK _ (by simp)⟩))
      · cases ho
    · cases ho
  · cases ho
def hs0 : HS := ⟨.leaf, 0⟩
theorem hs0_rep : RepH hs0 [] where
  look i := by show Tr.get .leaf i = _; rw [Tr.get_leaf]; simp
  n := rfl
  le := by decide
def isTrueV (v : Value) : Bool :=
  match v with
  | .bool true => true
  | _ => false
theorem isTrueV_eq {v : Value} (h : isTrueV v = true) : v = .bool true := by
  unfold isTrueV at h
  split at h
  · rfl
  · cases h
end Go.AM
end

section
/- A known function 'within': what a run may take of it. Conditions: none. -/
namespace Go.AM
open Go
set_option linter.unusedVariables false
theorem tmod_emod (a n : Int) (h : 0 < n) : (if a.tmod n < 0 then a.tmod n + n else a.tmod n) = a % n ∧ (a.tmod n < 0 → a.tmod n + n = a % n) ∧ (¬ a.tmod n < 0 → a.tmod n = a % n) ∧ - n < a.tmod n ∧ a.tmod n < n := by
  have h2 := Int.emod_nonneg a (by omega : n ≠ 0)
  have h3 := Int.emod_lt_of_pos a h
  have h4 := Int.tmod_eq_emod (a := a) (b := n)
  split at h4
  · generalize a % n = r at *
    generalize a.tmod n = m at *
    refine ⟨?_, ?_, ?_, ?_, ?_⟩
    · rw [if_neg (by omega)]; omega
    all_goals omega
  · rename_i hx
    have h5 : a % n ≠ 0 := fun e => hx (.inr (Int.dvd_of_emod_eq_zero e))
    have h6 : (n.natAbs : Int) = n := by omega
    generalize a % n = r at *
    generalize a.tmod n = m at *
    refine ⟨?_, ?_, ?_, ?_, ?_⟩
    · rw [if_pos (by omega)]; omega
    all_goals omega
end Go.AM
end

section
/- A run ahead of kept places, whatever they hold: what was there stays. Conditions: none. -/
namespace Go.AM
open Go
variable {P : Program}
def hsD : Nat → HS
  | 0 => hs0
  | n + 1 => ⟨Tr.set .dead 40 (hsD n).t (hsD n).n, Nat.succ (hsD n).n⟩
theorem hsD_rep : ∀ n, n < 1000 → RepH (hsD n) (List.replicate n .dead)
  | 0, _ => hs0_rep
  | n + 1, h => by
    have ih := hsD_rep n (by omega)
    have := ih.push .dead (by rw [ih.n, List.length_replicate]; omega)
    rw [List.replicate_succ']
    exact this
theorem run_any {orc : Orc} (ho : OrcOK P orc) {fuel d : Nat} {f : FuncId} {args : List Value} (m : Nat) (hm : m < 1000) (hb : callB P orc fuel d f args (hsD m) (fun v _ => isTrueV v) = true) :
    ∀ h : AH, h.length = m → callW P f args h fun v h' => v = .bool true ∧ Ex h h' := by
  intro h hl
  have base : callW P f args (List.replicate m .dead) fun v _ => v = .bool true := callB_ok ho d f args _ _ _ _ (hsD_rep m hm) (fun _ _ _ _ hh => isTrueV_eq hh) hb
  have key : ∀ j, j ≤ m → callW P f args (h.take j ++ List.replicate (m - j) .dead) fun v h' => v = .bool true ∧ ∀ i, i < j → h'[i]? = h[i]? := by
    intro j
    induction j with
    | zero => intro _; exact callW_mono _ _ _ _ _ (fun v h' hv => ⟨hv, fun i hi => by omega⟩) (by simpa using base)
    | succ j ih =>
      intro hj
      have ih := ih (by omega)
      have hjl : j < h.length := by omega
      have hd : (h.take j ++ List.replicate (m - j) AObj.dead)[j]? = some .dead := by
        rw [List.getElem?_append_right (by simp; omega), List.length_take, Nat.min_eq_left (by omega), Nat.sub_self, List.getElem?_replicate, if_pos (by omega)]
      have fr := callW_frame _ _ _ _ j h[j] hd ih
      have e : (h.take j ++ List.replicate (m - j) AObj.dead).set j h[j] = h.take (j + 1) ++ List.replicate (m - (j + 1)) .dead := by
        have e2 : m - j = (m - (j + 1)) + 1 := by omega
        rw [e2, List.replicate_succ, List.set_append, if_neg (by simp; omega), List.length_take, Nat.min_eq_left (by omega), Nat.sub_self, List.set_cons_zero, List.take_succ_eq_append_getElem hjl, List.append_assoc]
        rfl
      rw [e] at fr
      refine callW_mono _ _ _ _ _ ?_ fr
      rintro v h'' ⟨h', rfl, hd', hv, hh⟩
      refine ⟨hv, fun i hi => ?_⟩
      by_cases hij : i = j
      · subst hij
        rw [get_set _ (lt_of_get hd'), List.getElem?_eq_getElem hjl]
      · rw [get_ne (Ne.symm hij)]
        exact hh i (by omega)
  have := key m (Nat.le_refl m)
  rw [Nat.sub_self, List.replicate_zero, List.append_nil, ← hl, List.take_length] at this
  refine callW_mono _ _ _ _ _ ?_ this
  rintro v h' ⟨hv, hh⟩
  refine ⟨hv, ?_, hh⟩
  rcases Nat.eq_zero_or_pos h.length with h0 | h0
  · omega
  · have h1 : h[h.length - 1]? = some (h[h.length - 1]'(by omega)) := List.getElem?_eq_getElem (by omega)
    have := lt_of_get ((hh (h.length - 1) (by omega)).trans h1)
    omega
end Go.AM
end

section
/- Plain: words that are made of a schema, and how many numbers that takes. Conditions: none. -/
namespace SchM
mutual
def cst (C : Nat) : Mdl → Nat
  | .mk k _ l => if k = 2 then 2 else if k = 3 then 1 else if k = 4 then C else if k = 5 then cstL C l else if k = 6 then 1 + cstL C l else 1 + 3 * cstL C l
def cstL (C : Nat) : List Mdl → Nat
  | [] => 0
  | m :: l => cst C m + cstL C l
end
theorem leaf_cost (C : Nat) (nm : List W) (ns : List Int) (k : Int) (a : Nat) : cst C (leaf nm ns k a).1 ≤ C + 4 := by
  unfold leaf
  split
  · simp [cst, cstL]
  · split
    · simp [cst]
    · split
      · simp [cst]
      · simp [cst]
theorem gen_cost (C : Nat) (nm : List W) (ns : List Int) : ∀ (d a : Nat), cst C (gen nm ns d a).1 ≤ (C + 4) * 4 ^ d
  | 0, a => by
    have := leaf_cost C nm ns (nx ns a 14 % 6) (nxA ns a)
    rw [gen]
    omega
  | d + 1, a => by
    have ih := gen_cost C nm ns d
    have p := pow_pos4 d
    have e : (C + 4) * 4 ^ (d + 1) = 4 * ((C + 4) * 4 ^ d) := by rw [Nat.pow_succ, ← Nat.mul_assoc, Nat.mul_comm]
    have g : 1 ≤ (C + 4) * 4 ^ d := Nat.mul_pos (by omega) p
    have g2 : C + 4 ≤ (C + 4) * 4 ^ d := Nat.le_mul_of_pos_right _ p
    have n2 : ∀ x : Int, 5 + x % 2 = 5 ∨ 5 + x % 2 = 6 := fun x => by omega
    have row : ∀ (k : Int) (l : List Mdl), (k = 5 ∨ k = 6) → cst C (.mk k [] l) ≤ 1 + cstL C l := by
      intro k l hk
      rcases hk with rfl | rfl <;> simp [cst]
    rw [gen, e]
    split
    · split
      · refine Nat.le_trans (row _ _ (n2 _)) ?_
        have h1 := ih (nxA ns a)
        have h2 := ih (gen nm ns d (nxA ns a)).2
        have h3 := ih (nxA ns (gen nm ns d (gen nm ns d (nxA ns a)).2).2)
        simp only [cstL]
        omega
      · refine Nat.le_trans (row _ _ (n2 _)) ?_
        have h1 := ih (nxA ns a)
        have h2 := ih (gen nm ns d (nxA ns a)).2
        simp only [cstL]
        omega
    · split
      · have n3 := nx_in ns (nxA ns a) (show (0 : Int) < 3 by decide)
        have h1 := ih (nxA ns (nxA ns a))
        obtain ⟨k, hk0⟩ : ∃ k, k = 7 + nx ns (nxA ns a) 3 := ⟨_, rfl⟩
        rw [← hk0]
        have hk : k = 7 ∨ k = 8 ∨ k = 9 := by omega
        have : ∀ l, cst C (.mk k [] l) = 1 + 3 * cstL C l := by
          intro l
          rcases hk with rfl | rfl | rfl <;> simp [cst]
        show cst C (.mk k [] [(gen nm ns d (nxA ns (nxA ns a))).1]) ≤ _
        rw [this]
        simp only [cstL]
        omega
      · exact Nat.le_trans (leaf_cost C nm ns _ _) (by omega)
theorem genS_cost (C : Nat) (nm : List W) (ns : List Int) (d a0 : Nat) : ∀ i, ∀ e ∈ (genS nm ns d a0 i).1, cst C e.2 ≤ (C + 4) * 4 ^ d
  | 0, e, h => by simp [genS] at h
  | i + 1, e, h => by
    rw [genS] at h
    rcases List.mem_append.1 h with h | h
    · exact genS_cost C nm ns d a0 i e h
    · rw [List.mem_singleton] at h
      subst h
      exact gen_cost C nm ns d _
theorem make_cost (C : Nat) (size : Int) (ns : List Int) (d : Nat) : ∀ e ∈ (make size ns d).2, cst C e.2 ≤ (C + 4) * 4 ^ d := by
  unfold make
  exact genS_cost C _ ns d _ _
def WR (R : List Int → Nat → Nat → Prop) (v : List Int) : Prop := ∀ p q : List Int, R (p ++ (v ++ q)) p.length (p.length + v.length)
def WM (s : Sc) (m : Mdl) : List Int → Prop := WR fun w => MR s.fd s.T (Stw s w) m
theorem WR.app {A B C : List Int → Nat → Nat → Prop} {v u : List Int} (h : ∀ w i k j, A w i k → B w k j → C w i j) (ha : WR A v) (hb : WR B u) : WR C (v ++ u) := by
  intro p q
  have h1 := ha p (u ++ q)
  have h2 := hb (p ++ v) q
  rw [List.append_assoc, List.length_append] at h2
  rw [List.length_append, List.append_assoc, ← Nat.add_assoc]
  exact h _ _ _ _ h1 h2
theorem WR.imp {A C : List Int → Nat → Nat → Prop} {v : List Int} (h : ∀ w i j, A w i j → C w i j) (ha : WR A v) : WR C v := fun p q => h _ _ _ (ha p q)
theorem WR.nil {A : List Int → Nat → Nat → Prop} (h : ∀ w i, A w i i) : WR A [] := fun p q => h _ _
end SchM
end
