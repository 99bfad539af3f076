/- Parts of a proof, joined by a program. Conditions: none. -/
import Derived.Test.YtlenlhlipmkeeaaRA2
import Derived.Test.YtlenlhlipmkeeaaRB0
import Derived.Test.YtlenlhlipmkeeaaRS0
import Derived.Test.YtlenlhlipmkeeaaRA0
import Derived.Test.YtlenlhlipmkeeaaChecked
import Derived.Shelf.Strings.OnBuilder

section
/- Schema's laws: the document's Parse: names. Conditions: none. -/
namespace Go.Proofs.Ytlenlhlipmkeeaa.W
open Go Go.AM SchM
set_option linter.unusedVariables false
set_option maxRecDepth 100000
theorem ML.get {h : AH} {G : Nat → Prop} : ∀ (l : List Mdl) (cs : List Value), ML h G l cs → ∀ i m, l[i]? = some m → ∃ x y z, (cs.drop (i * 3)).take 3 = [x, y, z] ∧ MH h G m (.agg #[x, y, z])
  | [], cs, _ => fun i m hi => by simp at hi
  | f :: l, cs, hx => fun i m hi => by
    unfold ML at hx
    obtain ⟨x, y, z, rest, e1, mm, r⟩ := hx
    subst e1
    cases i with
    | zero => cases hi; exact ⟨x, y, z, rfl, mm⟩
    | succ i =>
      obtain ⟨x', y', z', h1, h2⟩ := ML.get l rest r i m hi
      refine ⟨x', y', z', ?_, h2⟩
      have e2 : (i + 1) * 3 = i * 3 + 3 := by omega
      rw [e2]
      exact h1
end Go.Proofs.Ytlenlhlipmkeeaa.W
end

section
/- Schema's laws: which words a schema has: models' parts, their ways. Conditions: none. -/
namespace SchM
variable {fd : W → Int} {T : Nat} {S : Stp}
theorem MSeq_snoc : ∀ (l : List Mdl) (m : Mdl) (i j : Nat), MSeq fd T S (l ++ [m]) i j ↔ ∃ k, MSeq fd T S l i k ∧ MR fd T S m k j
  | [], m, i, j => by
    show MSeq fd T S [m] i j ↔ _
    unfold MSeq MSeq
    constructor
    · rintro ⟨k, h, rfl⟩
      exact ⟨i, rfl, h⟩
    · rintro ⟨k, rfl, h⟩
      exact ⟨j, h, rfl⟩
  | a :: l, m, i, j => by
    show MSeq fd T S (a :: (l ++ [m])) i j ↔ _
    unfold MSeq
    constructor
    · rintro ⟨k, h1, h2⟩
      obtain ⟨k', h3, h4⟩ := (MSeq_snoc l m k j).1 h2
      exact ⟨k', ⟨k, h1, h3⟩, h4⟩
    · rintro ⟨k', ⟨k, h1, h3⟩, h4⟩
      exact ⟨k, h1, (MSeq_snoc l m k j).2 ⟨k', h3, h4⟩⟩
theorem MOr_snoc : ∀ (l : List Mdl) (m : Mdl) (i j : Nat), MOr fd T S (l ++ [m]) i j ↔ MOr fd T S l i j ∨ MR fd T S m i j
  | [], m, i, j => by
    show MOr fd T S [m] i j ↔ _
    unfold MOr MOr
    constructor
    · rintro (h | h)
      · exact .inr h
      · exact h.elim
    · rintro (h | h)
      · exact h.elim
      · exact .inl h
  | a :: l, m, i, j => by
    show MOr fd T S (a :: (l ++ [m])) i j ↔ _
    unfold MOr
    rw [MOr_snoc l m i j, or_assoc]
theorem Any_le {s : Sc} {w : List Int} : ∀ a b, Any (Stw s w) a b → a ≤ b := fun a b ⟨c, hc⟩ => Nat.le_of_lt (Stw_lt hc).1
theorem MR_le {s : Sc} {w : List Int} {m : Mdl} {a b : Nat} (h : MR s.fd s.T (Stw s w) m a b) : a ≤ b := (MR_any m h).le Any_le
theorem MSeq_le {s : Sc} {w : List Int} {l : List Mdl} {a b : Nat} (h : MSeq s.fd s.T (Stw s w) l a b) : a ≤ b := (MSeq_any l h).le Any_le
end SchM
namespace Go.Proofs.Ytlenlhlipmkeeaa.W
open Go Go.AM SchM
set_option linter.unusedVariables false
set_option maxRecDepth 100000
theorem fd_iff {x : W × List (W × Mdl)} (nd : (x.2.map (·.1)).Nodup) (n : W) (c : Nat) : (scOf x).fd n = (c : Int) ↔ ∃ e, x.2[c]? = some e ∧ e.1 = n := by
  show (x.2.findIdx? (fun e => decide (e.1 = n))).elim (-1) (fun i => (i : Int)) = (c : Int) ↔ _
  cases hf : x.2.findIdx? (fun e => decide (e.1 = n)) with
  | none =>
    rw [List.findIdx?_eq_none_iff] at hf
    constructor
    · intro h
      have h : (-1 : Int) = (c : Int) := h
      omega
    · rintro ⟨e, h1, h2⟩
      have := hf e (List.mem_of_getElem? h1)
      simp [h2] at this
  | some i =>
    rw [List.findIdx?_eq_some_iff_getElem] at hf
    obtain ⟨hi, h1, h2⟩ := hf
    have h1 : (x.2[i]).1 = n := of_decide_eq_true h1
    constructor
    · intro h
      have h : (i : Int) = (c : Int) := h
      have : i = c := by omega
      subst this
      exact ⟨_, List.getElem?_eq_getElem hi, h1⟩
    · rintro ⟨e, h3, h4⟩
      show (i : Int) = (c : Int)
      have hc := get_lt h3
      have e1 : (x.2.map (·.1))[i]? = (x.2.map (·.1))[c]? := by
        rw [List.getElem?_map, List.getElem?_map, List.getElem?_eq_getElem hi, h3]
        simp [h1, h4]
      have := (List.getElem?_inj (by simpa using hi) nd).1 e1
      omega
section
variable {c : Hc}
theorem PM.sub {p o : Nat} {k : Int} {n : W} {l : List Mdl} (pm : PM c p o (.mk k n l)) : ∃ cc a cp, c.h0[p]? = some (.row cc true) ∧ p ≠ c.M ∧ o + 3 ≤ cc.length ∧ cc[o]? = some (.int .i64 k) ∧ cc[o + 1]? = some (.string (bs n)) ∧ cc[o + 2]? = some (.slice a l.length cp) ∧
    ∀ i m, l[i]? = some m → ∃ id off cap, Value.slice a l.length cp = .slice (some ⟨id, off, none⟩) l.length cap ∧ PM c id (off + i * 3) m := by
  obtain ⟨cc, g, hp, hle, mh⟩ := pm
  unfold MH at mh
  obtain ⟨a, cp, cs, e, sl, hG, ml⟩ := mh
  simp only [Value.agg.injEq, Array.mk.injEq] at e
  have at_ : ∀ j, j < 3 → cc[o + j]? = ([Value.int .i64 k, .string (bs n), .slice a l.length cp])[j]? := by
    intro j hj
    rw [← e, List.getElem?_take_of_lt hj, List.getElem?_drop]
  refine ⟨cc, a, cp, g, hp, hle, at_ 0 (by decide), at_ 1 (by decide), at_ 2 (by decide), fun i m hi => ?_⟩
  have hlt := get_lt hi
  obtain ⟨h1, ⟨_, h2⟩ | ⟨id, off, cap, h2, h3, h4⟩⟩ := sl
  · omega
  · rcases h4 with h4 | ⟨c2, w, g2, hle2, ht⟩
    · omega
    · have Gi := hG id (by rw [h2]; rfl)
      obtain ⟨c3, g3⟩ := Gi.2.2
      rw [g2] at g3
      cases g3
      obtain ⟨x, y, z, e1, mh⟩ := ML.get _ _ ml i m hi
      have e2 : (c2.drop (off + i * 3)).take 3 = [x, y, z] := by
        rw [← e1, ← ht, List.drop_take, List.drop_drop, List.take_take]
        congr 1
        omega
      exact ⟨id, off, cap, h2, c2, g2, Gi.1, by omega, by rw [e2]; exact mh⟩
theorem way80 (ok : HcOK c) {hb : AH} {lo : Nat} (he : ∀ k, lo ≤ k → k ≤ c.w.length → ∀ i, i < c.x.2.length → EC c i k) : WayOK c hb (.func (.func 80) #[.pointer (some ⟨c.r, 0, none⟩)] #[]) lo (Any (St c)) := by
  intro u h k K m x h1 h2 hk
  show callW Try.prog 80 [.pointer (some ⟨c.r, 0, none⟩), .int .i64 (k : Nat)] h K
  exact any80 ok h2 (he k h1 h2) m fun u' h' v j m' x' s' hj nu b => hk u' h' v j m' x' s' (.inr hj) b
theorem way78 {hb : AH} {lo b3 b2 p o : Nat} {md : Mdl} (g3 : hb[b3]? = some (.row [.pointer (some ⟨c.r, 0, none⟩)] true)) (g2 : hb[b2]? = some (.row [.pointer (some ⟨p, o, none⟩)] true)) (n3 : b3 ≠ c.M) (n2 : b2 ≠ c.M) (pm : PM c p o md)
    (hm : ∀ k, lo ≤ k → k ≤ c.w.length → MC c md k) : WayOK c hb (.func (.func 78) #[] #[.pointer (some ⟨b3, 0, none⟩), .pointer (some ⟨b2, 0, none⟩)]) lo (Rw c md) := by
  intro u h k K m x h1 h2 hk
  show callW Try.prog 78 [.int .i64 (k : Nat), .pointer (some ⟨b3, 0, none⟩), .pointer (some ⟨b2, 0, none⟩)] h K
  refine c78 ?_
  unfold s78
  refine w_rdP (x.some g3 n3) (v := .pointer (some ⟨c.r, 0, none⟩)) rfl ?_
  refine w_rdP (x.some g2 n2) (v := .pointer (some ⟨p, o, none⟩)) rfl ?_
  exact hm k h1 h2 u h p o _ m pm fun u' h' v i m' x' s' hu b => hk u' h' v i m' x' s' (.inl hu) b
theorem call77 {h : AH} {b3 p o : Nat} {K : Value → AH → Prop} (k : ∀ h', Ex h h' → h'.length = h.length + 1 → h'[h.length]? = some (.row [.pointer (some ⟨p, o, none⟩)] true) → K (.func (.func 78) #[] #[.pointer (some ⟨b3, 0, none⟩), .pointer (some ⟨h.length, 0, none⟩)]) h') :
    callV (callW Try.prog) (.func (.func 77) #[] #[.pointer (some ⟨b3, 0, none⟩)]) [.pointer (some ⟨p, o, none⟩)] h K := by
  show callW Try.prog 77 [.pointer (some ⟨p, o, none⟩), .pointer (some ⟨b3, 0, none⟩)] h K
  refine c77 ?_
  unfold s77
  exact n_boxv rfl fun h1 x1 l1 g1 => k h1 x1 l1 g1
end
end Go.Proofs.Ytlenlhlipmkeeaa.W
end

section
/- Schema's laws: the document's texts of models. Conditions: none. -/
namespace Go.Proofs.Ytlenlhlipmkeeaa.W
open Go Go.AM SchM
set_option linter.unusedVariables false
set_option maxRecDepth 100000
end Go.Proofs.Ytlenlhlipmkeeaa.W
end

section
/- Schema's laws: the document's text of a schema; schemas that are the same. Conditions: none. -/
namespace Go.Proofs.Ytlenlhlipmkeeaa.W
open Go Go.AM SchM
set_option linter.unusedVariables false
set_option maxRecDepth 100000
theorem nn {p : Prop} (h : p) : ¬ ¬ p := fun n => n h
end Go.Proofs.Ytlenlhlipmkeeaa.W
end

section
/- Schema's laws: schemas that are the same. Conditions: none. -/
namespace Go.Proofs.Ytlenlhlipmkeeaa.W
open Go Go.AM SchM
set_option linter.unusedVariables false
set_option maxRecDepth 100000
def SM (h : AH) (x : W × List (W × Mdl)) (v : Value) : Prop :=
  ∃ a c cs, v = .agg #[.string (bs x.1), .slice a x.2.length c] ∧ Sl 4 h (.slice a x.2.length c) x.2.length cs ∧ EL h (fun j => j < h.length) x.2 cs
theorem SM.ex {h h' : AH} {x : W × List (W × Mdl)} {v : Value} (s : SM h x v) (e : Ex h h') : SM h' x v := by
  obtain ⟨a, c, cs, ev, sl, el⟩ := s
  exact ⟨a, c, cs, ev, sl.ex e, EL.mono (fun j hj => ⟨e.get j hj, e.lt hj⟩) _ _ el⟩
theorem SH.sm {h : AH} {b : Nat} {x : W × List (W × Mdl)} {v : Value} (s : SH h b x v) : SM h x v := by
  obtain ⟨a, c, cs, ev, sl, on, el⟩ := s
  exact ⟨a, c, cs, ev, sl, EL.mono (fun j hj => ⟨rfl, hj.1.2⟩) _ _ el⟩
theorem SM.nil (h : AH) : SM h ([], []) (.agg #[.string (bs []), .slice none 0 0]) := ⟨none, 0, [], rfl, ⟨rfl, .inl ⟨rfl, rfl⟩⟩, rfl⟩
end Go.Proofs.Ytlenlhlipmkeeaa.W
end

section
/- Schema's laws: words for the document's fits. Conditions: none. -/
namespace Go.Proofs.Ytlenlhlipmkeeaa.W
open Go Go.AM SchM
set_option linter.unusedVariables false
set_option maxRecDepth 100000
theorem SM.nm {h : AH} {x : W × List (W × Mdl)} {root : W} {a : Option Addr} {n c : Nat} (s : SM h x (.agg #[.string (bs root), .slice a n c])) : root = x.1 ∧ n = x.2.length ∧ Nm h (.slice a n c) (x.2.map (·.1)) := by
  obtain ⟨a', c', cs, e, sl, el⟩ := s
  simp only [Value.agg.injEq, Array.mk.injEq, List.cons.injEq, Value.string.injEq, Value.slice.injEq, bs_inj, and_true] at e
  obtain ⟨rfl, rfl, rfl, rfl⟩ := e
  refine ⟨rfl, rfl, ⟨cs, by rw [List.length_map]; exact sl, fun i w hw => ?_⟩⟩
  rw [List.getElem?_map] at hw
  cases hl : x.2[i]? with
  | none => rw [hl] at hw; cases hw
  | some e =>
    rw [hl] at hw
    cases hw
    obtain ⟨k, n, a, ll, c, h1, _⟩ := EL.get x.2 cs el i e hl
    exact ⟨k, n, a, ll, c, h1⟩
theorem find44x {h : AH} {x : W × List (W × Mdl)} {v : Value} {nm : W} {K : Value → AH → Prop} (s : SM h x v) (hn : x.2.length ≤ 100000000000) (k : ∀ h', Ex h h' → K (.int .i64 ((scOf x).fd nm)) h') : callW Try.prog 44 [v, .string (bs nm)] h K := by
  obtain ⟨a, c, cs, rfl, _, _⟩ := id s
  obtain ⟨_, _, nmx⟩ := s.nm
  obtain ⟨cs, sl, hc⟩ := nmx.ex
  rw [List.length_map] at sl
  refine c44 ?_
  unfold s44
  refine n_boxv rfl fun h1 x1 l1 g1 => ?_
  have g1' : h1[h.length]? = some (.row [.string (bs x.1), .slice a x.2.length c] true) := g1
  refine loopE_intro (fun m e h' => ∃ j : Nat, j ≤ x.2.length ∧ m = x.2.length - j ∧ e 1 = .string (bs nm) ∧ e 2 = .pointer (some ⟨h.length, 0, none⟩) ∧ e 5 = .int .i64 (j : Nat) ∧ h' = h1 ∧ ∀ i e', i < j → x.2[i]? = some e' → e'.1 ≠ nm) x.2.length
    ⟨0, Nat.zero_le _, rfl, rfl, rfl, rfl, rfl, fun i e' h => by omega⟩ ?_
  rintro I m e h2 ⟨j, hj, hm, e1, e2, e5, rfl, hni⟩ ih
  rw [e1, e2, e5]
  refine w_offP (w_rdP g1' (v := .slice a x.2.length c) rfl (w_lenSl (w_lss (c_dec (fun q => ?_) (fun q => ?_)))))
  · obtain ⟨w, hw⟩ := getElem?_of_lt (l := x.2) (i := j) (by omega)
    obtain ⟨k', nn, a', ll, c, ec⟩ := hc j w.1 (by rw [List.getElem?_map, hw]; rfl)
    refine w_offP (w_rdP g1' (v := .slice a x.2.length _) rfl (w_idx (sl.ex x1) (by omega) (by omega) fun p hp => ?_))
    rw [Int.toNat_natCast, ec] at hp
    refine w_off hp (Nat.zero_le _) fun p' hp' => w_rd1 hp' rfl (w_seql (c_dec (fun q2 => ?_) (fun q2 => ?_)))
    · have hf : x.2.findIdx? (fun e => decide (e.1 = nm)) = some j := by
        rw [List.findIdx?_eq_some_iff_getElem]
        have hjl := get_lt hw
        refine ⟨hjl, ?_, fun i hi => ?_⟩
        · rw [List.getElem?_eq_getElem hjl] at hw
          rw [Option.some.inj hw]
          exact decide_eq_true q2
        · have := hni i _ hi (List.getElem?_eq_getElem (by omega))
          simpa using this
      have e3 : (scOf x).fd nm = ((j : Nat) : Int) := by
        show (x.2.findIdx? (fun e => decide (e.1 = nm))).elim (-1) (fun i => (i : Int)) = _
        rw [hf]
        rfl
      rw [← e3]
      exact k h2 x1
    · refine w_add (by omega) (by omega) ?_
      refine ih (x.2.length - (j + 1)) _ _ (by omega) ⟨j + 1, by omega, rfl, e1, e2, rfl, rfl, fun i e' h1 h2 => ?_⟩
      by_cases ei : i = j
      · subst ei
        rw [hw] at h2
        cases h2
        exact q2
      · exact hni i e' (by omega) h2
  · have hf : x.2.findIdx? (fun e => decide (e.1 = nm)) = none := by
      rw [List.findIdx?_eq_none_iff]
      intro e' he'
      obtain ⟨i, hi⟩ := List.mem_iff_getElem?.1 he'
      have := hni i e' (by have := get_lt hi; omega) hi
      simpa using this
    have e3 : (scOf x).fd nm = -1 := by
      show (x.2.findIdx? (fun e => decide (e.1 = nm))).elim (-1) (fun i => (i : Int)) = _
      rw [hf]
      rfl
    rw [← e3]
    exact k h2 x1
end Go.Proofs.Ytlenlhlipmkeeaa.W
end

section
/- Schema's laws: the document's fits: from which place to which a row of children is a model's. Conditions: none. -/
namespace Go.Proofs.Ytlenlhlipmkeeaa.W
open Go Go.AM SchM
set_option linter.unusedVariables false
set_option maxRecDepth 100000
end Go.Proofs.Ytlenlhlipmkeeaa.W
end

section
/- Schema's laws: the document's symbols, and a word's partners. Conditions: none. -/
namespace Go.Proofs.Ytlenlhlipmkeeaa.W
open Go Go.AM SchM
set_option linter.unusedVariables false
set_option maxRecDepth 100000
def eSy (s : W × Int) : List Value := [.string (bs s.1), .int .i64 s.2]
theorem eSy_len (s : W × Int) : (eSy s).length = 2 := rfl
def symsL (l : List (W × Mdl)) : List (W × Int) := l.flatMap fun e => [(e.1, 1), (e.1, 2)]
def symsOf (x : W × List (W × Mdl)) : List (W × Int) := symsL x.2 ++ [(wText, 3)]
theorem symsL_len (l : List (W × Mdl)) : (symsL l).length = 2 * l.length := by
  induction l with
  | nil => rfl
  | cons a l ih =>
    show ([(a.1, (1 : Int)), (a.1, 2)] ++ symsL l).length = _
    rw [List.length_append, ih]
    simp
    omega
theorem symsOf_len (x : W × List (W × Mdl)) : (symsOf x).length = 2 * x.2.length + 1 := by
  unfold symsOf
  rw [List.length_append, symsL_len]
  rfl
theorem symsL_get : ∀ (l : List (W × Mdl)) (i : Nat) (e : W × Mdl), l[i]? = some e → (symsL l)[2 * i]? = some (e.1, 1) ∧ (symsL l)[2 * i + 1]? = some (e.1, 2)
  | [], i, e, h => by simp at h
  | a :: l, 0, e, h => by cases h; exact ⟨rfl, rfl⟩
  | a :: l, i + 1, e, h => by
    obtain ⟨h1, h2⟩ := symsL_get l i e h
    exact ⟨h1, h2⟩
theorem symsOf_get {x : W × List (W × Mdl)} {i : Nat} {e : W × Mdl} (h : x.2[i]? = some e) : (symsOf x)[2 * i]? = some (e.1, 1) ∧ (symsOf x)[2 * i + 1]? = some (e.1, 2) := by
  obtain ⟨h1, h2⟩ := symsL_get x.2 i e h
  have hl := symsL_len x.2
  have hi := get_lt h
  unfold symsOf
  rw [List.getElem?_append_left (by omega), List.getElem?_append_left (by omega)]
  exact ⟨h1, h2⟩
theorem symsOf_text (x : W × List (W × Mdl)) : (symsOf x)[2 * x.2.length]? = some (wText, 3) := by
  unfold symsOf
  rw [← symsL_len, List.getElem?_append_right (Nat.le_refl _), Nat.sub_self]
  rfl
theorem bld22 (a : ByteArray) : bldSl 2 [(.string (bs [])), (.int .i64 0)] 2 [(0, .agg #[.string a, .int .i64 1]), (1, .agg #[.string a, .int .i64 2])] = some [.string a, .int .i64 1, .string a, .int .i64 2] := by kernel_rfl
theorem bld21 : bldSl 2 [(.string (bs [])), (.int .i64 0)] 1 [(0, .agg #[.string (bs [116, 101, 120, 116]), .int .i64 3])] = some [.string (bs wText), .int .i64 3] := by kernel_rfl
set_option maxHeartbeats 1000000 in
theorem syms20 {h : AH} {x : W × List (W × Mdl)} {v : Value} {K : Value → AH → Prop} (s : SM h x v) (hT : x.2.length ≤ 100000000000) (k : ∀ v h', Ex h h' → OwnG 2 (fun j => h.length ≤ j) h' v (symsOf x).length (flat eSy (symsOf x)) → K v h') : callW Try.prog 20 [v] h K := by
  obtain ⟨a, c, cs0, rfl, _, _⟩ := id s
  obtain ⟨_, _, nmx⟩ := s.nm
  obtain ⟨cs, sl, hc⟩ := nmx.ex
  rw [List.length_map] at sl
  have hr40 : (1000000000000 : Nat) < room40 := by decide
  refine c20 ?_
  unfold s20
  refine n_boxv rfl fun h1 x1 l1 g1 => ?_
  have g1' : h1[h.length]? = some (.row [.string (bs x.1), .slice a x.2.length c] true) := g1
  refine loopE_intro (fun m e h2 => ∃ (j : Nat) (v3 : Value), j ≤ x.2.length ∧ m = x.2.length - j ∧ e 1 = .pointer (some ⟨h.length, 0, none⟩) ∧ e 3 = v3 ∧ e 4 = .int .i64 (j : Nat) ∧ Ex h1 h2 ∧ OwnG 2 (fun j => h1.length ≤ j) h2 v3 (symsL (x.2.take j)).length (flat eSy (symsL (x.2.take j)))) x.2.length
    ⟨0, _, Nat.zero_le _, rfl, rfl, rfl, rfl, Ex.refl _, OwnG.nil _ _ _⟩ ?_
  rintro I m e h2 ⟨j, v3, hj, hm, e1, e3, e4, x2, o⟩ ih
  rw [e1, e3, e4]
  have g2 := x2.some g1'
  refine w_offP (w_rdP g2 (v := .slice a x.2.length c) rfl (w_lenSl (w_lss (c_dec (fun q => ?_) (fun q => ?_)))))
  · obtain ⟨w, hw⟩ := getElem?_of_lt (l := x.2) (i := j) (by omega)
    obtain ⟨k', nn, a', ll, c', ec⟩ := hc j w.1 (by rw [List.getElem?_map, hw]; rfl)
    have xr := Ex.res h2
    have xx := (x1.trans x2).trans xr
    have rd : ∀ {K2 : Value → Value → Value → Value → Value → Prop}, (∀ v13 v14 p p', K2 v13 v14 p p' (.string (bs w.1))) → optW (pOff 1 (.pointer (some ⟨h.length, 0, none⟩))) fun v13 => optW (rdRow false 1 v13 (reserve 1 h2)) fun v14 => optW (pIdxS 4 v14 (.int .i64 (j : Nat))) fun p => optW (pOff 0 p) fun p' => optW (rdRow false 1 p' (reserve 1 h2)) fun s => K2 v13 v14 p p' s := by
      intro K2 k2
      refine w_offP (w_rdP (xr.some g2) (v := .slice a x.2.length c) rfl (w_idx (sl.ex xx) (by omega) (by omega) fun p hp => ?_))
      rw [Int.toNat_natCast, ec] at hp
      exact w_off hp (Nat.zero_le _) fun p' hp' => w_rd1 hp' rfl (k2 _ _ _ _)
    refine rd fun _ _ _ _ => w_some (v := .agg #[.string (bs w.1), .int .i64 1]) rfl ?_
    refine rd fun _ _ _ _ => w_some (v := .agg #[.string (bs w.1), .int .i64 2]) rfl ?_
    refine w_some (bld22 _) ?_
    refine n_slot ?_
    rw [reserve_set]
    have x3 : Ex h2 (h2 ++ [AObj.row [.string (bs w.1), .int .i64 1, .string (bs w.1), .int .i64 2] true]) := .app _ _
    have g3 : (h2 ++ [AObj.row [.string (bs w.1), .int .i64 1, .string (bs w.1), .int .i64 2] true])[h2.length]? = some (.row [.string (bs w.1), .int .i64 1, .string (bs w.1), .int .i64 2] true) := get_new _ _
    have l3 : (h2 ++ [AObj.row [.string (bs w.1), .int .i64 1, .string (bs w.1), .int .i64 2] true]).length = h2.length + 1 := by simp
    generalize h2 ++ [AObj.row [.string (bs w.1), .int .i64 1, .string (bs w.1), .int .i64 2] true] = h3 at *
    have o3 := o.mono (F' := fun j => h1.length ≤ j) (h' := h3) (fun _ _ h => h) fun j hj _ => x3.get j (o.on hj).2
    have hlen := symsL_len (x.2.take j)
    rw [List.length_take, Nat.min_eq_left hj] at hlen
    refine appSl_of (app_g (by decide) o3 (srcL_new (n := 2) (s := 2) g3 (by decide) rfl) rfl (by omega) fun v' h4 a1 a2 a3 a4 => w_add (by omega) (by omega) ?_)
    refine ih (x.2.length - (j + 1)) _ _ (by omega) ⟨j + 1, v', by omega, rfl, e1, rfl, rfl, ⟨by have := x2.len; omega, fun y hy => ?_⟩, ?_⟩
    · rw [a3 y (by have := x2.len; omega) (fun hon => by have := (o.on hon).1; omega), x3.get y (x2.lt hy)]
      exact x2.get y hy
    · have e5 : symsL (x.2.take (j + 1)) = symsL (x.2.take j) ++ [(w.1, 1), (w.1, 2)] := by
        rw [take_succ_get hw]
        simp [symsL]
      rw [e5, flat_append, List.length_append]
      exact a1.mono (fun y hy hF => hF.elim (fun h => h) fun h => by have := x2.len; omega) fun _ _ _ => rfl
  · have ej : j = x.2.length := by omega
    subst ej
    rw [List.take_length] at o
    refine w_some (v := .agg #[.string (bs [116, 101, 120, 116]), .int .i64 3]) rfl ?_
    refine w_some bld21 ?_
    refine n_newv fun h3 x3 l3 g3 => ?_
    have o3 := o.mono (F' := fun j => h1.length ≤ j) (h' := h3) (fun _ _ h => h) fun j hj _ => x3.get j (o.on hj).2
    have hlen := symsL_len x.2
    refine appSl_of (app_g (by decide) o3 (srcL_new (n := 1) (s := 2) g3 (by decide) rfl) rfl (by omega) fun v' h4 a1 a2 a3 a4 => ?_)
    refine k v' h4 ⟨by have := (x1.trans x2).len; omega, fun y hy => ?_⟩ ?_
    · have h5 := x1.len
      have h6 := x2.len
      rw [a3 y (by omega) (fun hon => by have := (o.on hon).1; omega), x3.get y (by omega)]
      exact (x1.trans x2).get y hy
    · unfold symsOf
      rw [flat_append, List.length_append]
      exact a1.mono (fun y hy hF => by
        have h5 := x1.len
        have h6 := x2.len
        rcases hF with hh | hh
        · show h.length ≤ y
          omega
        · show h.length ≤ y
          omega) fun _ _ _ => rfl
theorem sym_kind {x : W × List (W × Mdl)} {c : Int} (h0 : 0 ≤ c) (h1 : c ≤ 2 * (x.2.length : Int)) : ∃ nm kd, (symsOf x)[c.toNat]? = some (nm, kd) ∧ (kd = if c = 2 * (x.2.length : Int) then 3 else if c % 2 = 0 then 1 else 2) ∧ (c < 2 * (x.2.length : Int) → ∃ e, x.2[(c / 2).toNat]? = some e ∧ e.1 = nm) := by
  by_cases e : c = 2 * (x.2.length : Int)
  · refine ⟨wText, 3, ?_, by rw [if_pos e], fun h => by omega⟩
    rw [show c.toNat = 2 * x.2.length by omega]
    exact symsOf_text x
  · obtain ⟨el, hel⟩ := getElem?_of_lt (l := x.2) (i := (c / 2).toNat) (by omega)
    obtain ⟨h2, h3⟩ := symsOf_get hel
    by_cases e2 : c % 2 = 0
    · refine ⟨el.1, 1, ?_, by rw [if_neg e, if_pos e2], fun _ => ⟨el, hel, rfl⟩⟩
      rw [show c.toNat = 2 * (c / 2).toNat by omega]
      exact h2
    · refine ⟨el.1, 2, ?_, by rw [if_neg e, if_neg e2], fun _ => ⟨el, hel, rfl⟩⟩
      rw [show c.toNat = 2 * (c / 2).toNat + 1 by omega]
      exact h3
theorem flat_eI_set : ∀ (l : List Int) (j : Nat) (c : Int), (flat eI l).set j (.int .i64 c) = flat eI (l.set j c)
  | [], j, c => by simp [flat]
  | b :: l, 0, c => rfl
  | b :: l, j + 1, c => congrArg (Value.int .i64 b :: ·) (flat_eI_set l j c)
theorem repL_zero (k : Nat) : repL [.int .i64 0] k = flat eI (List.replicate k 0) := by
  induction k with
  | zero => rfl
  | succ k ih =>
    show [.int .i64 0] ++ repL [.int .i64 0] k = _
    rw [ih]
    rfl
def partners (T : Nat) (w : List Int) : List Int := (List.range w.length).map (mrun T w w.length).1
set_option maxHeartbeats 2000000 in
theorem match50 {h : AH} {x : W × List (W × Mdl)} {vl vw_ : Value} {w : List Int} {K : Value → AH → Prop} (hl : SlT 2 eSy h vl (symsOf x)) (hw : SlT 1 eI h vw_ w) (hn : w.length ≤ 100000000000) (hT : x.2.length ≤ 100000000000) (hin : ∀ c ∈ w, 0 ≤ c ∧ c ≤ 2 * (x.2.length : Int))
    (k : ∀ v h', Ex h h' → SlT 1 eI h' v (partners x.2.length w) → K v h') : callW Try.prog 50 [vl, vw_] h K := by
  obtain ⟨wa, wc, rfl⟩ := hw.shape
  have hr40 : (1000000000000 : Nat) < room40 := by decide
  have ho40 : (100000000000 : Nat) < openCap := by decide
  refine c50 ?_
  unfold s50
  refine w_lenSl ?_
  refine w_some (v := (w.length, w.length, repL [.int .i64 0] w.length)) ?_ ?_
  · unfold mkSl
    dsimp only
    rw [if_pos ⟨by omega, by omega, by omega, by decide, rfl⟩, Int.toNat_natCast]
  refine n_newv fun h1 x1 l1 g1 => ?_
  rw [repL_zero] at g1
  refine loopE_intro (fun mm e h2 => ∃ (y : Nat) (cl : List Int) (v6 : Value), y ≤ w.length ∧ mm = w.length - y ∧ e 0 = vl ∧ e 1 = .slice wa w.length wc ∧ e 5 = .slice (some ⟨h.length, 0, none⟩) w.length w.length ∧ e 6 = v6 ∧ e 7 = .int .i64 (y : Nat) ∧ Ex h h2 ∧ h1.length ≤ h2.length ∧
      h2[h.length]? = some (.row (flat eI cl) true) ∧ cl.length = w.length ∧ (∀ z, z < y → cl[z]? = some ((mrun x.2.length w y).1 z)) ∧ OwnG 1 (fun j => h1.length ≤ j) h2 v6 (mrun x.2.length w y).2.length (flat eI ((mrun x.2.length w y).2.reverse.map fun c : Nat => (c : Int))) ∧ (mrun x.2.length w y).2.length ≤ y) w.length
    ⟨0, _, _, Nat.zero_le _, rfl, rfl, rfl, rfl, rfl, rfl, x1, Nat.le_refl _, g1, by simp, fun z hz => by omega, OwnG.nil _ _ _, Nat.le_refl _⟩ ?_
  rintro I mm e h2 ⟨y, cl, v6, hy, hmm, e0, e1, e5, e6, e7, x2, l2, g2, hcl, hz, o, hst⟩ ih
  rw [e0, e1, e5, e6, e7]
  refine w_lenSl (w_lss (c_dec (fun q => ?_) (fun q => ?_)))
  · obtain ⟨c, hc⟩ := getElem?_of_lt (l := w) (i := y) (by omega)
    obtain ⟨hc0, hc1⟩ := hin c (List.mem_of_getElem? hc)
    have hmr : mrun x.2.length w (y + 1) = mstep x.2.length c y (mrun x.2.length w y) := by
      show (match w[y]? with | some c => mstep x.2.length c y (mrun x.2.length w y) | none => mrun x.2.length w y) = _
      rw [hc]
    refine ix1 (by omega) (w_stP g2 (by rw [flat_length eI_len]; omega) rfl rfl ?_)
    have g3 : (h2.set h.length (.row ((flat eI cl).set y (.int .i64 (-1))) true))[h.length]? = some (.row (flat eI (cl.set y (-1))) true) := by rw [get_set _ (lt_of_get g2), flat_eI_set]
    have x3 : Exx h.length h2 (h2.set h.length (.row ((flat eI cl).set y (.int .i64 (-1))) true)) := ⟨by simp, fun j hj hji => get_ne (Ne.symm hji) _⟩
    have l3 : (h2.set h.length (.row ((flat eI cl).set y (.int .i64 (-1))) true)).length = h2.length := by simp
    generalize h2.set h.length (.row ((flat eI cl).set y (.int .i64 (-1))) true) = h3 at *
    have X3 : Ex h h3 := Exx.base x2 x3 (Nat.le_refl _)
    have o3 : OwnG 1 (fun j => h1.length ≤ j) h3 v6 (mrun x.2.length w y).2.length (flat eI ((mrun x.2.length w y).2.reverse.map fun c : Nat => (c : Int))) := o.mono (fun _ _ h => h) fun j hj hF => x3.get j (o.on hj).2 (by omega)
    have hz3 : ∀ z, z < y + 1 → (cl.set y (-1))[z]? = some (put (mrun x.2.length w y).1 y (-1) z) := by
      intro z hz'
      by_cases ez : z = y
      · subst ez
        rw [put_same, List.getElem?_set_self (by omega)]
      · rw [put_ne ez, List.getElem?_set_ne (Ne.symm ez)]
        exact hz z (by omega)
    refine w_idxN (enc := eI) eI_len (hw.ex X3) hc fun pp hpp => w_rd1 hpp (x := .int .i64 c) rfl ?_
    obtain ⟨nm, kd, hs1, hs2, _⟩ := sym_kind hc0 hc1
    refine w_idxT (enc := eSy) eSy_len (hl.ex X3) hc0 hs1 fun p hp => ?_
    refine w_off hp (by show 1 ≤ 2; decide) fun p2 hp2 => w_rd1 hp2 (x := .int .i64 kd) rfl ?_
    refine w_eql (c_dec (fun r => ?_) (fun r => ?_))
    · have c1 : ¬ c = 2 * (x.2.length : Int) := fun h => by rw [if_pos h] at hs2; omega
      have c2 : c % 2 = 0 := Classical.byContradiction fun h => by rw [if_neg c1, if_neg h] at hs2; omega
      have hm1 : mrun x.2.length w (y + 1) = (put (mrun x.2.length w y).1 y (-1), y :: (mrun x.2.length w y).2) := by rw [hmr]; unfold mstep; rw [if_neg c1, if_pos c2]
      refine w_some (bldSl_one (v := .int .i64 ((y : Nat) : Int)) rfl (by decide) rfl rfl) ?_
      refine n_newv fun h4 x4 l4 g4 => ?_
      refine appSl_of (app_g (by decide) (o3.mono (F' := fun j => h1.length ≤ j) (h' := h4) (fun _ _ h => h) fun j hj _ => x4.get j (o3.on hj).2) (srcL_new (n := 1) (s := 1) g4 (by decide) rfl) rfl (by omega) fun v' h5 a1 a2 a3 a4 => w_add (by omega) (by omega) ?_)
      have non : ∀ j, j < h1.length → ¬ onId v6 j := fun j hj hon => by have := (o.on hon).1; omega
      refine ih (w.length - (y + 1)) _ _ (by omega) ⟨y + 1, cl.set y (-1), v', by omega, rfl, e0, e1, e5, rfl, rfl, ⟨by have := X3.len; omega, fun j hj => ?_⟩, by omega, ?_, by simpa using hcl, ?_, ?_, ?_⟩
      · have := X3.len
        rw [a3 j (by omega) (non j (by omega)), x4.get j (by omega)]
        exact X3.get j hj
      · rw [a3 _ (by omega) (non _ (by omega)), x4.get _ (by omega)]
        exact g3
      · rw [hm1]; exact hz3
      · rw [hm1]
        have e8 : flat eI ((y :: (mrun x.2.length w y).2).reverse.map fun c : Nat => (c : Int)) = flat eI ((mrun x.2.length w y).2.reverse.map fun c : Nat => (c : Int)) ++ [.int .i64 ((y : Nat) : Int)] := by
          rw [List.reverse_cons, List.map_append, flat_append]
          rfl
        show OwnG 1 _ h5 v' ((mrun x.2.length w y).2.length + 1) (flat eI ((y :: (mrun x.2.length w y).2).reverse.map fun c : Nat => (c : Int)))
        rw [e8]
        exact a1.mono (fun j hj hF => hF.elim (fun h => h) fun h => by show h1.length ≤ j; omega) fun _ _ _ => rfl
      · rw [hm1]; simp; omega
    · refine w_eql (c_dec (fun r2 => ?_) (fun r2 => ?_))
      · have c1 : ¬ c = 2 * (x.2.length : Int) := fun h => by rw [if_pos h] at hs2; omega
        have c2 : ¬ c % 2 = 0 := fun h => by rw [if_neg c1, if_pos h] at hs2; exact r hs2
        refine w_len o3.sl (w_gtr (c_dec (fun r3 => ?_) (fun r3 => ?_)))
        · cases hst2 : (mrun x.2.length w y).2 with
          | nil => rw [hst2] at r3; exact absurd r3 (by decide)
          | cons k0 r0 =>
            rw [hst2] at o3 r3 hst
            have hk0 : k0 < y := mrun_lt x.2.length w y k0 (by rw [hst2]; simp)
            have hm1 : mrun x.2.length w (y + 1) = (put (put (put (mrun x.2.length w y).1 y (-1)) y k0) k0 y, r0) := by
              rw [hmr]
              unfold mstep
              rw [if_neg c1, if_neg c2, hst2]
            have hlen : (k0 :: r0).length = r0.length + 1 := rfl
            have eS : (((k0 :: r0).length : Nat) : Int) - 1 = (r0.length : Nat) := by rw [hlen]; omega
            refine w_len o3.sl (w_sub (by omega) (by omega) ?_)
            rw [eS]
            have osl : SlT 1 eI h3 v6 ((k0 :: r0).reverse.map fun c : Nat => (c : Int)) := by
              have := o3.sl
              unfold SlT
              rw [List.length_map, List.length_reverse]
              exact this
            have hlast : ((k0 :: r0).reverse.map fun c : Nat => (c : Int))[r0.length]? = some ((k0 : Nat) : Int) := by
              rw [List.getElem?_map, List.reverse_cons, List.getElem?_append_right (by simp)]
              simp
            refine w_idxN (enc := eI) eI_len osl hlast fun pp hpp => w_rd1 hpp (x := .int .i64 ((k0 : Nat) : Int)) rfl ?_
            refine w_len o3.sl (w_sub (by omega) (by omega) ?_)
            rw [eS]
            refine cut_g o3 (by omega) fun v' oc hon => ?_
            refine ix1 (by omega) (w_stP g3 (by rw [flat_length eI_len]; simp; omega) rfl rfl ?_)
            have g4 : (h3.set h.length (.row ((flat eI (cl.set y (-1))).set y (.int .i64 ((k0 : Nat) : Int))) true))[h.length]? = some (.row (flat eI ((cl.set y (-1)).set y (k0 : Int))) true) := by rw [get_set _ (lt_of_get g3), flat_eI_set]
            have x4 : Exx h.length h3 (h3.set h.length (.row ((flat eI (cl.set y (-1))).set y (.int .i64 ((k0 : Nat) : Int))) true)) := ⟨by simp, fun j hj hji => get_ne (Ne.symm hji) _⟩
            have l4 : (h3.set h.length (.row ((flat eI (cl.set y (-1))).set y (.int .i64 ((k0 : Nat) : Int))) true)).length = h3.length := by simp
            generalize h3.set h.length (.row ((flat eI (cl.set y (-1))).set y (.int .i64 ((k0 : Nat) : Int))) true) = h4 at *
            refine ix1 (by omega) (w_stP g4 (by rw [flat_length eI_len]; simp; omega) rfl rfl ?_)
            have g5 : (h4.set h.length (.row ((flat eI ((cl.set y (-1)).set y (k0 : Int))).set k0 (.int .i64 ((y : Nat) : Int))) true))[h.length]? = some (.row (flat eI (((cl.set y (-1)).set y (k0 : Int)).set k0 (y : Int))) true) := by rw [get_set _ (lt_of_get g4), flat_eI_set]
            have x5 : Exx h.length h4 (h4.set h.length (.row ((flat eI ((cl.set y (-1)).set y (k0 : Int))).set k0 (.int .i64 ((y : Nat) : Int))) true)) := ⟨by simp, fun j hj hji => get_ne (Ne.symm hji) _⟩
            have l5 : (h4.set h.length (.row ((flat eI ((cl.set y (-1)).set y (k0 : Int))).set k0 (.int .i64 ((y : Nat) : Int))) true)).length = h4.length := by simp
            generalize h4.set h.length (.row ((flat eI ((cl.set y (-1)).set y (k0 : Int))).set k0 (.int .i64 ((y : Nat) : Int))) true) = h5 at *
            have x35 := x4.trans x5
            refine w_add (by omega) (by omega) ?_
            refine ih (w.length - (y + 1)) _ _ (by omega) ⟨y + 1, _, v', by omega, rfl, e0, e1, e5, rfl, rfl, Exx.base X3 x35 (Nat.le_refl _), by omega, g5, by simpa using hcl, fun z hz' => ?_, ?_, ?_⟩
            · rw [hm1]
              dsimp only
              by_cases ez : z = k0
              · subst ez
                rw [put_same, List.getElem?_set_self (by simp; omega)]
              · rw [put_ne ez, List.getElem?_set_ne (Ne.symm ez)]
                by_cases ez2 : z = y
                · subst ez2
                  rw [put_same, List.getElem?_set_self (by simp; omega)]
                · rw [put_ne ez2, List.getElem?_set_ne (Ne.symm ez2)]
                  exact hz3 z hz'
            · rw [hm1]
              have e9 : (flat eI ((k0 :: r0).reverse.map fun c : Nat => (c : Int))).take (r0.length * 1) = flat eI (r0.reverse.map fun c : Nat => (c : Int)) := by
                rw [flat_take eI_len, List.reverse_cons, List.map_append, List.take_append_of_le_length (by simp), List.take_of_length_le (by simp)]
              rw [e9] at oc
              exact oc.mono (fun _ _ h => h) fun j hj hF => x35.get j (oc.on hj).2 (by have : h1.length ≤ j := hF; omega)
            · rw [hm1]
              dsimp only
              omega
        · have hst2 : (mrun x.2.length w y).2 = [] := List.eq_nil_of_length_eq_zero (by omega)
          have hm1 : mrun x.2.length w (y + 1) = (put (mrun x.2.length w y).1 y (-1), []) := by
            rw [hmr]
            unfold mstep
            rw [if_neg c1, if_neg c2, hst2]
          refine w_add (by omega) (by omega) (ih (w.length - (y + 1)) _ _ (by omega) ⟨y + 1, _, v6, by omega, rfl, e0, e1, e5, e6, rfl, X3, by omega, g3, by simpa using hcl, ?_, ?_, ?_⟩)
          · rw [hm1]; exact hz3
          · rw [hm1]; rw [hst2] at o3; exact o3
          · rw [hm1]; exact Nat.zero_le _
      · have c1 : c = 2 * (x.2.length : Int) := Classical.byContradiction fun h => by
          rw [if_neg h] at hs2
          by_cases c2 : c % 2 = 0
          · rw [if_pos c2] at hs2; exact r hs2
          · rw [if_neg c2] at hs2; exact r2 hs2
        have hm1 : mrun x.2.length w (y + 1) = (put (mrun x.2.length w y).1 y (-1), (mrun x.2.length w y).2) := by
          rw [hmr]
          unfold mstep
          rw [if_pos c1]
        refine w_add (by omega) (by omega) (ih (w.length - (y + 1)) _ _ (by omega) ⟨y + 1, _, v6, by omega, rfl, e0, e1, e5, e6, rfl, X3, by omega, g3, by simpa using hcl, ?_, ?_, ?_⟩)
        · rw [hm1]; exact hz3
        · rw [hm1]; exact o3
        · rw [hm1]; dsimp only; omega
  · have ey : y = w.length := by omega
    subst ey
    have ecl : cl = partners x.2.length w := by
      apply List.ext_getElem?
      intro z
      unfold partners
      by_cases hz' : z < w.length
      · rw [hz z hz', List.getElem?_map, List.getElem?_range hz']
        rfl
      · rw [List.getElem?_eq_none (by omega), List.getElem?_eq_none (by simp; omega)]
    rw [ecl] at g2
    have hpl : (partners x.2.length w).length = w.length := by unfold partners; simp
    refine k _ h2 x2 ⟨flat_length eI_len _, .inr ⟨h.length, 0, w.length, by rw [hpl], .inl ⟨by omega, by omega⟩, .inr ⟨_, true, g2, by rw [flat_length eI_len]; omega, ?_⟩⟩⟩
    rw [List.drop_zero, ← flat_length eI_len, List.take_length]
end Go.Proofs.Ytlenlhlipmkeeaa.W
end

section
/- Schema's laws: which words a schema has: where a model's word may end. Conditions: none. -/
namespace Go.Proofs.Ytlenlhlipmkeeaa.W
open Go Go.AM SchM
set_option linter.unusedVariables false
set_option maxRecDepth 100000
theorem Rw_mk {c : Hc} {k : Int} {n : W} {l : List Mdl} {a x : Nat} : Rw c (.mk k n l) a x ↔ (k = 1 ∧ a = x) ∨ (k = 2 ∧ RT (Any (St c)) a x) ∨ (k = 3 ∧ St c (scOf c.x).T a x) ∨ (k = 4 ∧ ∃ i : Nat, (scOf c.x).fd n = i ∧ St c i a x) ∨ (k = 5 ∧ MSeq (scOf c.x).fd (scOf c.x).T (St c) l a x) ∨ (k = 6 ∧ MOr (scOf c.x).fd (scOf c.x).T (St c) l a x) ∨
      (k = 7 ∧ RT (MHd (scOf c.x).fd (scOf c.x).T (St c) l) a x) ∨ (k = 8 ∧ ∃ m, MHd (scOf c.x).fd (scOf c.x).T (St c) l a m ∧ RT (MHd (scOf c.x).fd (scOf c.x).T (St c) l) m x) ∨ (k = 9 ∧ (a = x ∨ MHd (scOf c.x).fd (scOf c.x).T (St c) l a x)) := by
  show MR _ _ _ (.mk k n l) a x ↔ _
  rw [MR]
theorem MHd_one {c : Hc} {m : Mdl} : MHd (scOf c.x).fd (scOf c.x).T (St c) [m] = Rw c m := by
  funext a x
  show MHd _ _ _ [m] a x = MR _ _ _ m a x
  rw [MHd]
set_option maxHeartbeats 4000000 in
theorem model67 {c : Hc} (ok : HcOK c) (nd : (c.x.2.map (·.1)).Nodup) (ho : ∀ e ∈ c.x.2, okM e.2 = true ∧ sz e.2 ≤ 100000000000) : ∀ (N a : Nat), c.w.length - a = N → a ≤ c.w.length → ∀ (s : Nat) (md : Mdl), sz md = s → s ≤ 100000000000 → okM md = true → MC c md a := by
  intro N
  induction N using Nat.strongRecOn with
  | ind N ihN =>
  intro a haN ha s
  induction s using Nat.strongRecOn with
  | ind s ihS =>
  intro md hs hs6 hok u h p o K m pm k
  have hn := ok.n
  have hT := ok.T
  have hM := ok.M
  have hl := m.x.len
  have low : ∀ md' k, a ≤ k → k ≤ c.w.length → okM md' = true → sz md' ≤ 100000000000 → (a < k ∨ sz md' < sz md) → MC c md' k := by
    intro md' k h1 h2 h3 h6 h4
    by_cases e : k = a
    · subst e
      exact ihS (sz md') (by omega) md' rfl h6 h3
    · exact ihN (c.w.length - k) (by omega) k rfl h2 (sz md') md' rfl h6 h3
  have hEC : ∀ k, a ≤ k → k ≤ c.w.length → ∀ i, i < c.x.2.length → EC c i k := by
    intro k h1 h2 i hi
    obtain ⟨e, he⟩ := getElem?_of_lt hi
    exact element48 ok he h2 fun hlt => low e.2 (k + 1) (by omega) (by omega) (ho e (List.mem_of_getElem? he)).1 (ho e (List.mem_of_getElem? he)).2 (.inl (by omega))
  obtain ⟨wa, wc, hws⟩ := ok.ws.shape
  obtain ⟨kk, n, l⟩ := md
  obtain ⟨okl, cases_⟩ := okM_cases hok
  have hszl : ∀ i m', l[i]? = some m' → sz m' < sz (.mk kk n l) := fun i m' hi => by
    have := sz_get l i m' hi
    show _ < 1 + szL l
    omega
  have hln : l.length ≤ 100000000000 := by
    have h1 := szL_len l
    have h2 : sz (.mk kk n l) = 1 + szL l := rfl
    omega
  obtain ⟨cc, sa, scp, gp, hpM, hp3, c0, c1, c2, hsub⟩ := pm.sub
  refine c67 ?_
  unfold s67
  refine n_boxv rfl fun h1 x1 l1 g1 => ?_
  have g1 : h1[h.length]? = some (.row [.pointer (some ⟨c.r, 0, none⟩)] true) := g1
  have m1 := m.ext ok x1
  have gr := m1.rdr ok
  refine w_rdP g1 (v := .pointer (some ⟨c.r, 0, none⟩)) rfl (w_nilc (w_offP (w_rdP gr (v := .map (some c.M)) rfl ?_)))
  refine w_some (v := .agg #[.pointer (some ⟨p, o, none⟩), .int .i64 (a : Nat)]) rfl ?_
  refine look91 m1 pm (fun v i hu b => ?_) (fun z => ?_)
  · refine w_some (v := v) rfl ?_
    refine w_some (v := .bool true) rfl ?_
    refine c_t ?_
    exact k u h1 v i m1 ((Exx.refl _ _).ex x1) (fun i hi => .inl hi) hu b
  refine w_some (v := z) rfl ?_
  refine w_some (v := .bool false) rfl ?_
  refine c_f ?_
  refine w_rdP g1 (v := .pointer (some ⟨c.r, 0, none⟩)) rfl ?_
  have gr' := gr
  rw [hws] at gr'
  refine row66 gr' (by omega) fun v30 h2 x2 l2 b2 => ?_
  refine b2.st (j := a) ha fun h3 x3 l3 bb => ?_
  have m2 := m1.ext ok x2
  have nu1 : ¬ u h1.length := fun hu => by have := (m1.ub _ hu).2; omega
  have m3 : MI c u h3 := m2.set ok (by omega) nu1 x3
  have X3 : Exx c.M h1 h3 := ⟨by omega, fun y hy hyM => (x3.get y (by omega) (by omega)).trans (x2.get y hy)⟩
  have b0 : BR h3 h1.length c.w.length v30 (fun x => x = a) := bb.congr fun x => by simp
  clear bb
  have pM : h.length ≠ c.M := by omega
  refine joinE_intro (fun e h4 => e 1 = .pointer (some ⟨p, o, none⟩) ∧ e 2 = .int .i64 (a : Nat) ∧ e 3 = .pointer (some ⟨h.length, 0, none⟩) ∧ ∃ u1 v i, e 9 = v ∧ MI c u1 h4 ∧ Exx c.M h1 h4 ∧ (∀ j, u1 j → u j ∨ h1.length ≤ j) ∧ h1.length ≤ i ∧ BR h4 i c.w.length v (Rw c (.mk kk n l) a)) ?_ ?_
  · rintro e h4 ⟨e1, e2, e3, u1, v, i, e9, m4, x4, s4, hi, b4⟩
    rw [e1, e2, e3, e9]
    refine w_rdP (x4.some g1 pM) (v := .pointer (some ⟨c.r, 0, none⟩)) rfl (w_nilc (w_offP (w_rdP (m4.rdr ok) (v := .map (some c.M)) rfl ?_)))
    refine w_some (v := .agg #[.pointer (some ⟨p, o, none⟩), .int .i64 (a : Nat)]) rfl ?_
    refine upd91 ok m4 pm ha (by omega) b4 fun h5 x5 l5 m5 b5 => k _ h5 v i m5 ?_ (fun j hj => ?_) (.inr rfl) b5
    · exact ((Exx.refl _ _).ex x1).trans (x4.trans x5)
    · rcases hj with hj | rfl
      · exact (s4 j hj).imp (fun h => h) fun h => by omega
      · exact .inr (by omega)
  intro J hJ
  have hj : ∀ (E : Env) (h4 : AH) (u1 : Nat → Prop) (v : Value) (i : Nat), E 1 = .pointer (some ⟨p, o, none⟩) → E 2 = .int .i64 (a : Nat) → E 3 = .pointer (some ⟨h.length, 0, none⟩) → E 9 = v → MI c u1 h4 → Exx c.M h1 h4 → (∀ j, u1 j → u j ∨ h1.length ≤ j) → h1.length ≤ i → BR h4 i c.w.length v (Rw c (.mk kk n l) a) → J E h4 :=
    fun E h4 u1 v i f1 f2 f3 f9 mm xx ss hi b => hJ _ _ ⟨f1, f2, f3, u1, v, i, f9, mm, xx, ss, hi, b⟩
  clear hJ
  have gp3 := m3.x.some gp hpM
  have g13 := X3.some g1 pM
  refine w_nilc (w_offP (w_rdP gp3 (v := .int .i64 kk) c0 (w_eql ?_)))
  refine c_dec (fun q => ?_) (fun q2 => ?_)
  · refine w_rdP g13 (v := .pointer (some ⟨c.r, 0, none⟩)) rfl (w_rdP g13 (v := .pointer (some ⟨c.r, 0, none⟩)) rfl ?_)
    refine often79 ok m3 b0 (lo := a) (fun j hj => by omega) (way80 ok hEC) (fun a' j _ hj => Any_le _ _ hj) fun u4 h4 v4 i4 m4 x4 s4 hi4 nu4 b4 => ?_
    refine hj _ h4 u4 v4 i4 rfl rfl rfl rfl m4 (X3.trans x4) (fun j hj => (s4 j hj).imp (fun h => h) fun h => by omega) (by omega) (b4.congr fun x => ?_)
    rw [Rw_mk]
    constructor
    · rintro ⟨_, rfl, hr⟩
      exact .inr (.inl ⟨q, hr⟩)
    · intro hr
      refine ⟨a, rfl, ?_⟩
      rcases hr with ⟨h, _⟩ | ⟨_, h⟩ | ⟨h, _⟩ | ⟨h, _⟩ | ⟨h, _⟩ | ⟨h, _⟩ | ⟨h, _⟩ | ⟨h, _⟩ | ⟨h, _⟩
      case inr.inl => exact h
      all_goals omega
  refine w_eql (c_dec (fun q => ?_) (fun q3 => ?_))
  · refine w_rdP g13 (v := .pointer (some ⟨c.r, 0, none⟩)) rfl ?_
    refine words81 ok m3 ha fun v4 i4 h4 x4 l40 l41 b4 => ?_
    refine hj _ h4 u v4 i4 rfl rfl rfl rfl (m3.ext ok x4) (X3.ex x4) (fun j hj => .inl hj) (by omega) (b4.congr fun x => ?_)
    rw [Rw_mk]
    constructor
    · rintro ⟨h1, rfl⟩
      exact .inr (.inr (.inl ⟨q, (Stw_iff _ _ _ _ _).2 (.inl ⟨rfl, h1, rfl⟩)⟩))
    · intro hr
      rcases hr with ⟨h, _⟩ | ⟨h, _⟩ | ⟨_, h⟩ | ⟨h, _⟩ | ⟨h, _⟩ | ⟨h, _⟩ | ⟨h, _⟩ | ⟨h, _⟩ | ⟨h, _⟩
      case inr.inr.inl =>
        rcases (Stw_iff _ _ _ _ _).1 h with ⟨_, h1, h2⟩ | ⟨h1, _⟩
        · exact ⟨h1, h2⟩
        · exact absurd h1 (Nat.lt_irrefl _)
      all_goals omega
  refine w_eql (c_dec (fun q => ?_) (fun q4 => ?_))
  · refine w_rdP g13 (v := .pointer (some ⟨c.r, 0, none⟩)) rfl ?_
    have gr3 := m3.rdr ok
    have gr3' := gr3
    rw [hws] at gr3'
    refine row66 gr3' (by omega) fun v5 h5 x5 l5 b5 => ?_
    have m5 := m3.ext ok x5
    refine w_rdP (x5.some g13) (v := .pointer (some ⟨c.r, 0, none⟩)) rfl (w_nilc (w_offP (w_offP (w_rdP (m5.rdr ok) (v := c.L) rfl ?_))))
    have X5 : Exx c.M h1 h5 := X3.ex x5
    obtain ⟨La, Lc, Lcs, hL, _⟩ := ok.ls
    rw [hL]
    refine w_lenSl ?_
    refine loopE_intro (fun mm e h6 => ∃ (j : Nat) (u6 : Nat → Prop) (v6 : Value) (i6 : Nat), j ≤ c.x.2.length ∧ mm = c.x.2.length - j ∧ e 1 = .pointer (some ⟨p, o, none⟩) ∧ e 2 = .int .i64 (a : Nat) ∧ e 3 = .pointer (some ⟨h.length, 0, none⟩) ∧ e 9 = v6 ∧ e 59 = c.L ∧ e 60 = .int .i64 ((c.x.2.length : Nat) : Int) ∧ e 61 = .int .i64 (j : Nat) ∧
      MI c u6 h6 ∧ Exx c.M h1 h6 ∧ (∀ j, u6 j → u j ∨ h1.length ≤ j) ∧ h1.length ≤ i6 ∧ BR h6 i6 c.w.length v6 (fun x => ∃ j' e', j' < j ∧ c.x.2[j']? = some e' ∧ e'.1 = n ∧ St c j' a x)) c.x.2.length
      ⟨0, u, v5, h3.length, Nat.zero_le _, rfl, rfl, rfl, rfl, rfl, hL.symm, rfl, rfl, m5, X5, fun j hj => .inl hj, by omega, b5.congr fun x => ⟨fun h => h.elim, fun ⟨j', e', h, _⟩ => by omega⟩⟩ ?_
    rintro I mm e h6 ⟨j, u6, v6, i6, hj6, hmm, f1, f2, f3, f9, f59, f60, f61, m6, x6, s6, hi6, b6⟩ ih
    rw [f1, f2, f3, f59, f60, f61]
    refine w_lss (c_dec (fun r => ?_) (fun r => ?_))
    · obtain ⟨el, hel⟩ := getElem?_of_lt (l := c.x.2) (i := j) (by omega)
      obtain ⟨id, off, cap, cc', k', n', a', l', cp', hL', gid, idM, hle', ht4, pm'⟩ := elAt ok hel
      have gid6 := m6.x.some gid idM
      rw [hL']
      refine w_some (v := .pointer (some ⟨id, off + j * 4, none⟩)) ?_ ?_
      · show (if 0 ≤ ((j : Nat) : Int) ∧ ((j : Nat) : Int) < ((c.x.2.length : Nat) : Int) then some (Value.pointer (some ⟨id, off + ((j : Nat) : Int).toNat * 4, none⟩)) else none) = _
        rw [if_pos (by omega)]
        simp
      refine w_rdPA gid6 hle' ?_
      rw [ht4]
      refine n_var rfl rfl rfl fun h7 x7 l7 g7 => ?_
      have g7 : h7[h6.length]? = some (.row [.string (bs el.1), .int .i64 k', .string (bs n'), .slice a' l' cp'] true) := g7
      have m7 := m6.ext ok x7
      refine w_offP (w_rdP g7 (v := .string (bs el.1)) rfl (w_nilc (w_offP (w_rdP (m7.x.some gp hpM) (v := .string (bs n)) c1 (w_seql ?_)))))
      refine c_dec (fun r2 => ?_) (fun r2 => ?_)
      · refine w_rdP ((x6.ex x7).some g1 pM) (v := .pointer (some ⟨c.r, 0, none⟩)) rfl ?_
        refine hEC a (Nat.le_refl _) ha j (by omega) u6 h7 _ m7 fun u8 h8 v8 i8 m8 x8 s8 hi8 nu8 b8 => w_add (by omega) (by omega) ?_
        refine ih (c.x.2.length - (j + 1)) _ _ (by omega) ⟨j + 1, u8, v8, i8, by omega, rfl, f1, f2, f3, rfl, f59, f60, rfl, m8, (x6.ex x7).trans x8, fun y hy => (s8 y hy).elim (s6 y) fun h => .inr (by have := (x6.ex x7).len; omega), by have := (x6.ex x7).len; omega, b8.congr fun x => ?_⟩
        constructor
        · intro h
          exact ⟨j, el, Nat.lt_succ_self _, hel, r2, h⟩
        · rintro ⟨j', e', h1, h2, h3, h4⟩
          have e1 : (c.x.2.map (·.1))[j']? = (c.x.2.map (·.1))[j]? := by
            rw [List.getElem?_map, List.getElem?_map, h2, hel]
            simp [h3, r2]
          have := (List.getElem?_inj (by rw [List.length_map]; exact get_lt h2) nd).1 e1
          subst this
          exact h4
      · refine w_add (by omega) (by omega) ?_
        refine ih (c.x.2.length - (j + 1)) _ _ (by omega) ⟨j + 1, u6, v6, i6, by omega, rfl, f1, f2, f3, f9, f59, f60, rfl, m7, x6.ex x7, s6, hi6, (b6.keep (x7.get _ b6.lt)).congr fun x => ?_⟩
        constructor
        · rintro ⟨j', e', h1, h2⟩
          exact ⟨j', e', by omega, h2⟩
        · rintro ⟨j', e', h1, h2, h3, h4⟩
          by_cases ej : j' = j
          · subst ej
            rw [hel] at h2
            cases h2
            exact absurd h3 r2
          · exact ⟨j', e', by omega, h2, h3, h4⟩
    · refine hj _ h6 u6 v6 i6 f1 f2 f3 f9 m6 x6 s6 hi6 (b6.congr fun x => ?_)
      rw [Rw_mk]
      constructor
      · rintro ⟨j', e', h1, h2, h3, h4⟩
        exact .inr (.inr (.inr (.inl ⟨q, j', (fd_iff nd n j').2 ⟨e', h2, h3⟩, h4⟩)))
      · intro hr
        rcases hr with ⟨h, _⟩ | ⟨h, _⟩ | ⟨h, _⟩ | ⟨_, i', h, h4⟩ | ⟨h, _⟩ | ⟨h, _⟩ | ⟨h, _⟩ | ⟨h, _⟩ | ⟨h, _⟩
        case inr.inr.inr.inl =>
          obtain ⟨e', h2, h3⟩ := (fd_iff nd n i').1 h
          exact ⟨i', e', by have := get_lt h2; omega, h2, h3, h4⟩
        all_goals omega
  refine w_eql (c_dec (fun q => ?_) (fun q5 => ?_))
  · refine w_nilc (w_offP (w_rdP gp3 (v := .slice sa l.length scp) c2 (w_lenSl ?_)))
    refine loopE_intro (fun mm e h6 => ∃ (j : Nat) (u6 : Nat → Prop) (v6 : Value) (i6 : Nat), j ≤ l.length ∧ mm = l.length - j ∧ e 1 = .pointer (some ⟨p, o, none⟩) ∧ e 2 = .int .i64 (a : Nat) ∧ e 3 = .pointer (some ⟨h.length, 0, none⟩) ∧ e 9 = v6 ∧ e 10 = .func (.func 77) #[] #[.pointer (some ⟨h.length, 0, none⟩)] ∧ e 84 = .int .i64 ((l.length : Nat) : Int) ∧ e 85 = .int .i64 (j : Nat) ∧
      MI c u6 h6 ∧ Exx c.M h1 h6 ∧ (∀ j, u6 j → u j ∨ h1.length ≤ j) ∧ h1.length ≤ i6 ∧ BR h6 i6 c.w.length v6 (MSeq (scOf c.x).fd (scOf c.x).T (St c) (l.take j) a)) l.length
      ⟨0, u, v30, h1.length, Nat.zero_le _, rfl, rfl, rfl, rfl, rfl, rfl, rfl, rfl, m3, X3, fun j hj => .inl hj, Nat.le_refl _, b0.congr fun x => by rw [List.take_zero, MSeq]; exact ⟨fun h => h.symm, fun h => h.symm⟩⟩ ?_
    rintro I mm e h6 ⟨j, u6, v6, i6, hj6, hmm, f1, f2, f3, f9, f10, f84, f85, m6, x6, s6, hi6, b6⟩ ih
    rw [f1, f3, f9, f10, f84, f85]
    refine w_lss (c_dec (fun r => ?_) (fun r => ?_))
    · obtain ⟨mj, hmj⟩ := getElem?_of_lt (l := l) (i := j) (by omega)
      obtain ⟨id, off, cap, hsl, pmj⟩ := hsub j mj hmj
      have g16 := x6.some g1 pM
      refine w_rdP g16 (v := .pointer (some ⟨c.r, 0, none⟩)) rfl (w_nilc (w_offP (w_rdP (m6.x.some gp hpM) (v := .slice sa l.length scp) c2 ?_)))
      rw [hsl]
      refine w_some (v := .pointer (some ⟨id, off + j * 3, none⟩)) ?_ ?_
      · show (if 0 ≤ ((j : Nat) : Int) ∧ ((j : Nat) : Int) < ((l.length : Nat) : Int) then some (Value.pointer (some ⟨id, off + ((j : Nat) : Int).toNat * 3, none⟩)) else none) = _
        rw [if_pos (by omega)]
        simp
      refine call77 fun h7 x7 l7 g7 => ⟨idrow g16 (x7.some g16), ?_⟩
      have m7 := m6.ext ok x7
      have hl6 := x6.len
      have hmm2 : ∀ k, a ≤ k → k ≤ c.w.length → MC c mj k := fun k h1 h2 => low mj k h1 h2 (okML_get l okl mj (List.mem_of_getElem? hmj)) (by have := hszl j mj hmj; omega) (.inr (hszl j mj hmj))
      refine on82 ok m7 (b6.keep (x7.get _ b6.lt)) (lo := a) (fun y hy => MSeq_le hy) (way78 (x7.some g16) g7 pM (by omega) pmj hmm2) fun u8 h8 v8 i8 m8 x8 s8 hi8 nu8 b8 => w_add (by omega) (by omega) ?_
      refine ih (l.length - (j + 1)) _ _ (by omega) ⟨j + 1, u8, v8, i8, by omega, rfl, f1, f2, f3, rfl, f10, f84, rfl, m8, (x6.ex x7).trans x8, fun y hy => (s8 y hy).elim (s6 y) fun h => .inr (by omega), by omega, b8.congr fun x => ?_⟩
      rw [take_succ_get hmj]
      exact (MSeq_snoc _ _ _ _).symm
    · refine hj _ h6 u6 v6 i6 f1 f2 f3 f9 m6 x6 s6 hi6 (b6.congr fun x => ?_)
      rw [Rw_mk, List.take_of_length_le (by omega)]
      constructor
      · exact fun h => .inr (.inr (.inr (.inr (.inl ⟨q, h⟩))))
      · intro hr
        rcases hr with ⟨h, _⟩ | ⟨h, _⟩ | ⟨h, _⟩ | ⟨h, _⟩ | ⟨_, h⟩ | ⟨h, _⟩ | ⟨h, _⟩ | ⟨h, _⟩ | ⟨h, _⟩
        case inr.inr.inr.inr.inl => exact h
        all_goals omega
  refine w_eql (c_dec (fun q => ?_) (fun q6 => ?_))
  · refine w_rdP g13 (v := .pointer (some ⟨c.r, 0, none⟩)) rfl ?_
    have gr3 := m3.rdr ok
    rw [hws] at gr3
    refine row66 gr3 (by omega) fun v5 h5 x5 l5 b5 => ?_
    have m5 := m3.ext ok x5
    have X5 : Exx c.M h1 h5 := X3.ex x5
    refine w_nilc (w_offP (w_rdP (m5.x.some gp hpM) (v := .slice sa l.length scp) c2 (w_lenSl ?_)))
    refine loopE_intro (fun mm e h6 => ∃ (j : Nat) (u6 : Nat → Prop), j ≤ l.length ∧ mm = l.length - j ∧ e 1 = .pointer (some ⟨p, o, none⟩) ∧ e 2 = .int .i64 (a : Nat) ∧ e 3 = .pointer (some ⟨h.length, 0, none⟩) ∧ e 9 = v5 ∧ e 108 = .int .i64 ((l.length : Nat) : Int) ∧ e 109 = .int .i64 (j : Nat) ∧
      MI c u6 h6 ∧ Exx c.M h1 h6 ∧ h3.length < h6.length ∧ (∀ j, u6 j → u j ∨ h1.length ≤ j) ∧ ¬ u6 h3.length ∧ BR h6 h3.length c.w.length v5 (MOr (scOf c.x).fd (scOf c.x).T (St c) (l.take j) a)) l.length
      ⟨0, u, Nat.zero_le _, rfl, rfl, rfl, rfl, rfl, rfl, rfl, m5, X5, by omega, fun j hj => .inl hj, fun hu => by have := (m3.ub _ hu).2; omega, b5.congr fun x => by rw [List.take_zero, MOr]⟩ ?_
    rintro I mm e h6 ⟨j, u6, hj6, hmm, f1, f2, f3, f9, f108, f109, m6, x6, l6, s6, nu6, b6⟩ ih
    rw [f1, f2, f3, f9, f108, f109]
    refine w_lss (c_dec (fun r => ?_) (fun r => ?_))
    · obtain ⟨mj, hmj⟩ := getElem?_of_lt (l := l) (i := j) (by omega)
      obtain ⟨id, off, cap, hsl, pmj⟩ := hsub j mj hmj
      have g16 := x6.some g1 pM
      refine w_rdP g16 (v := .pointer (some ⟨c.r, 0, none⟩)) rfl (w_nilc (w_offP (w_rdP (m6.x.some gp hpM) (v := .slice sa l.length scp) c2 ?_)))
      rw [hsl]
      refine w_some (v := .pointer (some ⟨id, off + j * 3, none⟩)) ?_ ?_
      · show (if 0 ≤ ((j : Nat) : Int) ∧ ((j : Nat) : Int) < ((l.length : Nat) : Int) then some (Value.pointer (some ⟨id, off + ((j : Nat) : Int).toNat * 3, none⟩)) else none) = _
        rw [if_pos (by omega)]
        simp
      refine low mj a (Nat.le_refl _) ha (okML_get l okl mj (List.mem_of_getElem? hmj)) (by have := hszl j mj hmj; omega) (.inr (hszl j mj hmj)) u6 h6 _ _ _ m6 pmj fun u7 h7 v7 i7 m7 x7 s7 hu7 b7 => ?_
      have nu7 : ¬ u7 h3.length := fun hu => (s7 _ hu).elim nu6 fun h => by omega
      refine join83 (b6.keep (x7.get _ b6.lt (by omega))) b7 (fun e => nu7 (by rw [e]; exact hu7)) (by omega) fun h8 x8 l8 b8 => w_add (by omega) (by omega) ?_
      have X8 := x6.trans x7
      refine ih (l.length - (j + 1)) _ _ (by omega) ⟨j + 1, u7, by omega, rfl, f1, f2, f3, f9, f108, rfl, m7.set ok (by omega) nu7 x8, ⟨Nat.le_trans X8.len x8.len, fun y hy hyM => ?_⟩, by have := x7.len; omega, fun y hy => (s7 y hy).elim (s6 y) fun h => .inr (by have := x6.len; omega), nu7, b8.congr fun x => ?_⟩
      · rw [x8.get y (Nat.lt_of_lt_of_le hy X8.len) (by omega)]
        exact X8.get y hy hyM
      · rw [take_succ_get hmj]
        exact (MOr_snoc _ _ _ _).symm
    · refine hj _ h6 u6 v5 h3.length f1 f2 f3 f9 m6 x6 s6 (by omega) (b6.congr fun x => ?_)
      rw [Rw_mk, List.take_of_length_le (by omega)]
      constructor
      · exact fun h => .inr (.inr (.inr (.inr (.inr (.inl ⟨q, h⟩)))))
      · intro hr
        rcases hr with ⟨h, _⟩ | ⟨h, _⟩ | ⟨h, _⟩ | ⟨h, _⟩ | ⟨h, _⟩ | ⟨_, h⟩ | ⟨h, _⟩ | ⟨h, _⟩ | ⟨h, _⟩
        case inr.inr.inr.inr.inr.inl => exact h
        all_goals omega
  refine joinE_intro (fun e h4 => e 1 = .pointer (some ⟨p, o, none⟩) ∧ e 2 = .int .i64 (a : Nat) ∧ e 3 = .pointer (some ⟨h.length, 0, none⟩) ∧ e 9 = v30 ∧ e 10 = .func (.func 77) #[] #[.pointer (some ⟨h.length, 0, none⟩)] ∧ e 124 = .bool (decide (kk = 7 ∨ kk = 8 ∨ kk = 9)) ∧ h3 = h4) ?_ ?_
  case refine_2 =>
    intro J1 hJ1
    refine w_eql (c_dec (fun q7 => hJ1 _ _ ⟨rfl, rfl, rfl, rfl, rfl, congrArg Value.bool (decide_eq_decide.2 ⟨fun _ => by omega, fun _ => by omega⟩), rfl⟩) (fun q7 => ?_))
    refine w_eql (c_dec (fun q8 => hJ1 _ _ ⟨rfl, rfl, rfl, rfl, rfl, congrArg Value.bool (decide_eq_decide.2 ⟨fun _ => by omega, fun _ => by omega⟩), rfl⟩) (fun q8 => ?_))
    exact w_eql (hJ1 _ _ ⟨rfl, rfl, rfl, rfl, rfl, congrArg Value.bool (decide_eq_decide.2 ⟨fun _ => by omega, fun _ => by omega⟩), rfl⟩)
  rintro e h4 ⟨f1, f2, f3, f9, f10, f124, rfl⟩
  rw [f124]
  refine c_dec (fun q => ?_) (fun q => ?_)
  rotate_left
  · refine hj _ h3 u v30 h1.length f1 f2 f3 f9 m3 X3 (fun j hj => .inl hj) (Nat.le_refl _) (b0.congr fun x => ?_)
    rw [Rw_mk]
    constructor
    · rintro rfl
      exact .inl ⟨by omega, rfl⟩
    · intro hr
      rcases hr with ⟨_, h⟩ | ⟨h, _⟩ | ⟨h, _⟩ | ⟨h, _⟩ | ⟨h, _⟩ | ⟨h, _⟩ | ⟨h, _⟩ | ⟨h, _⟩ | ⟨h, _⟩
      case inl => exact h.symm
      all_goals omega
  obtain ⟨m0, rfl⟩ : ∃ m0, l = [m0] := by
    rcases cases_ with ⟨h, _⟩ | ⟨h, _⟩ | ⟨h, _⟩ | ⟨_, h, _⟩
    case inr.inr.inr => exact h
    all_goals omega
  have hmj : [m0][0]? = some m0 := rfl
  obtain ⟨id, off, cap, hsl, pmj⟩ := hsub 0 m0 hmj
  have okm0 := okML_get [m0] okl m0 (List.mem_of_getElem? hmj)
  have szm0 := hszl 0 m0 hmj
  have hMC : ∀ k, a ≤ k → k ≤ c.w.length → MC c m0 k := fun k h1 h2 => low m0 k h1 h2 okm0 (by omega) (.inr szm0)
  have rw_ : ∀ x, Rw c (.mk kk n [m0]) a x ↔ (kk = 7 ∧ RT (Rw c m0) a x) ∨ (kk = 8 ∧ ∃ y, Rw c m0 a y ∧ RT (Rw c m0) y x) ∨ (kk = 9 ∧ (a = x ∨ Rw c m0 a x)) := by
    intro x
    rw [Rw_mk, MHd_one]
    constructor
    · intro hr
      rcases hr with ⟨h, _⟩ | ⟨h, _⟩ | ⟨h, _⟩ | ⟨h, _⟩ | ⟨h, _⟩ | ⟨h, _⟩ | h | h | h
      case inr.inr.inr.inr.inr.inr.inl => exact .inl h
      case inr.inr.inr.inr.inr.inr.inr.inl => exact .inr (.inl h)
      case inr.inr.inr.inr.inr.inr.inr.inr => exact .inr (.inr h)
      all_goals omega
    · rintro (h | h | h)
      · exact .inr (.inr (.inr (.inr (.inr (.inr (.inl h))))))
      · exact .inr (.inr (.inr (.inr (.inr (.inr (.inr (.inl h)))))))
      · exact .inr (.inr (.inr (.inr (.inr (.inr (.inr (.inr h)))))))
  rw [f1, f2, f3, f9, f10]
  have t1 : ¬ ¬ (((([m0] : List Mdl).length : Nat) : Int) = 1) := fun h => h rfl
  refine w_nilc (w_offP (w_rdP gp3 (v := .slice sa ([m0] : List Mdl).length scp) c2 (w_lenSl (w_neq (c_ff t1 ?_)))))
  refine w_rdP g13 (v := .pointer (some ⟨c.r, 0, none⟩)) rfl (w_nilc (w_offP (w_rdP gp3 (v := .slice sa ([m0] : List Mdl).length scp) c2 ?_)))
  rw [hsl]
  have ix : pIdxS 3 (.slice (some ⟨id, off, none⟩) ([m0] : List Mdl).length cap) (.int .i64 0) = some (.pointer (some ⟨id, off + 0 * 3, none⟩)) := rfl
  refine w_some ix ?_
  refine hMC a (Nat.le_refl _) ha u h3 _ _ _ m3 pmj fun u5 h5 v5 i5 m5 x5 s5 hu5 b5 => ?_
  refine clone84 b5 (by omega) fun v6 i6 h6 x6 l60 l61 b6 => ?_
  have m6 := m5.ext ok x6
  have X6 : Exx c.M h1 h6 := (X3.trans x5).ex x6
  have l15 := (X3.trans x5).len
  have s6 : ∀ j, u5 j → u j ∨ h1.length ≤ j := fun j hj => (s5 j hj).imp (fun h => h) fun h => by omega
  have nu6 : ¬ u5 i6 := fun hu => by have := (m5.ub _ hu).2; omega
  have b06 : BR h6 h1.length c.w.length v30 (fun x => x = a) := (b0.keep (x5.get _ b0.lt (by omega))).keep (x6.get _ (by have := b0.lt; have := x5.len; omega))
  have nu61 : ¬ u5 h1.length := fun hu => (s5 _ hu).elim nu1 fun h => by omega
  refine w_nilc (w_offP (w_rdP (m6.x.some gp hpM) (v := .int .i64 kk) c0 (w_neq ?_)))
  refine c_dec (fun r9 => ?_) (fun r9 => ?_)
  · have g16 := X6.some g1 pM
    refine w_rdP g16 (v := .pointer (some ⟨c.r, 0, none⟩)) rfl (w_nilc (w_offP (w_rdP (m6.x.some gp hpM) (v := .slice sa ([m0] : List Mdl).length scp) c2 ?_)))
    rw [hsl]
    refine w_some ix ?_
    refine call77 fun h7 x7 l7 g7 => ⟨idrow g16 (x7.some g16), ?_⟩
    have m7 := m6.ext ok x7
    refine often79 ok m7 (b6.keep (x7.get _ l61)) (lo := a) (fun y hy => MR_le hy) (way78 (x7.some g16) g7 pM (by have := X6.len; omega) pmj hMC) (fun a' y _ hy => MR_le hy) fun u8 h8 v8 i8 m8 x8 s8 hi8 nu8 b8 => ?_
    have X8 : Exx c.M h1 h8 := (X6.ex x7).trans x8
    have s8' : ∀ j, u8 j → u j ∨ h1.length ≤ j := fun j hj => (s8 j hj).elim (s6 j) fun h => .inr (by have := X6.len; omega)
    refine w_nilc (w_offP (w_rdP (m8.x.some gp hpM) (v := .int .i64 kk) c0 (w_neq ?_)))
    refine c_dec (fun r8 => ?_) (fun r8 => ?_)
    · have b08 : BR h8 h1.length c.w.length v30 (fun x => x = a) := b06.keep ((x8.get _ (by have := b06.lt; omega) (by omega)).trans (x7.get _ b06.lt))
      refine join83 b8 b08 (by have := X6.len; have := b06.lt; omega) (by omega) fun h9 x9 l9 b9 => ?_
      refine hj _ h9 u8 v8 i8 f1 f2 f3 rfl (m8.set ok (by omega) nu8 x9) ⟨Nat.le_trans X8.len x9.len, fun y hy hyM => ?_⟩ s8' (by have := X6.len; omega) (b9.congr fun x => ?_)
      · rw [x9.get y (Nat.lt_of_lt_of_le hy X8.len) (by have := X6.len; omega)]
        exact X8.get y hy hyM
      · rw [rw_]
        constructor
        · rintro (⟨y, h1, h2⟩ | rfl)
          · exact .inl ⟨by omega, .cons h1 h2⟩
          · exact .inl ⟨by omega, .nil _⟩
        · rintro (⟨_, h⟩ | ⟨h, _⟩ | ⟨h, _⟩)
          · cases h with
            | nil => exact .inr rfl
            | cons h1 h2 => exact .inl ⟨_, h1, h2⟩
          · exact absurd h r8
          · exact absurd h r9
    · have e8 : kk = 8 := Classical.not_not.1 r8
      refine hj _ h8 u8 v8 i8 f1 f2 f3 rfl m8 X8 s8' (by have := X6.len; omega) (b8.congr fun x => ?_)
      rw [rw_]
      constructor
      · exact fun h => .inr (.inl ⟨e8, h⟩)
      · rintro (⟨h, _⟩ | ⟨_, h⟩ | ⟨h, _⟩)
        · omega
        · exact h
        · omega
  · have e9 : kk = 9 := Classical.not_not.1 r9
    have t8 : ¬ (kk = 8) := by omega
    refine w_nilc (w_offP (w_rdP (m6.x.some gp hpM) (v := .int .i64 kk) c0 (w_neq (c_tt t8 ?_))))
    refine join83 b6 b06 (by have := b0.lt; have := x5.len; have := x3.len; omega) (by omega) fun h9 x9 l9 b9 => ?_
    refine hj _ h9 u5 v6 i6 f1 f2 f3 rfl (m6.set ok (by omega) nu6 x9) ⟨Nat.le_trans X6.len x9.len, fun y hy hyM => ?_⟩ s6 (by omega) (b9.congr fun x => ?_)
    · rw [x9.get y (Nat.lt_of_lt_of_le hy X6.len) (by omega)]
      exact X6.get y hy hyM
    · rw [rw_]
      constructor
      · rintro (h | rfl)
        · exact .inr (.inr ⟨e9, .inr h⟩)
        · exact .inr (.inr ⟨e9, .inl rfl⟩)
      · rintro (⟨h, _⟩ | ⟨h, _⟩ | ⟨_, rfl | h⟩)
        · omega
        · omega
        · exact .inr rfl
        · exact .inl h
end Go.Proofs.Ytlenlhlipmkeeaa.W
end

section
/- Schema's laws: the program's Has: whether a schema has a word. Conditions: none. -/
namespace Go.Proofs.Ytlenlhlipmkeeaa.W
open Go Go.AM SchM
set_option linter.unusedVariables false
set_option maxRecDepth 100000
structure Hok (x : W × List (W × Mdl)) : Prop where
  nd : (x.2.map (·.1)).Nodup
  ok : ∀ e ∈ x.2, okM e.2 = true ∧ sz e.2 ≤ 100000000000
  T : x.2.length ≤ 100000000000
abbrev Hs (x : W × List (W × Mdl)) (w : List Int) : Prop := HasW (scOf x) x.1 w
set_option maxHeartbeats 2000000 in
theorem has22 {h : AH} {b : Nat} {x : W × List (W × Mdl)} {v wv : Value} {w : List Int} {K : Value → AH → Prop} (hx : Hok x) (s : SH h b x v) (hw : SlT 1 eI h wv w) (hn : w.length ≤ 100000000000)
    (k : ∀ (t : Bool) h', Ex h h' → (t = true ↔ Hs x w) → K (.bool t) h') : callW Try.prog 22 [v, wv] h K := by
  obtain ⟨root, l⟩ := x
  obtain ⟨a, cp, cs, rfl, sl, on, el⟩ := s
  obtain ⟨wa, wc, rfl⟩ := hw.shape
  have hT := hx.T
  dsimp only at sl on el hT
  refine c22 ?_
  unfold s22
  refine n_boxv rfl fun h1 x1 l1 g1 => ?_
  have g1 : h1[h.length]? = some (.row [.string (bs root), .slice a l.length cp] true) := g1
  refine w_rdPA g1 (Nat.le_refl 2) ?_
  refine n_newv fun h2 x2 l2 g2 => ?_
  refine w_some (v := .agg #[.string (bs root), .slice a l.length cp, .slice wa w.length wc, .map (some h1.length)]) rfl ?_
  refine n_boxv rfl fun h3 x3 l3 g3 => ?_
  have g3 : h3[h2.length]? = some (rdr (.string (bs root)) (.slice a l.length cp) (.slice wa w.length wc) h1.length) := g3
  have X3 : Ex h h3 := x1.trans (x2.trans x3)
  let c : Hc := ⟨h3, h2.length, h1.length, .slice a l.length cp, .slice wa w.length wc, w, (root, l)⟩
  have hG : ∀ j, (b ≤ j ∧ j < h.length) ∧ Wr h j → c.G j := fun j hj => ⟨by show j ≠ h1.length; omega, X3.lt hj.1.2, hj.2.keep (X3.get j hj.1.2)⟩
  have ok : HcOK c := {
    rd := g3
    ls := ⟨a, cp, cs, rfl, sl.ex X3, fun j hj => hG j (on j hj), EL.mono (fun j hj => ⟨X3.get j hj.1.2, hG j hj⟩) _ _ el⟩
    ws := hw.ex X3
    n := hn
    T := hT
    mp := ⟨[], 0, x3.some g2⟩ }
  have m3 : MI c (fun _ => False) h3 := ⟨.refl _ _, ⟨[], 0, x3.some g2, fun e he => by cases he⟩, fun i hi => hi.elim⟩
  have g13 := (x2.trans x3).some g1
  refine w_offP (w_rdP g13 (v := .slice a l.length cp) rfl (w_lenSl ?_))
  refine loopE_intro (fun mm e h4 => ∃ j : Nat, j ≤ l.length ∧ mm = l.length - j ∧ e 1 = .slice wa w.length wc ∧ e 2 = .pointer (some ⟨h.length, 0, none⟩) ∧ e 5 = .pointer (some ⟨h2.length, 0, none⟩) ∧ e 14 = .slice a l.length cp ∧ e 15 = .int .i64 ((l.length : Nat) : Int) ∧ e 16 = .int .i64 (j : Nat) ∧ Ex h3 h4 ∧ ∀ j' e', j' < j → l[j']? = some e' → e'.1 ≠ root) l.length
    ⟨0, Nat.zero_le _, rfl, rfl, rfl, rfl, rfl, rfl, rfl, Ex.refl _, fun j' e' h => by omega⟩ ?_
  rintro I mm e h4 ⟨j, hj, hmm, e1, e2, e5, e14, e15, e16, x4, hno⟩ ih
  rw [e1, e2, e5, e14, e15, e16]
  refine w_lss (c_dec (fun r => ?_) (fun r => ?_))
  · obtain ⟨ee, hel⟩ := getElem?_of_lt (l := l) (i := j) (by omega)
    obtain ⟨id, off, cap, cc, k', n', a', l', cp', hL', gid, idM, hle', ht4, pm'⟩ := elAt (c := c) ok hel
    have hL' : Value.slice a l.length cp = .slice (some ⟨id, off, none⟩) l.length cap := hL'
    rw [hL']
    refine w_some (v := .pointer (some ⟨id, off + j * 4, none⟩)) ?_ ?_
    · show (if 0 ≤ ((j : Nat) : Int) ∧ ((j : Nat) : Int) < ((l.length : Nat) : Int) then some (Value.pointer (some ⟨id, off + ((j : Nat) : Int).toNat * 4, none⟩)) else none) = _
      rw [if_pos (by omega)]
      simp
    refine w_rdPA (x4.some gid) hle' ?_
    rw [ht4]
    refine n_var rfl rfl rfl fun h5 x5 l5 g5 => ?_
    have g5 : h5[h4.length]? = some (.row [.string (bs ee.1), .int .i64 k', .string (bs n'), .slice a' l' cp'] true) := g5
    refine w_offP (w_rdP g5 (v := .string (bs ee.1)) rfl (w_offP (w_rdP ((x4.trans x5).some g13) (v := .string (bs root)) rfl (w_seql ?_))))
    refine c_dec (fun r2 => ?_) (fun r2 => ?_)
    · have m5 := m3.ext ok (x4.trans x5)
      have hmc : 0 < w.length → MC c ee.2 (0 + 1) := fun hlt => model67 ok hx.nd hx.ok _ 1 rfl hlt _ ee.2 rfl (hx.ok ee (List.mem_of_getElem? hel)).2 (hx.ok ee (List.mem_of_getElem? hel)).1
      refine element48 (c := c) ok hel (a := 0) (Nat.zero_le _) hmc _ h5 _ m5 fun u6 h6 v6 i6 m6 x6 s6 hi6 nu6 b6 => ?_
      refine w_lenSl ?_
      refine b6.rd (j := w.length) (Nat.le_refl _) fun t ht => ?_
      refine k t h6 ⟨Nat.le_trans (X3.trans (x4.trans x5)).len x6.len, fun y hy => ?_⟩ (ht.trans ?_)
      · rw [x6.get y (Nat.lt_of_lt_of_le hy (X3.trans (x4.trans x5)).len) (by show y ≠ h1.length; omega)]
        exact (X3.trans (x4.trans x5)).get y hy
      · constructor
        · intro hst
          exact ⟨j, (fd_iff hx.nd root j).2 ⟨ee, hel, r2⟩, by show j < l.length; omega, hst⟩
        · rintro ⟨k1, hf, _, hst⟩
          have := (fd_iff hx.nd root j).2 ⟨ee, hel, r2⟩
          have : (k1 : Int) = (j : Int) := hf.symm.trans this
          have : k1 = j := by omega
          subst this
          exact hst
    · refine w_add (by omega) (by omega) (ih (l.length - (j + 1)) _ _ (by omega) ⟨j + 1, by omega, rfl, e1, e2, e5, e14, e15, rfl, x4.trans x5, fun j' e' h1 h2 => ?_⟩)
      by_cases ej : j' = j
      · subst ej
        rw [hel] at h2
        cases h2
        exact r2
      · exact hno j' e' (by omega) h2
  · refine k false h4 (X3.trans x4) ⟨fun h => absurd h Bool.false_ne_true, ?_⟩
    rintro ⟨k1, hf, _, _⟩
    obtain ⟨e', h1, h2⟩ := (fd_iff hx.nd root k1).1 hf
    have : k1 < l.length := get_lt h1
    exact absurd h2 (hno k1 e' (by omega) h1)
end Go.Proofs.Ytlenlhlipmkeeaa.W
end

section
/- Schema's laws: the document's tree: whether a part of a word is an element's. Conditions: none. -/
namespace Go.Proofs.Ytlenlhlipmkeeaa.W
open Go Go.AM SchM
set_option linter.unusedVariables false
set_option maxRecDepth 100000
theorem partners_get {T : Nat} {w : List Int} {i : Nat} (hi : i < w.length) : (partners T w)[i]? = some ((mrun T w w.length).1 i) := by
  unfold partners
  rw [List.getElem?_map, List.getElem?_range hi]
  rfl
end Go.Proofs.Ytlenlhlipmkeeaa.W
end

section
/- Schema's laws: the document's Has. Conditions: none. -/
namespace Go.Proofs.Ytlenlhlipmkeeaa.W
open Go Go.AM SchM
set_option linter.unusedVariables false
set_option maxRecDepth 100000
theorem fd_bnd (x : W × List (W × Mdl)) (n : W) : -1 ≤ (scOf x).fd n ∧ (scOf x).fd n < x.2.length := by
  show -1 ≤ (x.2.findIdx? (fun e => decide (e.1 = n))).elim (-1) (fun i => (i : Int)) ∧ (x.2.findIdx? (fun e => decide (e.1 = n))).elim (-1) (fun i => (i : Int)) < _
  cases hf : x.2.findIdx? (fun e => decide (e.1 = n)) with
  | none => exact ⟨Int.le_refl _, by show (-1 : Int) < _; omega⟩
  | some i =>
    rw [List.findIdx?_eq_some_iff_getElem] at hf
    obtain ⟨hi, _⟩ := hf
    exact ⟨by show (-1 : Int) ≤ (i : Int); omega, by show (i : Int) < _; omega⟩
end Go.Proofs.Ytlenlhlipmkeeaa.W
end

section
/- Schema's laws: words of numbers; a word that is whole. Conditions: none. -/
namespace Go.Proofs.Ytlenlhlipmkeeaa.W
open Go Go.AM SchM
set_option linter.unusedVariables false
set_option maxRecDepth 100000
theorem within51 (a n : Int) (h : AH) (K : Value → AH → Prop) (h1 : 0 < n) (h2 : n ≤ 1152921504606846976)
   (k : K (.int .i64 (a % n)) h) : callW Try.prog 51 [.int .i64 a, .int .i64 n] h K := by
  obtain ⟨_, q1, q2, q3, q4⟩ := tmod_emod a n h1
  refine c51 ?_
  unfold s51
  refine w_tmod (by omega) ?_
  generalize hm : a.tmod n = m at *
  (repeat' (with_reducible first | refine w_lss ?_ | refine w_leq ?_ | refine w_gtr ?_ | refine w_geq ?_ | refine w_eql ?_ | refine w_neq ?_ | refine w_lenSl ?_ | refine w_lenStr ?_ | refine w_not ?_ | refine w_add (by omega) (by omega) ?_ | refine w_sub (by omega) (by omega) ?_ | refine w_rem (by omega) (by omega) ?_ | refine w_quo (by omega) (by omega) (by omega) ?_ | refine w_seql ?_ | refine w_sneq ?_ | refine c_t ?_ | refine c_f ?_ | refine c_tt (by first | assumption | omega) ?_ | refine c_ff (by first | assumption | omega) ?_ | refine c_dec (fun hc => ?_) (fun hc => ?_) | refine c_b (fun hc => ?_) (fun hc => ?_) | refine gc_tt ?_ | refine gc_ft ?_ | refine gc_tf ?_ | refine gc_ff ?_ | refine g_tt (by first | assumption | omega) ?_ | refine g_tf (by first | assumption | omega) ?_ | refine g_ft (by first | assumption | omega) ?_ | refine g_ff (by first | assumption | omega) ?_ | refine g_dec (fun hc => ?_) (fun hc => ?_) | refine g_decf (fun hc => ?_) (fun hc => ?_) | refine pk_t ?_ | refine pk_f ?_ | refine pk_tt (by first | assumption | omega) ?_ | refine pk_ff (by first | assumption | omega) ?_))
  · rw [q1 (by assumption)]; exact k
  · rw [q2 (by assumption)]; exact k
def wordOf (Lg : Nat) (ns : List Int) (most : Nat) : List Int := (ns.take most).map fun n => n % (Lg : Int)
theorem wordOf_len (Lg : Nat) (ns : List Int) (most : Nat) : (wordOf Lg ns most).length ≤ most := by
  unfold wordOf
  rw [List.length_map, List.length_take]
  omega
set_option maxHeartbeats 1000000 in
theorem word24 {h : AH} {vl vn : Value} {Lg : Nat} {csl : List Value} {ns : List Int} {most : Nat} {K : Value → AH → Prop} (hl : Sl 2 h vl Lg csl) (hL : 0 < Lg ∧ Lg ≤ 1000000000000) (hn : Ints h vn ns) (hm : most ≤ 1000)
    (k : ∀ v h', Ex h h' → OwnG 1 (fun j => h.length ≤ j) h' v (wordOf Lg ns most).length (flat eI (wordOf Lg ns most)) → K v h') : callW Try.prog 24 [vl, vn, .int .i64 (most : Nat)] h K := by
  have hr40 : (1000000000000 : Nat) < room40 := by decide
  refine c24 ?_
  unfold s24
  refine loopE_intro (fun mm e h2 => ∃ (j : Nat) (v7 : Value), j ≤ most ∧ j ≤ ns.length ∧ mm = most - j ∧ e 0 = vl ∧ e 1 = vn ∧ e 2 = .int .i64 (most : Nat) ∧ e 7 = v7 ∧ e 8 = .int .i64 (j : Nat) ∧ Ex h h2 ∧ OwnG 1 (fun j => h.length ≤ j) h2 v7 (wordOf Lg ns j).length (flat eI (wordOf Lg ns j))) most
    ⟨0, _, Nat.zero_le _, Nat.zero_le _, rfl, rfl, rfl, rfl, rfl, rfl, Ex.refl _, OwnG.nil _ _ _⟩ ?_
  rintro I mm e h2 ⟨j, v7, hj1, hj2, hmm, e0, e1, e2, e7, e8, x2, o⟩ ih
  rw [e0, e1, e2, e7, e8]
  have fin : ¬ (j < ns.length ∧ j < most) → K v7 h2 := by
    intro hno
    have e9 : ns.take j = ns.take most := by
      by_cases hq : j < most
      · rw [List.take_of_length_le (by omega), List.take_of_length_le (by omega)]
      · rw [show j = most by omega]
    have e10 : wordOf Lg ns j = wordOf Lg ns most := by unfold wordOf; rw [e9]
    rw [e10] at o
    exact k v7 h2 x2 o
  refine w_len (hn.ex x2) (w_lss ?_)
  by_cases q1 : ((j : Nat) : Int) < ((ns.length : Nat) : Int)
  · refine g_tt q1 (g_tt q1 (g_tt q1 (w_lss (pk_tt q1 (c_dec (fun q2 => ?_) (fun q2 => fin (fun h => by omega)))))))
    obtain ⟨z, hz⟩ := getElem?_of_lt (l := ns) (i := j) (by omega)
    refine w_idxN (enc := eI) eI_len (hn.ex x2) hz fun pp hpp => w_rd1 hpp (x := .int .i64 z) rfl (w_len (hl.ex x2) ?_)
    refine within51 _ _ _ _ (by omega) (by omega) ?_
    refine w_some (bldSl_one (v := .int .i64 (z % (Lg : Int))) rfl (by decide) rfl rfl) ?_
    refine n_newv fun h3 x3 l3 g3 => ?_
    have hlen := wordOf_len Lg ns j
    refine appSl_of (app_g (by decide) (o.mono (F' := fun j => h.length ≤ j) (h' := h3) (fun _ _ h => h) fun j hj _ => x3.get j (o.on hj).2) (srcL_new (n := 1) (s := 1) g3 (by decide) rfl) rfl (by omega) fun v' h4 a1 a2 a3 a4 => w_add (by omega) (by omega) ?_)
    have hx2 := x2.len
    refine ih (most - (j + 1)) _ _ (by omega) ⟨j + 1, v', by omega, by omega, rfl, e0, e1, e2, rfl, rfl, ⟨by omega, fun y hy => ?_⟩, ?_⟩
    · rw [a3 y (by omega) (fun hon => by have := (o.on hon).1; omega), x3.get y (by omega)]
      exact x2.get y hy
    · have e9 : wordOf Lg ns (j + 1) = wordOf Lg ns j ++ [z % (Lg : Int)] := by
        unfold wordOf
        rw [take_succ_get hz, List.map_append]
        rfl
      rw [e9, flat_append, List.length_append]
      exact a1.mono (fun y hy hF => hF.elim (fun h => h) fun hh => by show h.length ≤ y; omega) fun _ _ _ => rfl
  · exact g_tf q1 (g_tf q1 (g_tf q1 (pk_ff q1 (c_f (fin (fun h => by omega))))))
set_option maxHeartbeats 1000000 in
theorem whole25 {h : AH} {x : W × List (W × Mdl)} {vl vw_ : Value} {w : List Int} {K : Value → AH → Prop} (hl : SlT 2 eSy h vl (symsOf x)) (hw : SlT 1 eI h vw_ w) (hn : w.length ≤ 100000000000) (hT : x.2.length ≤ 100000000000) (hin : ∀ c ∈ w, 0 ≤ c ∧ c ≤ 2 * (x.2.length : Int))
    (hwh : ∀ i, i < w.length → 0 ≤ (mrun x.2.length w w.length).1 i ∨ w[i]? = some (2 * (x.2.length : Int))) (k : ∀ h', Ex h h' → K (.bool true) h') : callW Try.prog 25 [vl, vw_] h K := by
  refine c25 ?_
  unfold s25
  refine match50 hl hw hn hT hin fun v9 h1 x1 p1 => ?_
  refine loopE_intro (fun mm e h2 => ∃ (j : Nat), j ≤ w.length ∧ mm = w.length - j ∧ e 0 = vl ∧ e 1 = vw_ ∧ e 5 = v9 ∧ e 6 = .int .i64 (j : Nat) ∧ h2 = h1) w.length
    ⟨0, Nat.zero_le _, rfl, rfl, rfl, rfl, rfl, rfl⟩ ?_
  rintro I mm e h2 ⟨j, hj, hmm, e0, e1, e5, e6, rfl⟩ ih
  rw [e0, e1, e5, e6]
  refine w_len (hw.ex x1) (w_lss (c_dec (fun q => ?_) (fun q => k _ x1)))
  have next : ∀ E : Env, E 0 = vl → E 1 = vw_ → E 5 = v9 → E 6 = .int .i64 ((j + 1 : Nat) : Int) → I E h2 := fun E h0 h1 h5 h6 => ih (w.length - (j + 1)) _ _ (by omega) ⟨j + 1, by omega, rfl, h0, h1, h5, h6, rfl⟩
  obtain ⟨c, hc⟩ := getElem?_of_lt (l := w) (i := j) (by omega)
  obtain ⟨hc0, hc1⟩ := hin c (List.mem_of_getElem? hc)
  refine w_idxN (enc := eI) eI_len p1 (partners_get (by omega)) fun pp hpp => w_rd1 hpp (x := .int .i64 ((mrun x.2.length w w.length).1 j)) rfl (w_lss ?_)
  by_cases q1 : (mrun x.2.length w w.length).1 j < 0
  · have hc2 : c = 2 * (x.2.length : Int) := by
      rcases hwh j (by omega) with h | h
      · omega
      · rw [hc] at h
        exact Option.some.inj h
    obtain ⟨nm, kd, hs1, hs2, _⟩ := sym_kind hc0 hc1
    rw [if_pos hc2] at hs2
    subst hs2
    refine g_tt q1 (g_tt q1 (g_tt q1 (g_tt q1 ?_)))
    refine w_idxN (enc := eI) eI_len (hw.ex x1) hc fun pp hpp => ?_
    refine g_tt q1 ?_
    refine w_rd1 hpp (x := .int .i64 c) rfl ?_
    refine g_tt q1 ?_
    refine w_idxT (enc := eSy) eSy_len (hl.ex x1) hc0 hs1 fun p hp => ?_
    refine g_tt q1 ?_
    refine w_off hp (by show 1 ≤ 2; decide) fun p2 hp2 => ?_
    refine g_tt q1 ?_
    refine w_rd1 hp2 (x := .int .i64 3) rfl ?_
    have t3 : ¬ ¬ ((3 : Int) = 3) := fun h => h rfl
    exact g_tt q1 (w_neq (pk_tt q1 (c_ff t3 (w_add (by omega) (by omega) (next _ e0 e1 e5 rfl)))))
  · exact g_tf q1 (g_tf q1 (g_tf q1 (g_tf q1 (g_tf q1 (g_tf q1 (g_tf q1 (g_tf q1 (g_tf q1 (pk_ff q1 (c_f (w_add (by omega) (by omega) (next _ e0 e1 e5 rfl))))))))))))
end Go.Proofs.Ytlenlhlipmkeeaa.W
end

section
/- Schema's laws: words that grow of numbers: an element's. Conditions: none. -/
namespace Go.Proofs.Ytlenlhlipmkeeaa.W
open Go Go.AM SchM
set_option linter.unusedVariables false
set_option maxRecDepth 100000
structure Grw (hb h0 : AH) (X : Nat) (ns : List Int) (v0 v1 : Value) (h : AH) (a : Nat) (v : Value) (w : List Int) : Prop where
  c : Chg (At X) h0 (At X) h
  mh : MkH hb h X [] ns v0 v1 a
  o : OwnG 1 (fun j => h0.length ≤ j) h v w.length (flat eI w)
  X : X < h0.length
section
variable {hb h0 h h' : AH} {X : Nat} {ns : List Int} {v0 v1 v : Value} {a : Nat} {w : List Int}
theorem MkH.step (m : MkH hb h X [] ns v0 v1 a) (hl : h.length ≤ h'.length) (hs : ∀ j, j < h0.length → h'[j]? = h[j]?) (hX : X < h0.length) : MkH hb h' X [] ns v0 v1 a :=
  ⟨(hs X hX).trans m.row, m.n0, m.n1, ⟨Nat.le_trans m.x.len hl, fun j hj => (hs j (by have := m.X; omega)).trans (m.x.get j hj)⟩, m.X⟩
theorem Grw.start (m : MkH hb h X [] ns v0 v1 a) : Grw hb h X ns v0 v1 h a (.slice none 0 0) [] := ⟨Chg.refl _ _, m, OwnG.nil _ _ _, m.lt⟩
theorem Grw.ext (g : Grw hb h0 X ns v0 v1 h a v w) (x : Ex h h') : Grw hb h0 X ns v0 v1 h' a v w :=
  ⟨g.c.trans (Chg.ex x), g.mh.ex x, g.o.mono (fun _ _ h => h) fun j hj _ => x.get j (g.o.on hj).2, g.X⟩
theorem Grw.chg {a' : Nat} (g : Grw hb h0 X ns v0 v1 h a v w) (c : Chg (At X) h (At X) h') (m : MkH hb h' X [] ns v0 v1 a') : Grw hb h0 X ns v0 v1 h' a' v w :=
  ⟨g.c.trans c, m, g.o.mono (fun _ _ h => h) fun j hj hF => c.get j (g.o.on hj).2 (fun e => by have e : j = X := e; have := g.X; omega), g.X⟩
theorem Grw.low {hs : AH} (g : Grw hb h0 X ns v0 v1 h a v w) (x : Ex hs h0) (hX : X < hs.length) : Grw hb hs X ns v0 v1 h a v w :=
  ⟨(Chg.ex x).trans g.c, g.mh, g.o.mono (fun j _ hj => Nat.le_trans x.len hj) fun _ _ _ => rfl, hX⟩
theorem Grw.app {x : Value} {u : List Int} {K : Value → AH → Prop} (g : Grw hb h0 X ns v0 v1 h a v w) (hx : Sl 1 h x u.length (flat eI u)) (hn : w.length + u.length ≤ 1000000000000)
    (k : ∀ v' h', Grw hb h0 X ns v0 v1 h' a v' (w ++ u) → K v' h') : appSl 1 v x h K := by
  have hr40 : (1000000000000 : Nat) < room40 := by decide
  refine appSl_sl hx (app_g (by decide) g.o (srcL_sl (by decide) hx) (by rw [flat_length eI_len]) (by omega) fun v' h' a1 a2 a3 a4 => ?_)
  have lo : h0.length ≤ h.length := g.c.len
  have same : ∀ j, j < h0.length → h'[j]? = h[j]? := fun j hj => a3 j (by omega) fun hon => by have := (g.o.on hon).1; omega
  refine k v' h' ⟨⟨Nat.le_trans lo a2, fun j hj hjX => (same j hj).trans (g.c.get j hj hjX), fun j hj => .inl hj⟩, g.mh.step a2 same g.X, ?_, g.X⟩
  rw [flat_append, List.length_append]
  exact a1.mono (fun j hj hF => hF.elim (fun h => h) fun e => by show h0.length ≤ j; omega) fun _ _ _ => rfl
theorem Grw.one {z : Int} {K : Value → AH → Prop} (g : Grw hb h0 X ns v0 v1 h a v w) (hn : w.length + 1 ≤ 1000000000000) (k : ∀ v' h', Grw hb h0 X ns v0 v1 h' a v' (w ++ [z]) → K v' h') :
    optW (bldSl 1 [(.int .i64 0)] 1 [(0, .int .i64 z)]) fun c => newW none (.row c true) h fun i h2 => appSl 1 v (.slice (some ⟨i, 0, none⟩) 1 1) h2 fun v' h' => K v' h' := by
  refine w_some (bldSl_one (v := .int .i64 z) rfl (by decide) rfl rfl) ?_
  refine n_newv fun h2 x2 l2 g2 => ?_
  have hs : Sl 1 h2 (.slice (some ⟨h.length, 0, none⟩) 1 1) [z].length (flat eI [z]) := ⟨rfl, .inr ⟨h.length, 0, 1, rfl, .inl ⟨by decide, Nat.le_refl _⟩, .inr ⟨_, true, g2, Nat.le_refl _, rfl⟩⟩⟩
  exact (g.ext x2).app hs hn k
structure Rs (hb h0 : AH) (X : Nat) (ns : List Int) (v0 v1 : Value) (h : AH) (a : Nat) (v : Value) (w : List Int) : Prop where
  c : Chg (At X) h0 (At X) h
  mh : MkH hb h X [] ns v0 v1 a
  sl : Sl 1 h v w.length (flat eI w)
  on : ∀ j, onId v j → h0.length ≤ j
theorem Grw.rs (g : Grw hb h0 X ns v0 v1 h a v w) : Rs hb h0 X ns v0 v1 h a v w := ⟨g.c, g.mh, g.o.sl, fun j hj => (g.o.on hj).1⟩
theorem Rs.low {hs : AH} (g : Rs hb h0 X ns v0 v1 h a v w) (x : Ex hs h0) : Rs hb hs X ns v0 v1 h a v w := ⟨(Chg.ex x).trans g.c, g.mh, g.sl, fun j hj => Nat.le_trans x.len (g.on j hj)⟩
def App1 (b : Nat) (h : AH) (v : Value) (w : List Int) : Prop := (∃ i, v = .slice (some ⟨i, 0, none⟩) 1 1 ∧ b ≤ i ∧ w.length = 1 ∧ h[i]? = some (.row (flat eI w) true)) ∨ OwnG 1 (fun j => b ≤ j) h v w.length (flat eI w)
theorem app_l1 {z : Int} {x : Value} {u : List Int} {b : Nat} {K : Value → AH → Prop} (hb : b ≤ h.length) (hx : Sl 1 h x u.length (flat eI u)) (hn : u.length < 1000000000000)
    (k : ∀ v' h', Ex h h' → App1 b h' v' ([z] ++ u) → K v' h') : optW (bldSl 1 [(.int .i64 0)] 1 [(0, .int .i64 z)]) fun c => newW none (.row c true) h fun i h2 => appSl 1 (.slice (some ⟨i, 0, none⟩) 1 1) x h2 fun v' h' => K v' h' := by
  have hr40 : (1000000000000 : Nat) < room40 := by decide
  have ho40 : (1000000000000 : Nat) < openCap := by decide
  refine w_some (bldSl_one (v := .int .i64 z) rfl (by decide) rfl rfl) ?_
  refine n_newv fun h2 x2 l2 g2 => ?_
  have g2 : h2[h.length]? = some (.row [.int .i64 z] true) := g2
  have hx2 := hx.ex x2
  have hsrc := srcL_sl (by decide) hx2
  refine appSl_sl hx2 (.inl ?_)
  by_cases h0 : u.length = 0
  · have hu : u = [] := List.eq_nil_of_length_eq_zero h0
    subst hu
    have : pAppS 1 (.slice (some ⟨h.length, 0, none⟩) 1 1) x h2 = some (.slice (some ⟨h.length, 0, none⟩) (1 + 0) 1, h2) := by
      unfold pAppS
      simp only [hsrc]
      rw [if_pos (by simp; omega), if_pos (by omega)]
      simp [pAppEx, stAt, flat]
    rw [this]
    exact k _ _ x2 (.inl ⟨h.length, rfl, hb, rfl, g2⟩)
  · have : pAppS 1 (.slice (some ⟨h.length, 0, none⟩) 1 1) x h2 = some (.slice (some ⟨h2.length, 0, none⟩) (1 + u.length) (openCap + 1), h2 ++ [AObj.row ([.int .i64 z] ++ flat eI u) true]) := by
      unfold pAppS
      simp only [hsrc]
      rw [if_pos (by omega), if_pos (by omega)]
      simp only [pAppEx]
      rw [if_neg (by omega)]
      simp [firstL, g2]
    rw [this]
    refine k _ _ (x2.trans (.app _ _)) (.inr ⟨flat_length eI_len _, .inr ⟨h2.length, _, by show b ≤ h2.length; omega, by show _ = Value.slice _ ([z] ++ u).length _; rw [List.length_append]; rfl, get_new _ _, ?_, ?_⟩⟩)
    · show ([z] ++ u).length * 1 ≤ (flat eI [z] ++ flat eI u).length
      rw [← flat_append, flat_length eI_len]
      exact Nat.le_refl _
    · show (flat eI [z] ++ flat eI u).take _ = _
      rw [← flat_append, List.take_of_length_le (by rw [flat_length eI_len]; exact Nat.le_refl _)]
theorem app_l2 {z : Int} {x : Value} {u : List Int} {b : Nat} {K : Value → AH → Prop} (hb : b ≤ h.length) (hx : App1 b h x u) (hn : u.length < 1000000000000)
    (k : ∀ v' h', h.length ≤ h'.length → (∀ j, j < b → h'[j]? = h[j]?) → OwnG 1 (fun j => b ≤ j) h' v' (u ++ [z]).length (flat eI (u ++ [z])) → K v' h') : optW (bldSl 1 [(.int .i64 0)] 1 [(0, .int .i64 z)]) fun c => newW none (.row c true) h fun i h2 => appSl 1 x (.slice (some ⟨i, 0, none⟩) 1 1) h2 fun v' h' => K v' h' := by
  have hr40 : (1000000000000 : Nat) < room40 := by decide
  have ho40 : (1000000000000 : Nat) < openCap := by decide
  refine w_some (bldSl_one (v := .int .i64 z) rfl (by decide) rfl rfl) ?_
  refine n_newv fun h2 x2 l2 g2 => ?_
  have g2 : h2[h.length]? = some (.row [.int .i64 z] true) := g2
  have hsrc := srcL_new (n := 1) (s := 1) (cap := 1) g2 (by decide) rfl
  rcases hx with ⟨i, rfl, hbi, hu, gi⟩ | o
  · refine appSl_of (.inl ?_)
    have gi2 := x2.some gi
    have : pAppS 1 (.slice (some ⟨i, 0, none⟩) 1 1) (.slice (some ⟨h.length, 0, none⟩) 1 1) h2 = some (.slice (some ⟨h2.length, 0, none⟩) (1 + 1) (openCap + 1), h2 ++ [AObj.row (flat eI u ++ [.int .i64 z]) true]) := by
      unfold pAppS
      simp only [hsrc]
      rw [if_pos (by omega), if_pos (by omega)]
      simp only [pAppEx]
      rw [if_neg (by omega)]
      have e1 : (flat eI u).length = 1 := by rw [flat_length eI_len, hu]
      simp [firstL, gi2, e1]
      rw [List.take_of_length_le (by omega)]
    rw [this]
    refine k _ _ (by simp; omega) (fun j hj => ?_) ⟨flat_length eI_len _, .inr ⟨h2.length, _, by show b ≤ h2.length; omega, by rw [List.length_append, hu]; rfl, get_new _ _, ?_, ?_⟩⟩
    · rw [List.getElem?_append_left (by omega)]
      exact x2.get j (by omega)
    · show (u ++ [z]).length * 1 ≤ (flat eI u ++ flat eI [z]).length
      rw [← flat_append, flat_length eI_len]
      exact Nat.le_refl _
    · show (flat eI u ++ flat eI [z]).take _ = _
      rw [← flat_append, List.take_of_length_le (by rw [flat_length eI_len]; exact Nat.le_refl _)]
  · refine appSl_of (app_g (by decide) (o.mono (F' := fun j => b ≤ j) (h' := h2) (fun _ _ h => h) fun j hj _ => x2.get j (o.on hj).2) hsrc rfl (by omega) fun v' h3 a1 a2 a3 a4 => ?_)
    refine k v' h3 (by omega) (fun j hj => ?_) ?_
    · rw [a3 j (by omega) (fun hon => by have := (o.on hon).1; omega)]
      exact x2.get j (by omega)
    · rw [flat_append, List.length_append]
      exact a1.mono (fun j hj hF => hF.elim (fun h => h) fun e => by show b ≤ j; omega) fun _ _ _ => rfl
end
def Bt : Nat → Nat
  | 0 => 0
  | D + 1 => (Bt D + 4) * 64 + 2
structure GCtx where
  hb : AH
  X : Nat
  ns : List Int
  v0 : Value
  v1 : Value
  x : W × List (W × Mdl)
  sv : Value
structure GOK (g : GCtx) : Prop where
  hx : Hok g.x
  s : SM g.hb g.x g.sv
  B : ∀ C, ∀ e ∈ g.x.2, cst C e.2 ≤ (C + 4) * 64
abbrev GCtx.Mk (g : GCtx) (h : AH) (a : Nat) : Prop := MkH g.hb h g.X [] g.ns g.v0 g.v1 a
abbrev GCtx.Rs (g : GCtx) (h0 h : AH) (a : Nat) (v : Value) (w : List Int) : Prop := Go.Proofs.Ytlenlhlipmkeeaa.W.Rs g.hb h0 g.X g.ns g.v0 g.v1 h a v w
abbrev GCtx.Gr (g : GCtx) (h0 h : AH) (a : Nat) (v : Value) (w : List Int) : Prop := Grw g.hb h0 g.X g.ns g.v0 g.v1 h a v w
def TreeC (g : GCtx) (D : Nat) : Prop := ∀ (h : AH) (a : Nat) (nm : W) (K : Value → AH → Prop), g.Mk h a → a + Bt D ≤ 100000000000 →
  (∀ v w (is : Bool) h' a', g.Rs h h' a' v w → a' ≤ a + Bt D → w.length ≤ Bt D → (is = true → ∃ k : Nat, (scOf g.x).fd nm = k ∧ k < g.x.2.length ∧ WT (scOf g.x) k w) → K (.tuple #[v, .bool is]) h') →
  callW Try.prog 47 [.pointer (some ⟨g.X, 0, none⟩), g.sv, .string (bs nm), .int .i64 (D : Nat)] h K
def GrowC (g : GCtx) (D : Nat) (md : Mdl) : Prop := ∀ (h : AH) (a : Nat) (mv : Value) (K : Value → AH → Prop), g.Mk h a → MH g.hb (fun j => j < g.hb.length) md mv → a + cst (Bt D) md ≤ 100000000000 →
  (∀ v w (is : Bool) h' a', g.Rs h h' a' v w → a' ≤ a + cst (Bt D) md → w.length ≤ cst (Bt D) md → (is = true → WM (scOf g.x) md w) → K (.tuple #[v, .bool is]) h') →
  callW Try.prog 65 [.pointer (some ⟨g.X, 0, none⟩), g.sv, mv, .int .i64 (D : Nat)] h K
theorem tree47 {g : GCtx} (ok : GOK g) {D : Nat} (hD : D ≤ 100) (hg : ∀ D', D = D' + 1 → ∀ e ∈ g.x.2, GrowC g D' e.2) : TreeC g D := by
  intro h a nm K m hB k
  have hT := ok.hx.T
  obtain ⟨La, Lc, Lcs, hsv, Lsl, Lel⟩ := id ok.s
  refine c47 ?_
  unfold s47
  rw [hsv]
  refine n_boxv rfl fun h1 x1 l1 g1 => ?_
  have g1 : h1[h.length]? = some (.row [.string (bs g.x.1), .slice La g.x.2.length Lc] true) := g1
  have xb := m.x
  have nothing : ∀ h', Ex h h' → K (.tuple #[.slice none 0 0, .bool false]) h' := fun h' x' => k _ [] false h' a ((Grw.start m).ext x').rs (Nat.le_add_right _ _) (Nat.zero_le _) fun h => absurd h Bool.false_ne_true
  refine w_rdPA g1 (Nat.le_refl 2) ?_
  have s1 : SM h1 g.x (.agg #[.string (bs g.x.1), .slice La g.x.2.length Lc]) := by rw [← hsv]; exact ok.s.ex (xb.trans x1)
  refine find44x s1 hT fun h2 x2 => ?_
  have bnd := fd_bnd g.x nm
  refine w_leq ?_
  by_cases q1 : ((D : Nat) : Int) ≤ 0
  · exact g_ft q1 (g_ft q1 (pk_tt q1 (c_t (nothing h2 (x1.trans x2)))))
  refine g_ff q1 (g_ff q1 (w_lss (pk_ff q1 (c_dec (fun q2 => nothing h2 (x1.trans x2)) (fun q2 => ?_)))))
  obtain ⟨D', rfl⟩ : ∃ D', D = D' + 1 := ⟨D - 1, by omega⟩
  obtain ⟨kN, hkN⟩ : ∃ kN : Nat, (scOf g.x).fd nm = (kN : Int) := ⟨((scOf g.x).fd nm).toNat, by omega⟩
  have hkT : kN < g.x.2.length := by omega
  obtain ⟨el, hel⟩ := getElem?_of_lt (l := g.x.2) (i := kN) hkT
  have hmem := List.mem_of_getElem? hel
  obtain ⟨k1, n1, a1, ll, cp1, ecs, mh⟩ := EL.get _ _ Lel kN el hel
  refine w_rdPA (x2.some g1) (Nat.le_refl 2) (w_offP (w_rdP (x2.some g1) (v := .slice La g.x.2.length Lc) rfl ?_))
  rw [hkN]
  refine w_idx (Lsl.ex (xb.trans (x1.trans x2))) (by omega) (by omega) fun p hp => ?_
  rw [Int.toNat_natCast, ecs] at hp
  refine w_off hp (by show 1 ≤ 4; decide) fun p' hp' => w_rdA hp' rfl (w_sub (by omega) (by omega) ?_)
  have eD : ((D' + 1 : Nat) : Int) - 1 = (D' : Nat) := by omega
  rw [eD]
  have hc := ok.B (Bt D') el hmem
  have hBt : Bt (D' + 1) = (Bt D' + 4) * 64 + 2 := rfl
  have m2 := m.ex (x1.trans x2)
  have hgr := hg D' rfl el hmem h2 a (.agg #[.int .i64 k1, .string (bs n1), .slice a1 ll cp1])
  rw [hsv] at hgr
  refine hgr _ m2 mh (by omega) fun v w is h5 a' gr ha' hw' his => ?_
  refine w_some (v := v) rfl ?_
  refine w_some (v := .bool is) rfl ?_
  refine w_mul (by omega) (by omega) ?_
  have lo := gr.c.len
  have hlt := m.lt
  refine app_l1 (b := h2.length) lo gr.sl (by omega) fun v40 h7 x7 ap => ?_
  refine w_mul (by omega) (by omega) (w_add (by omega) (by omega) ?_)
  refine app_l2 (b := h2.length) (by have := x7.len; omega) ap (by rw [List.length_append]; show 1 + w.length < _; omega) fun v45 h9 l9 s9 o9 => ?_
  have low9 : ∀ j, j < h2.length → h9[j]? = h5[j]? := fun j hj => (s9 j hj).trans (x7.get j (by omega))
  have h2X : g.X < h2.length := m2.lt
  refine k v45 _ is h9 a' (Grw.rs (Grw.low ⟨⟨by have := x7.len; omega, fun j hj hjX => (low9 j hj).trans (gr.c.get j hj hjX), fun j hj => .inl hj⟩, gr.mh.step (h0 := h2) (by have := x7.len; omega) low9 h2X, o9, h2X⟩ (x1.trans x2) hlt)) (by omega) ?_ fun hi => ⟨kN, hkN, hkT, ?_⟩
  · rw [List.length_append, List.length_append]
    show 1 + w.length + 1 ≤ _
    omega
  · have hwm := his hi
    have ems : (scOf g.x).ms kN = el.2 := by show (g.x.2[kN]?.map (·.2)).getD _ = _; rw [hel]; rfl
    rw [← ems] at hwm
    exact tree_word hkT hwm
end Go.Proofs.Ytlenlhlipmkeeaa.W
end

section
/- Schema's laws: words that grow of numbers: a model's. Conditions: none. -/
namespace SchM
theorem WM.seq0 {s : Sc} {n : W} : WR (fun w => MSeq s.fd s.T (Stw s w) []) [] := WR.nil fun w i => by rw [MSeq]
theorem WM.seqS {s : Sc} {l : List Mdl} {m : Mdl} {v u : List Int} (h1 : WR (fun w => MSeq s.fd s.T (Stw s w) l) v) (h2 : WM s m u) : WR (fun w => MSeq s.fd s.T (Stw s w) (l ++ [m])) (v ++ u) :=
  h1.app (fun w i k j a b => (MSeq_snoc _ _ _ _).2 ⟨k, a, b⟩) h2
theorem WM.rep0 {s : Sc} {m : Mdl} : WR (fun w => RT (MR s.fd s.T (Stw s w) m)) [] := WR.nil fun w i => .nil i
theorem WM.repS {s : Sc} {m : Mdl} {v u : List Int} (h1 : WR (fun w => RT (MR s.fd s.T (Stw s w) m)) v) (h2 : WM s m u) : WR (fun w => RT (MR s.fd s.T (Stw s w) m)) (v ++ u) :=
  h1.app (fun w i k j a b => a.snoc b) h2
theorem MOr_mem {fd : W → Int} {T : Nat} {S : Stp} {m : Mdl} {i j : Nat} (h : MR fd T S m i j) : ∀ {l : List Mdl}, m ∈ l → MOr fd T S l i j
  | [], hm => by cases hm
  | a :: l, hm => by
    rw [MOr]
    rcases List.mem_cons.1 hm with rfl | hm
    · exact .inl h
    · exact .inr (MOr_mem h hm)
end SchM
namespace Go.Proofs.Ytlenlhlipmkeeaa.W
open Go Go.AM SchM
set_option linter.unusedVariables false
set_option maxRecDepth 100000
theorem MRk {s : Sc} {w : List Int} {k : Int} {n : W} {l : List Mdl} {i j : Nat} (h : (k = 1 ∧ i = j) ∨ (k = 2 ∧ RT (Any (Stw s w)) i j) ∨ (k = 3 ∧ Stw s w s.T i j) ∨ (k = 4 ∧ ∃ c : Nat, s.fd n = c ∧ Stw s w c i j) ∨ (k = 5 ∧ MSeq s.fd s.T (Stw s w) l i j) ∨ (k = 6 ∧ MOr s.fd s.T (Stw s w) l i j) ∨
      (k = 7 ∧ RT (MHd s.fd s.T (Stw s w) l) i j) ∨ (k = 8 ∧ ∃ m, MHd s.fd s.T (Stw s w) l i m ∧ RT (MHd s.fd s.T (Stw s w) l) m j) ∨ (k = 9 ∧ (i = j ∨ MHd s.fd s.T (Stw s w) l i j))) : MR s.fd s.T (Stw s w) (.mk k n l) i j := by
  rw [MR]; exact h
theorem MHd1 {s : Sc} {w : List Int} {m : Mdl} : MHd s.fd s.T (Stw s w) [m] = MR s.fd s.T (Stw s w) m := by
  funext a b
  rw [MHd]
inductive Rep (s : Sc) (m : Mdl) : Nat → List Int → Prop where
  | z : Rep s m 0 []
  | s {i : Nat} {v u : List Int} : Rep s m i v → WM s m u → Rep s m (i + 1) (v ++ u)
theorem Rep.rt {s : Sc} {m : Mdl} {i : Nat} {v : List Int} (h : Rep s m i v) : WR (fun w => RT (MR s.fd s.T (Stw s w) m)) v := by
  induction h with
  | z => exact WM.rep0
  | s _ h2 ih => exact WM.repS ih h2
theorem Rep.plus {s : Sc} {m : Mdl} : ∀ {i : Nat} {v : List Int}, Rep s m i v → 0 < i → WR (fun w a b => ∃ c, MR s.fd s.T (Stw s w) m a c ∧ RT (MR s.fd s.T (Stw s w) m) c b) v
  | 0, _, _, h0 => by omega
  | i + 1, _, .s h1 h2, _ => by
    cases i with
    | zero =>
      cases h1
      rw [List.nil_append]
      exact h2.imp fun w a b h => ⟨b, h, .nil b⟩
    | succ i => exact (Rep.plus h1 (Nat.succ_pos _)).app (fun w a c b ⟨d, h3, h4⟩ h5 => ⟨d, h3, h4.snoc h5⟩) h2
theorem Rep.star {s : Sc} {m : Mdl} {n : W} {i : Nat} {v : List Int} (h : Rep s m i v) : WM s (.mk 7 n [m]) v := h.rt.imp fun w a b hr => MRk (.inr (.inr (.inr (.inr (.inr (.inr (.inl ⟨rfl, by rw [MHd1]; exact hr⟩)))))))
theorem Rep.plusM {s : Sc} {m : Mdl} {n : W} {i : Nat} {v : List Int} (h : Rep s m i v) (h0 : 0 < i) : WM s (.mk 8 n [m]) v := (h.plus h0).imp fun w a b hr => MRk (.inr (.inr (.inr (.inr (.inr (.inr (.inr (.inl ⟨rfl, by rw [MHd1]; exact hr⟩))))))))
theorem Rep.opt {s : Sc} {m : Mdl} {n : W} {i : Nat} {v : List Int} (h : Rep s m i v) (h0 : i ≤ 1) : WM s (.mk 9 n [m]) v := by
  cases h with
  | z => exact WR.nil fun w i => MRk (.inr (.inr (.inr (.inr (.inr (.inr (.inr (.inr ⟨rfl, .inl rfl⟩))))))))
  | s h1 h2 =>
    rename_i i v u
    have : i = 0 := by omega
    subst this
    cases h1
    rw [List.nil_append]
    exact h2.imp fun w a b h => MRk (.inr (.inr (.inr (.inr (.inr (.inr (.inr (.inr ⟨rfl, .inr (by rw [MHd1]; exact h)⟩))))))))
set_option maxHeartbeats 4000000 in
theorem grow65 {g : GCtx} (ok : GOK g) {D : Nat} (hD : D ≤ 100) (ht : TreeC g D) : ∀ (N : Nat) (md : Mdl), sz md ≤ N → N ≤ 100000000000 → okM md = true → GrowC g D md
  | 0, md, hN, _, _ => by have := sz_pos md; omega
  | N + 1, .mk kk n l, hN, hN2, hok => by
    intro h a mv K m hm hB k
    have hT := ok.hx.T
    obtain ⟨La, Lc, Lcs, hsv, Lsl, Lel⟩ := id ok.s
    obtain ⟨okl, cases_⟩ := okM_cases hok
    have hszl : ∀ i m', l[i]? = some m' → sz m' ≤ N := fun i m' hi => by
      have := sz_get l i m' hi
      have h2 : sz (.mk kk n l) = 1 + szL l := rfl
      omega
    have hln : l.length ≤ 100000000000 := by
      have h1 := szL_len l
      have h2 : sz (.mk kk n l) = 1 + szL l := rfl
      omega
    unfold MH at hm
    obtain ⟨sa, cp, cs, rfl, sl, _, ml⟩ := hm
    refine c65 ?_
    unfold s65
    rw [hsv]
    refine n_boxv rfl fun h1 x1 l1 g1 => ?_
    refine n_boxv rfl fun h2 x2 l2 g2 => ?_
    have G1 : h2[h.length]? = some (.row [.string (bs g.x.1), .slice La g.x.2.length Lc] true) := x2.some g1
    have G2 : h2[h1.length]? = some (.row [.int .i64 kk, .string (bs n), .slice sa l.length cp] true) := g2
    have x12 := x1.trans x2
    have hlt := m.lt
    have m2 : g.Mk h2 a := m.ex x12
    have gr0 : g.Gr h2 h2 a (.slice none 0 0) [] := Grw.start m2
    have lt1 := lt_of_get G1
    have lt2 := lt_of_get G2
    have nX1 : h.length ≠ g.X := by omega
    have nX2 : h1.length ≠ g.X := by omega
    generalize hC : cst (Bt D) (.mk kk n l) = C at *
    have kf : ∀ v w (is : Bool) h' a', g.Rs h2 h' a' v w → a' ≤ a + C → w.length ≤ C → (is = true → WM (scOf g.x) (.mk kk n l) w) → K (.tuple #[v, .bool is]) h' := fun v w is h' a' gr h3 h4 h5 => k v w is h' a' (gr.low x12) h3 h4 h5
    have box1 : ∀ {h' : AH}, Chg (At g.X) h2 (At g.X) h' → h'[h.length]? = some (.row [.string (bs g.x.1), .slice La g.x.2.length Lc] true) := fun c => (c.get _ lt1 nX1).trans G1
    have box2 : ∀ {h' : AH}, Chg (At g.X) h2 (At g.X) h' → h'[h1.length]? = some (.row [.int .i64 kk, .string (bs n), .slice sa l.length cp] true) := fun c => (c.get _ lt2 nX2).trans G2
    have part : ∀ {h5 : AH} {j : Int} {m' : Mdl} {K2 : Value → Value → Prop}, Ex g.hb h5 → 0 ≤ j → l[j.toNat]? = some m' → (∀ p mv', MH g.hb (fun j => j < g.hb.length) m' mv' → K2 p mv') →
        optW (pIdxS 3 (.slice sa l.length cp) (.int .i64 j)) fun p => optW (rdRow true 3 p h5) fun mv' => K2 p mv' := by
      intro h5 j m' K2 X5 hj0 hj k2
      have hlt := get_lt hj
      obtain ⟨cx, cy, cz, ec, mh⟩ := ML.get l cs ml j.toNat m' hj
      refine w_idx (sl.ex X5) (by omega) (by omega) fun p hp => ?_
      rw [ec] at hp
      exact w_rdA hp rfl (k2 _ _ mh)
    have rec_ : ∀ {h5 : AH} {a5 : Nat} {i : Nat} {m' : Mdl} {mv' : Value} {K2 : Value → AH → Prop}, g.Mk h5 a5 → l[i]? = some m' → MH g.hb (fun j => j < g.hb.length) m' mv' → a5 + cst (Bt D) m' ≤ 100000000000 →
        (∀ v w (is : Bool) h' a', g.Rs h5 h' a' v w → a' ≤ a5 + cst (Bt D) m' → w.length ≤ cst (Bt D) m' → (is = true → WM (scOf g.x) m' w) → K2 (.tuple #[v, .bool is]) h') →
        callW Try.prog 65 [.pointer (some ⟨g.X, 0, none⟩), .agg #[.string (bs g.x.1), .slice La g.x.2.length Lc], mv', .int .i64 (D : Nat)] h5 K2 := by
      intro h5 a5 i m' mv' K2 m5 hi mh hb5 k2
      have := grow65 ok hD ht N m' (hszl i m' hi) (by omega) (okML_get l okl m' (List.mem_of_getElem? hi)) h5 a5 mv' K2 m5 mh hb5 k2
      rw [hsv] at this
      exact this
    refine joinE_intro (fun e h' => ∃ v w a', e 10 = v ∧ g.Gr h2 h' a' v w ∧ a' ≤ a + C ∧ w.length ≤ C ∧ WM (scOf g.x) (.mk kk n l) w) ?_ ?_
    · rintro e h' ⟨v, w, a', e10, gr, h3, h4, h5⟩
      rw [e10]
      exact w_len gr.o.sl (w_lss (kf v w _ h' a' gr.rs h3 h4 fun _ => h5))
    intro J hJ
    refine w_offP (w_rdP G2 (v := .int .i64 kk) rfl (w_eql ?_))
    refine c_dec (fun q => ?_) (fun q3 => ?_)
    · refine w_offP (w_rdP G1 (v := .slice La g.x.2.length Lc) rfl (w_lenSl (w_mul (by omega) (by omega) ?_)))
      refine w_some (bldSl_one (v := .int .i64 (2 * ((g.x.2.length : Nat) : Int))) rfl (by decide) rfl rfl) ?_
      refine n_newv fun h3 x3 l3 g3 => ?_
      have hs : Sl 1 h3 (.slice (some ⟨h2.length, 0, none⟩) 1 1) [2 * ((g.x.2.length : Nat) : Int)].length (flat eI [2 * ((g.x.2.length : Nat) : Int)]) := ⟨rfl, .inr ⟨h2.length, 0, 1, rfl, .inl ⟨by decide, Nat.le_refl _⟩, .inr ⟨_, true, g3, Nat.le_refl _, rfl⟩⟩⟩
      have hC1 : C = 1 := by rw [← hC]; subst q; simp [cst]
      refine kf _ [2 * ((g.x.2.length : Nat) : Int)] true h3 a ⟨Chg.ex x3, m2.ex x3, hs, fun j hj => ?_⟩ (Nat.le_add_right _ _) (by rw [hC1]; exact Nat.le_refl _) fun _ => ?_
      · have : h2.length = j := hj
        omega
      · exact (text_word (scOf g.x)).imp fun w i j h => MRk (.inr (.inr (.inl ⟨q, h⟩)))
    refine w_eql (c_dec (fun q => ?_) (fun q4 => ?_))
    · refine w_rdPA G1 (Nat.le_refl 2) (w_offP (w_rdP G2 (v := .string (bs n)) rfl ?_))
      have hC1 : C = Bt D := by rw [← hC]; subst q; simp [cst]
      have htr := ht h2 a n
      rw [hsv] at htr
      refine htr _ m2 (by omega) fun v w is h' a' gr h3 h4 h5 => ?_
      refine w_some (v := v) rfl ?_
      refine w_some (v := .bool is) rfl ?_
      refine kf v w is h' a' gr (by omega) (by omega) fun hi => ?_
      obtain ⟨kN, h6, h7, h8⟩ := h5 hi
      exact h8.imp fun w i j h => MRk (.inr (.inr (.inr (.inl ⟨q, kN, h6, h⟩))))
    refine w_eql (c_dec (fun q => ?_) (fun q2 => ?_))
    · have hC1 : C = 2 := by rw [← hC]; subst q; simp [cst]
      refine nx30 m2 (by omega) (by decide) fun h3 c3 l3 m3 => ?_
      have nxb := nxA_le g.ns a
      have n3 := nx_in g.ns a (show (0 : Int) < 3 by decide)
      refine loopE_intro (fun mm e h4 => ∃ (j : Nat) (v : Value) (w : List Int), mm = j ∧ j + w.length ≤ 2 ∧ e 5 = .pointer (some ⟨h.length, 0, none⟩) ∧ e 10 = v ∧ e 11 = .int .i64 (j : Nat) ∧ g.Gr h2 h4 (nxA g.ns a) v w ∧ WR (fun w => RT (Any (Stw (scOf g.x) w))) w) (nx g.ns a 3).toNat
        ⟨(nx g.ns a 3).toNat, _, [], rfl, by show (nx g.ns a 3).toNat + 0 ≤ 2; omega, rfl, rfl, congrArg (Value.int .i64) (by omega), gr0.chg c3 m3, WR.nil fun w i => .nil i⟩ ?_
      rintro I mm e h4 ⟨j, v, w, hmm, hjw, f5, f10, f11, gr, hw⟩ ih
      rw [f5, f10, f11]
      refine w_gtr (c_dec (fun r => ?_) (fun r => ?_))
      · refine w_offP (w_rdP (box1 gr.c) (v := .slice La g.x.2.length Lc) rfl (w_lenSl (w_mul (by omega) (by omega) ?_)))
        refine gr.one (by omega) fun v' h5 gr5 => w_sub (by omega) (by omega) ?_
        refine ih (j - 1) _ _ (by omega) ⟨j - 1, v', _, rfl, by rw [List.length_append]; show j - 1 + (w.length + 1) ≤ 2; omega, f5, rfl, congrArg (Value.int .i64) (by omega), gr5, ?_⟩
        exact hw.app (fun w i k j a b => a.snoc ⟨_, b⟩) (text_word (scOf g.x))
      · refine hJ _ _ ⟨v, w, _, f10, gr, by omega, by omega, hw.imp fun w i j h => MRk (.inr (.inl ⟨q, h⟩))⟩
    refine w_eql (c_dec (fun q => ?_) (fun q5 => ?_))
    · have hC1 : C = cstL (Bt D) l := by rw [← hC]; subst q; simp [cst]
      refine loopE_intro (fun mm e h4 => ∃ (j : Nat) (v : Value) (w : List Int) (a4 : Nat), j ≤ l.length ∧ mm = l.length - j ∧ e 0 = .pointer (some ⟨g.X, 0, none⟩) ∧ e 3 = .int .i64 (D : Nat) ∧ e 5 = .pointer (some ⟨h.length, 0, none⟩) ∧ e 6 = .pointer (some ⟨h1.length, 0, none⟩) ∧ e 10 = v ∧ e 12 = .int .i64 (j : Nat) ∧
          g.Gr h2 h4 a4 v w ∧ a4 ≤ a + cstL (Bt D) (l.take j) ∧ w.length ≤ cstL (Bt D) (l.take j) ∧ WR (fun w => MSeq (scOf g.x).fd (scOf g.x).T (Stw (scOf g.x) w) (l.take j)) w) l.length
        ⟨0, _, [], a, Nat.zero_le _, rfl, rfl, rfl, rfl, rfl, rfl, rfl, gr0, Nat.le_add_right _ _, Nat.zero_le _, by rw [List.take_zero]; exact WM.seq0 (n := n)⟩ ?_
      rintro I mm e h4 ⟨j, v, w, a4, hj, hmm, f0, f3, f5, f6, f10, f12, gr, ha4, hw4, hw⟩ ih
      rw [f0, f3, f5, f6, f10, f12]
      refine w_offP (w_rdP (box2 gr.c) (v := .slice sa l.length cp) rfl (w_lenSl (w_lss (c_dec (fun r => ?_) (fun r => ?_)))))
      · obtain ⟨m', hm'⟩ := getElem?_of_lt (l := l) (i := j) (by omega)
        have hcs := cstL_snoc (Bt D) (l.take j) m'
        rw [← take_succ_get hm'] at hcs
        have hct := cstL_take (Bt D) l (j + 1)
        refine w_rdPA (box1 gr.c) (Nat.le_refl 2) (w_offP (w_rdP (box2 gr.c) (v := .slice sa l.length cp) rfl ?_))
        refine part (j := (j : Int)) gr.mh.x (by omega) (by rw [Int.toNat_natCast]; exact hm') fun p mv' mh => ?_
        refine rec_ gr.mh hm' mh (by omega) fun v5 w5 is h5 a5 rs ha5 hw5 his => ?_
        refine w_some (v := v5) rfl ?_
        refine w_some (v := .bool is) rfl (w_notb ?_)
        cases is with
        | false =>
          refine c_t ?_
          refine kf _ [] false h5 a5 ⟨gr.c.trans rs.c, rs.mh, (OwnG.nil 1 (fun _ => True) _).sl, fun j hj => hj.elim⟩ (by omega) (Nat.zero_le _) fun h => absurd h Bool.false_ne_true
        | true =>
          refine c_f ?_
          refine (gr.chg rs.c rs.mh).app rs.sl (by omega) fun v6 h6 gr6 => w_add (by omega) (by omega) ?_
          refine ih (l.length - (j + 1)) _ _ (by omega) ⟨j + 1, v6, w ++ w5, a5, by omega, rfl, f0, f3, f5, f6, rfl, rfl, gr6, by omega, by rw [List.length_append]; omega, ?_⟩
          rw [take_succ_get hm']
          exact WM.seqS hw (his rfl)
      · have ej : l.take j = l := List.take_of_length_le (by omega)
        rw [ej] at ha4 hw4 hw
        exact hJ _ _ ⟨v, w, a4, f10, gr, by omega, by omega, hw.imp fun w i j h => MRk (.inr (.inr (.inr (.inr (.inl ⟨q, h⟩)))))⟩
    refine w_eql (c_dec (fun q => ?_) (fun q6 => ?_))
    · have hC1 : C = 1 + cstL (Bt D) l := by rw [← hC]; subst q; simp [cst]
      have hl2 : 2 ≤ l.length := by
        rcases cases_ with ⟨h, _⟩ | ⟨h, _⟩ | ⟨_, h, _⟩ | ⟨h, _⟩
        case inr.inr.inl => exact h
        all_goals omega
      refine w_rdPA G1 (Nat.le_refl 2) (w_offP (w_rdP G2 (v := .slice sa l.length cp) rfl (w_offP (w_rdP G2 (v := .slice sa l.length cp) rfl (w_lenSl ?_)))))
      refine nx30 m2 (by omega) (by omega) fun h3 c3 l3 m3 => ?_
      have nxb := nxA_le g.ns a
      have nin := nx_in g.ns a (show (0 : Int) < (l.length : Nat) by omega)
      refine ⟨idrow G2 (box2 c3), idrow G1 (box1 c3), ?_⟩
      obtain ⟨m', hm'⟩ := getElem?_of_lt (l := l) (i := (nx g.ns a l.length).toNat) (by omega)
      have hcg := cstL_get (Bt D) l _ m' hm'
      refine part m3.x nin.1 hm' fun p mv' mh => ?_
      refine rec_ m3 hm' mh (by omega) fun v5 w5 is h5 a5 rs ha5 hw5 his => ?_
      refine w_some (v := v5) rfl ?_
      refine w_some (v := .bool is) rfl ?_
      refine kf v5 w5 is h5 a5 ⟨c3.trans rs.c, rs.mh, rs.sl, fun j hj => by have := rs.on j hj; have := c3.len; omega⟩ (by omega) (by omega) fun hi => ?_
      exact (his hi).imp fun w i j h => MRk (.inr (.inr (.inr (.inr (.inr (.inl ⟨q, MOr_mem h (List.mem_of_getElem? hm')⟩))))))
    refine joinE_intro (fun e h' => e 0 = .pointer (some ⟨g.X, 0, none⟩) ∧ e 3 = .int .i64 (D : Nat) ∧ e 5 = .pointer (some ⟨h.length, 0, none⟩) ∧ e 6 = .pointer (some ⟨h1.length, 0, none⟩) ∧ e 10 = .slice none 0 0 ∧ e 96 = .bool (decide (kk = 7 ∨ kk = 8 ∨ kk = 9)) ∧ h2 = h') ?_ ?_
    case refine_2 =>
      intro J1 hJ1
      refine w_eql (c_dec (fun q7 => hJ1 _ _ ⟨rfl, rfl, rfl, rfl, rfl, congrArg Value.bool (decide_eq_decide.2 ⟨fun _ => by omega, fun _ => by omega⟩), rfl⟩) (fun q7 => ?_))
      refine w_eql (c_dec (fun q8 => hJ1 _ _ ⟨rfl, rfl, rfl, rfl, rfl, congrArg Value.bool (decide_eq_decide.2 ⟨fun _ => by omega, fun _ => by omega⟩), rfl⟩) (fun q8 => ?_))
      exact w_eql (hJ1 _ _ ⟨rfl, rfl, rfl, rfl, rfl, congrArg Value.bool (decide_eq_decide.2 ⟨fun _ => by omega, fun _ => by omega⟩), rfl⟩)
    rintro e h' ⟨f0, f3, f5, f6, f10, f96, rfl⟩
    rw [f96]
    refine c_dec (fun q => ?_) (fun q => ?_)
    rotate_left
    · exact hJ _ _ ⟨_, [], a, f10, gr0, Nat.le_add_right _ _, Nat.zero_le _, WR.nil fun w i => MRk (.inl ⟨by omega, rfl⟩)⟩
    obtain ⟨m0, rfl⟩ : ∃ m0, l = [m0] := by
      rcases cases_ with ⟨h, _⟩ | ⟨h, _⟩ | ⟨h, _⟩ | ⟨_, h, _⟩
      case inr.inr.inr => exact h
      all_goals omega
    have hm0 : ([m0] : List Mdl)[(0 : Int).toNat]? = some m0 := rfl
    obtain ⟨cc, hcc⟩ : ∃ cc, cc = cst (Bt D) m0 := ⟨_, rfl⟩
    have hC1 : C = 1 + 3 * cc := by
      rw [← hC, hcc]
      rcases q with rfl | rfl | rfl <;> simp [cst, cstL]
    rw [f0, f6]
    refine nx30 m2 (by omega) (by decide) fun h3 c3 l3 m3 => ?_
    have nxb := nxA_le g.ns a
    have n3 := nx_in g.ns a (show (0 : Int) < 3 by decide)
    refine w_offP (w_rdP (box2 c3) (v := .int .i64 kk) rfl (w_eql ?_))
    refine c_dec (fun q8 => ?_) (fun q8 => ?_)
    · refine w_add (by omega) (by omega) ?_
      have t9 : ¬ kk = 9 := by omega
      refine w_offP (w_rdP (box2 c3) (v := .int .i64 kk) rfl (w_eql (c_ff t9 ?_)))
      obtain ⟨cnt, hcnt⟩ : ∃ cnt : Nat, nx g.ns a 3 + 1 = (cnt : Int) := ⟨(nx g.ns a 3 + 1).toNat, by omega⟩
      refine loopE_intro (fun mm e h4 => ∃ (j : Nat) (v : Value) (w : List Int) (a4 : Nat), j ≤ cnt ∧ mm = cnt - j ∧ e 0 = .pointer (some ⟨g.X, 0, none⟩) ∧ e 3 = .int .i64 (D : Nat) ∧ e 5 = .pointer (some ⟨h.length, 0, none⟩) ∧ e 6 = .pointer (some ⟨h1.length, 0, none⟩) ∧ e 10 = v ∧ e 15 = .int .i64 (cnt : Nat) ∧ e 16 = .int .i64 (j : Nat) ∧
          g.Gr h2 h4 a4 v w ∧ a4 ≤ a + 1 + j * cc ∧ w.length ≤ j * cc ∧ Rep (scOf g.x) m0 j w) cnt
        ⟨0, _, [], nxA g.ns a, Nat.zero_le _, rfl, f0, f3, f5, f6, f10, congrArg (Value.int .i64) hcnt, rfl, gr0.chg c3 m3, by omega, Nat.zero_le _, .z⟩ ?_
      clear f0 f3 f5 f6 f10
      rintro I mm e h4 ⟨j, v, w, a4, hj, hmm, f0, f3, f5, f6, f10, f15, f16, gr, ha4, hw4, hw⟩ ih
      rw [f0, f3, f5, f6, f10, f15, f16]
      have hsm : (j + 1) * cc = j * cc + cc := Nat.succ_mul _ _
      refine w_lss (c_dec (fun r => ?_) (fun r => ?_))
      · have h3c : (j + 1) * cc ≤ 3 * cc := Nat.mul_le_mul_right _ (by omega)
        refine w_rdPA (box1 gr.c) (Nat.le_refl 2) (w_offP (w_rdP (box2 gr.c) (v := .slice sa ([m0] : List Mdl).length cp) rfl ?_))
        refine part (j := 0) gr.mh.x (Int.le_refl _) hm0 fun p mv' mh => ?_
        refine rec_ (i := 0) gr.mh hm0 mh (by omega) fun v5 w5 is h5 a5 rs ha5 hw5 his => ?_
        refine w_some (v := v5) rfl ?_
        refine w_some (v := .bool is) rfl (w_notb ?_)
        have gr5 := gr.chg rs.c rs.mh
        cases is with
        | false =>
          refine c_t ?_
          refine w_offP (w_rdP (box2 gr5.c) (v := .int .i64 kk) rfl (w_neq ?_))
          have t8 : ¬ ¬ (kk = 8) := fun h => h q8
          refine g_ff t8 (g_ff t8 (w_gtr (pk_ff t8 ?_)))
          exact kf v w _ h5 a5 gr5.rs (by omega) (by omega) fun hi => by
            have h0 : (0 : Int) < (j : Nat) := of_decide_eq_true hi
            have := hw.plusM (n := n) (show 0 < j by omega)
            rw [← q8] at this
            exact this
        | true =>
          refine c_f ?_
          refine gr5.app rs.sl (by omega) fun v6 h6 gr6 => w_add (by omega) (by omega) ?_
          exact ih (cnt - (j + 1)) _ _ (by omega) ⟨j + 1, v6, w ++ w5, a5, by omega, rfl, f0, f3, f5, f6, rfl, f15, rfl, gr6, by omega, by rw [List.length_append]; omega, .s hw (his rfl)⟩
      · have ej : j = cnt := by omega
        have h3c : j * cc ≤ 3 * cc := Nat.mul_le_mul_right _ (by omega)
        exact hJ _ _ ⟨v, w, a4, f10, gr, by omega, by omega, by have := hw.plusM (n := n) (show 0 < j by omega); rw [← q8] at this; exact this⟩
    · refine w_offP (w_rdP (box2 c3) (v := .int .i64 kk) rfl (w_eql ?_))
      refine c_dec (fun q9 => ?_) (fun q9 => ?_)
      · obtain ⟨cnt, hcnt, hc1⟩ : ∃ cnt : Nat, (if (1 : Int) < nx g.ns a 3 then 1 else nx g.ns a 3) = (cnt : Int) ∧ cnt ≤ 1 := by
          split
          · exact ⟨1, rfl, Nat.le_refl _⟩
          · exact ⟨(nx g.ns a 3).toNat, by omega, by omega⟩
        refine w_some (v := .int .i64 (if (1 : Int) < nx g.ns a 3 then 1 else nx g.ns a 3)) rfl ?_
        refine loopE_intro (fun mm e h4 => ∃ (j : Nat) (v : Value) (w : List Int) (a4 : Nat), j ≤ cnt ∧ mm = cnt - j ∧ e 0 = .pointer (some ⟨g.X, 0, none⟩) ∧ e 3 = .int .i64 (D : Nat) ∧ e 5 = .pointer (some ⟨h.length, 0, none⟩) ∧ e 6 = .pointer (some ⟨h1.length, 0, none⟩) ∧ e 10 = v ∧ e 15 = .int .i64 (cnt : Nat) ∧ e 16 = .int .i64 (j : Nat) ∧
            g.Gr h2 h4 a4 v w ∧ a4 ≤ a + 1 + j * cc ∧ w.length ≤ j * cc ∧ Rep (scOf g.x) m0 j w) cnt
          ⟨0, _, [], nxA g.ns a, Nat.zero_le _, rfl, f0, f3, f5, f6, f10, congrArg (Value.int .i64) hcnt, rfl, gr0.chg c3 m3, by omega, Nat.zero_le _, .z⟩ ?_
        clear f0 f3 f5 f6 f10
        rintro I mm e h4 ⟨j, v, w, a4, hj, hmm, f0, f3, f5, f6, f10, f15, f16, gr, ha4, hw4, hw⟩ ih
        rw [f0, f3, f5, f6, f10, f15, f16]
        have hsm : (j + 1) * cc = j * cc + cc := Nat.succ_mul _ _
        refine w_lss (c_dec (fun r => ?_) (fun r => ?_))
        · have h3c : (j + 1) * cc ≤ 3 * cc := Nat.mul_le_mul_right _ (by omega)
          refine w_rdPA (box1 gr.c) (Nat.le_refl 2) (w_offP (w_rdP (box2 gr.c) (v := .slice sa ([m0] : List Mdl).length cp) rfl ?_))
          refine part (j := 0) gr.mh.x (Int.le_refl _) hm0 fun p mv' mh => ?_
          refine rec_ (i := 0) gr.mh hm0 mh (by omega) fun v5 w5 is h5 a5 rs ha5 hw5 his => ?_
          refine w_some (v := v5) rfl ?_
          refine w_some (v := .bool is) rfl (w_notb ?_)
          have gr5 := gr.chg rs.c rs.mh
          cases is with
          | false =>
            refine c_t ?_
            refine w_offP (w_rdP (box2 gr5.c) (v := .int .i64 kk) rfl (w_neq ?_))
            have t8 : ¬ (kk = 8) := q8
            refine g_ft t8 (g_ft t8 (pk_tt t8 ?_))
            exact kf v w true h5 a5 gr5.rs (by omega) (by omega) fun _ => by have := hw.opt (n := n) (show j ≤ 1 by omega); rw [← q9] at this; exact this
          | true =>
            refine c_f ?_
            refine gr5.app rs.sl (by omega) fun v6 h6 gr6 => w_add (by omega) (by omega) ?_
            exact ih (cnt - (j + 1)) _ _ (by omega) ⟨j + 1, v6, w ++ w5, a5, by omega, rfl, f0, f3, f5, f6, rfl, f15, rfl, gr6, by omega, by rw [List.length_append]; omega, .s hw (his rfl)⟩
        · have ej : j = cnt := by omega
          have h3c : j * cc ≤ 3 * cc := Nat.mul_le_mul_right _ (by omega)
          exact hJ _ _ ⟨v, w, a4, f10, gr, by omega, by omega, by have := hw.opt (n := n) (show j ≤ 1 by omega); rw [← q9] at this; exact this⟩
      · have q7 : kk = 7 := by omega
        obtain ⟨cnt, hcnt⟩ : ∃ cnt : Nat, nx g.ns a 3 = (cnt : Int) := ⟨(nx g.ns a 3).toNat, by omega⟩
        refine loopE_intro (fun mm e h4 => ∃ (j : Nat) (v : Value) (w : List Int) (a4 : Nat), j ≤ cnt ∧ mm = cnt - j ∧ e 0 = .pointer (some ⟨g.X, 0, none⟩) ∧ e 3 = .int .i64 (D : Nat) ∧ e 5 = .pointer (some ⟨h.length, 0, none⟩) ∧ e 6 = .pointer (some ⟨h1.length, 0, none⟩) ∧ e 10 = v ∧ e 15 = .int .i64 (cnt : Nat) ∧ e 16 = .int .i64 (j : Nat) ∧
            g.Gr h2 h4 a4 v w ∧ a4 ≤ a + 1 + j * cc ∧ w.length ≤ j * cc ∧ Rep (scOf g.x) m0 j w) cnt
          ⟨0, _, [], nxA g.ns a, Nat.zero_le _, rfl, f0, f3, f5, f6, f10, congrArg (Value.int .i64) hcnt, rfl, gr0.chg c3 m3, by omega, Nat.zero_le _, .z⟩ ?_
        clear f0 f3 f5 f6 f10
        rintro I mm e h4 ⟨j, v, w, a4, hj, hmm, f0, f3, f5, f6, f10, f15, f16, gr, ha4, hw4, hw⟩ ih
        rw [f0, f3, f5, f6, f10, f15, f16]
        have hsm : (j + 1) * cc = j * cc + cc := Nat.succ_mul _ _
        refine w_lss (c_dec (fun r => ?_) (fun r => ?_))
        · have h3c : (j + 1) * cc ≤ 3 * cc := Nat.mul_le_mul_right _ (by omega)
          refine w_rdPA (box1 gr.c) (Nat.le_refl 2) (w_offP (w_rdP (box2 gr.c) (v := .slice sa ([m0] : List Mdl).length cp) rfl ?_))
          refine part (j := 0) gr.mh.x (Int.le_refl _) hm0 fun p mv' mh => ?_
          refine rec_ (i := 0) gr.mh hm0 mh (by omega) fun v5 w5 is h5 a5 rs ha5 hw5 his => ?_
          refine w_some (v := v5) rfl ?_
          refine w_some (v := .bool is) rfl (w_notb ?_)
          have gr5 := gr.chg rs.c rs.mh
          cases is with
          | false =>
            refine c_t ?_
            refine w_offP (w_rdP (box2 gr5.c) (v := .int .i64 kk) rfl (w_neq ?_))
            have t8 : ¬ (kk = 8) := q8
            refine g_ft t8 (g_ft t8 (pk_tt t8 ?_))
            exact kf v w true h5 a5 gr5.rs (by omega) (by omega) fun _ => by have := hw.star (n := n); rw [← q7] at this; exact this
          | true =>
            refine c_f ?_
            refine gr5.app rs.sl (by omega) fun v6 h6 gr6 => w_add (by omega) (by omega) ?_
            exact ih (cnt - (j + 1)) _ _ (by omega) ⟨j + 1, v6, w ++ w5, a5, by omega, rfl, f0, f3, f5, f6, rfl, f15, rfl, gr6, by omega, by rw [List.length_append]; omega, .s hw (his rfl)⟩
        · have ej : j = cnt := by omega
          have h3c : j * cc ≤ 3 * cc := Nat.mul_le_mul_right _ (by omega)
          exact hJ _ _ ⟨v, w, a4, f10, gr, by omega, by omega, by have := hw.star (n := n); rw [← q7] at this; exact this⟩
end Go.Proofs.Ytlenlhlipmkeeaa.W
end

section
/- Schema's laws: a word of numbers that a schema has. Conditions: none. -/
namespace Go.Proofs.Ytlenlhlipmkeeaa.W
open Go Go.AM SchM
set_option linter.unusedVariables false
set_option maxRecDepth 100000
theorem treeAll {g : GCtx} (ok : GOK g) : ∀ D, D ≤ 100 → TreeC g D
  | 0, hD => tree47 ok hD fun D' h => by omega
  | D + 1, hD => tree47 ok hD fun D' h e he => by
    have : D' = D := by omega
    subst this
    exact grow65 ok (by omega) (treeAll ok D' (by omega)) (sz e.2) e.2 (Nat.le_refl _) (ok.hx.ok e he).2 (ok.hx.ok e he).1
theorem some21 {h : AH} {x : W × List (W × Mdl)} {sv vn : Value} {ns : List Int} {K : Value → AH → Prop} (hx : Hok x) (s : SM h x sv) (hB : ∀ C, ∀ e ∈ x.2, cst C e.2 ≤ (C + 4) * 64) (hns : Ints h vn ns)
    (k : ∀ v w (is : Bool) h', Ex h h' → Sl 1 h' v w.length (flat eI w) → (∀ j, onId v j → h.length ≤ j) → w.length ≤ 1000000000 → (is = true → Hs x w ∧ w.length < 40) → K (.tuple #[v, .bool is]) h') : callW Try.prog 21 [sv, vn] h K := by
  obtain ⟨La, Lc, Lcs, rfl, Lsl, Lel⟩ := id s
  obtain ⟨na, nc, rfl⟩ := hns.shape
  refine c21 ?_
  unfold s21
  refine n_boxv rfl fun h1 x1 l1 g1 => ?_
  have g1 : h1[h.length]? = some (.row [.string (bs x.1), .slice La x.2.length Lc] true) := g1
  refine w_some (v := .agg #[.slice none 0 0, .slice na ns.length nc, .int .i64 0]) rfl ?_
  refine n_boxv rfl fun h2 x2 l2 g2 => ?_
  have g2 : h2[h1.length]? = some (.row [.slice none 0 0, .slice na ns.length nc, .int .i64 ((0 : Nat) : Int)] true) := g2
  let g : GCtx := ⟨h1, h1.length, ns, .slice none 0 0, .slice na ns.length nc, x, .agg #[.string (bs x.1), .slice La x.2.length Lc]⟩
  have ok : GOK g := ⟨hx, s.ex x1, hB⟩
  have m : g.Mk h2 0 := ⟨g2, ⟨rfl, .inl ⟨rfl, rfl⟩⟩, hns.ex x1, x2, Nat.le_refl _⟩
  have G1 := x2.some g1
  have e4 : Bt 4 ≤ 1000000000 := by decide
  refine w_rdPA G1 (Nat.le_refl 2) (w_offP (w_rdP G1 (v := .string (bs x.1)) rfl ?_))
  refine treeAll ok 4 (by decide) h2 0 x.1 _ m (by omega) fun v w is h' a' rs ha hw his => ?_
  refine w_some (v := v) rfl ?_
  refine w_some (v := .bool is) rfl ?_
  have X' : Ex h h' := ⟨by have := rs.c.len; omega, fun j hj => by
    rw [rs.c.get j (by omega) (fun e => by have e : j = h1.length := e; omega)]
    exact (x1.trans x2).get j hj⟩
  have on' : ∀ j, onId v j → h.length ≤ j := fun j hj => by have := rs.on j hj; omega
  cases is with
  | false =>
    refine gc_tf (gc_tf (gc_tf (pk_f ?_)))
    exact k v w false h' X' rs.sl on' (by omega) fun h => absurd h Bool.false_ne_true
  | true =>
    refine gc_tt (gc_tt (w_len rs.sl (gc_tt (w_lss (pk_t ?_)))))
    refine k v w _ h' X' rs.sl on' (by omega) fun hi => ⟨?_, ?_⟩
    · obtain ⟨kN, h1, h2, h3⟩ := his rfl
      have h4 := h3 [] []
      rw [List.append_nil, List.nil_append] at h4
      refine ⟨kN, h1, h2, ?_⟩
      have h4 : Stw (scOf x) w kN 0 (0 + w.length) := h4
      rw [Nat.zero_add] at h4
      exact h4
    · have := of_decide_eq_true hi
      omega
end Go.Proofs.Ytlenlhlipmkeeaa.W
end

section
/- strings.Join of this program is the kit's. Conditions: none. -/
namespace Go.Proofs.Ytlenlhlipmkeeaa.W
open Go Go.AM Go.Proofs Go.Shelf
set_option maxRecDepth 100000
def jf : Nat → Nat := fun x => cond (Nat.beq x 156) 88 ( cond (Nat.beq x 165) 94 ( cond (Nat.beq x 166) 95 ( cond (Nat.beq x 169) 96 ( cond (Nat.beq x 240) 100 ( cond (Nat.beq x 241) 101 ( cond (Nat.beq x 276) 102 ( cond (Nat.beq x 277) 103 (x))))))))
def jt : Nat → Nat := fun x => cond (Nat.beq x 0) 0 ( cond (Nat.beq x 3) 3 ( cond (Nat.beq x 4) 4 ( cond (Nat.beq x 5) 5 ( cond (Nat.beq x 9) 9 ( cond (Nat.beq x 20) 20 ( cond (Nat.beq x 31) 30 ( cond (Nat.beq x 37) 54 ( cond (Nat.beq x 70) 131 ( cond (Nat.beq x 72) 133 ( cond (Nat.beq x 75) 136 ( cond (Nat.beq x 76) 137 ( cond (Nat.beq x 80) 75 ( cond (Nat.beq x 127) 140 ( cond (Nat.beq x 164) 141 (x)))))))))))))))
def ren : Ren := ⟨jf, jt, fun x => x⟩
theorem lays : Lays.n156 Try.prog ren where
  mixed := by kernel_rfl
  f156 := by kernel_rfl
  f165 := by kernel_rfl
  f166 := by kernel_rfl
  f169 := by kernel_rfl
  f240 := by kernel_rfl
  f241 := by kernel_rfl
  f276 := by kernel_rfl
  f277 := by kernel_rfl
  t0 := Try.underlying0
  a0 := Try.isAgg0
  z0 := Try.sizeOf0
  v0 := Try.zeroValue0
  t3 := Try.underlying3
  a3 := Try.isAgg3
  z3 := Try.sizeOf3
  v3 := Try.zeroValue3
  t4 := Try.underlying4
  a4 := Try.isAgg4
  z4 := Try.sizeOf4
  v4 := Try.zeroValue4
  t9 := Try.underlying9
  a9 := Try.isAgg9
  z9 := Try.sizeOf9
  v9 := Try.zeroValue9
  t20 := Try.underlying20
  a20 := Try.isAgg20
  z20 := Try.sizeOf20
  v20 := Try.zeroValue20
  t31 := Try.underlying30
  a31 := Try.isAgg30
  z31 := Try.sizeOf30
  v31 := Try.zeroValue30
  t37 := Try.underlying54
  a37 := Try.isAgg54
  z37 := Try.sizeOf54
  v37 := Try.zeroValue54
  t70 := Try.underlying131
  a70 := Try.isAgg131
  z70 := Try.sizeOf131
  v70 := Try.zeroValue131
  t72 := Try.underlying133
  a72 := Try.isAgg133
  z72 := Try.sizeOf133
  v72 := Try.zeroValue133
  t75 := Try.underlying136
  a75 := Try.isAgg136
  z75 := Try.sizeOf136
  v75 := Try.zeroValue136
  t76 := Try.underlying137
  a76 := Try.isAgg137
  z76 := Try.sizeOf137
  v76 := Try.zeroValue137
  t127 := Try.underlying140
  a127 := Try.isAgg140
  z127 := Try.sizeOf140
  v127 := Try.zeroValue140
  t164 := Try.underlying141
  a164 := Try.isAgg141
  z164 := Try.sizeOf141
  v164 := Try.zeroValue141
theorem extra : Builder.Extra Try.prog ren where
  sizeBuilder := by kernel_rfl
  liesBuilder := by kernel_rfl
  t5 := Try.underlying5
  a5 := Try.isAgg5
  z5 := Try.sizeOf5
  v5 := Try.zeroValue5
  infoByte := by kernel_rfl
  cellsByte := by kernel_rfl
  sizeByte := by kernel_rfl
  neB5 := by decide
theorem join88 : isJoin Try.prog 88 := ⟨ren, rfl, lays, extra⟩
end Go.Proofs.Ytlenlhlipmkeeaa.W
end
