/- Parts of a proof, joined by a program. Conditions: none. -/
import Derived.Test.YtlenlhlipmkeeaaRB1
import Derived.Test.YtlenlhlipmkeeaaRA0
import Derived.Test.YtlenlhlipmkeeaaRS0
import Derived.Test.YtlenlhlipmkeeaaRA2
import Derived.Test.YtlenlhlipmkeeaaChecked
import Derived.Shelf.Strings.OnBuilder

section
/- Schema's laws: which words a schema has: models' parts, their ways. Conditions: none. -/
namespace SchM
variable {fd : W → Int} {T : Nat} {S : Stp}
theorem MSeq_snoc : ∀ (l : List Mdl) (m : Mdl) (i j : Nat), MSeq fd T S (l ++ [m]) i j ↔ ∃ k, MSeq fd T S l i k ∧ MR fd T S m k j
  | [], m, i, j => by
    show MSeq fd T S [m] i j ↔ _
    unfold MSeq MSeq
    constructor
    · rintro ⟨k, h, rfl⟩
      exact ⟨i, rfl, h⟩
    · rintro ⟨k, rfl, h⟩
      exact ⟨j, h, rfl⟩
  | a :: l, m, i, j => by
    show MSeq fd T S (a :: (l ++ [m])) i j ↔ _
    unfold MSeq
    constructor
    · rintro ⟨k, h1, h2⟩
      obtain ⟨k', h3, h4⟩ := (MSeq_snoc l m k j).1 h2
      exact ⟨k', ⟨k, h1, h3⟩, h4⟩
    · rintro ⟨k', ⟨k, h1, h3⟩, h4⟩
      exact ⟨k, h1, (MSeq_snoc l m k j).2 ⟨k', h3, h4⟩⟩
theorem MOr_snoc : ∀ (l : List Mdl) (m : Mdl) (i j : Nat), MOr fd T S (l ++ [m]) i j ↔ MOr fd T S l i j ∨ MR fd T S m i j
  | [], m, i, j => by
    show MOr fd T S [m] i j ↔ _
    unfold MOr MOr
    constructor
    · rintro (h | h)
      · exact .inr h
      · exact h.elim
    · rintro (h | h)
      · exact h.elim
      · exact .inl h
  | a :: l, m, i, j => by
    show MOr fd T S (a :: (l ++ [m])) i j ↔ _
    unfold MOr
    rw [MOr_snoc l m i j, or_assoc]
theorem Any_le {s : Sc} {w : List Int} : ∀ a b, Any (Stw s w) a b → a ≤ b := fun a b ⟨c, hc⟩ => Nat.le_of_lt (Stw_lt hc).1
theorem MR_le {s : Sc} {w : List Int} {m : Mdl} {a b : Nat} (h : MR s.fd s.T (Stw s w) m a b) : a ≤ b := (MR_any m h).le Any_le
theorem MSeq_le {s : Sc} {w : List Int} {l : List Mdl} {a b : Nat} (h : MSeq s.fd s.T (Stw s w) l a b) : a ≤ b := (MSeq_any l h).le Any_le
end SchM
namespace Go.Proofs.Ytlenlhlipmkeeaa.W
open Go Go.AM SchM
set_option linter.unusedVariables false
set_option maxRecDepth 100000
theorem fd_iff {x : W × List (W × Mdl)} (nd : (x.2.map (·.1)).Nodup) (n : W) (c : Nat) : (scOf x).fd n = (c : Int) ↔ ∃ e, x.2[c]? = some e ∧ e.1 = n := by
  show (x.2.findIdx? (fun e => decide (e.1 = n))).elim (-1) (fun i => (i : Int)) = (c : Int) ↔ _
  cases hf : x.2.findIdx? (fun e => decide (e.1 = n)) with
  | none =>
    rw [List.findIdx?_eq_none_iff] at hf
    constructor
    · intro h
      have h : (-1 : Int) = (c : Int) := h
      omega
    · rintro ⟨e, h1, h2⟩
      have := hf e (List.mem_of_getElem? h1)
      simp [h2] at this
  | some i =>
    rw [List.findIdx?_eq_some_iff_getElem] at hf
    obtain ⟨hi, h1, h2⟩ := hf
    have h1 : (x.2[i]).1 = n := of_decide_eq_true h1
    constructor
    · intro h
      have h : (i : Int) = (c : Int) := h
      have : i = c := by omega
      subst this
      exact ⟨_, List.getElem?_eq_getElem hi, h1⟩
    · rintro ⟨e, h3, h4⟩
      show (i : Int) = (c : Int)
      have hc := get_lt h3
      have e1 : (x.2.map (·.1))[i]? = (x.2.map (·.1))[c]? := by
        rw [List.getElem?_map, List.getElem?_map, List.getElem?_eq_getElem hi, h3]
        simp [h1, h4]
      have := (List.getElem?_inj (by simpa using hi) nd).1 e1
      omega
section
variable {c : Hc}
theorem PM.sub {p o : Nat} {k : Int} {n : W} {l : List Mdl} (pm : PM c p o (.mk k n l)) : ∃ cc a cp, c.h0[p]? = some (.row cc true) ∧ p ≠ c.M ∧ o + 3 ≤ cc.length ∧ cc[o]? = some (.int .i64 k) ∧ cc[o + 1]? = some (.string (bs n)) ∧ cc[o + 2]? = some (.slice a l.length cp) ∧
    ∀ i m, l[i]? = some m → ∃ id off cap, Value.slice a l.length cp = .slice (some ⟨id, off, none⟩) l.length cap ∧ PM c id (off + i * 3) m := by
  obtain ⟨cc, g, hp, hle, mh⟩ := pm
  unfold MH at mh
  obtain ⟨a, cp, cs, e, sl, hG, ml⟩ := mh
  simp only [Value.agg.injEq, Array.mk.injEq] at e
  have at_ : ∀ j, j < 3 → cc[o + j]? = ([Value.int .i64 k, .string (bs n), .slice a l.length cp])[j]? := by
    intro j hj
    rw [← e, List.getElem?_take_of_lt hj, List.getElem?_drop]
  refine ⟨cc, a, cp, g, hp, hle, at_ 0 (by decide), at_ 1 (by decide), at_ 2 (by decide), fun i m hi => ?_⟩
  have hlt := get_lt hi
  obtain ⟨h1, ⟨_, h2⟩ | ⟨id, off, cap, h2, h3, h4⟩⟩ := sl
  · omega
  · rcases h4 with h4 | ⟨c2, w, g2, hle2, ht⟩
    · omega
    · have Gi := hG id (by rw [h2]; rfl)
      obtain ⟨c3, g3⟩ := Gi.2.2
      rw [g2] at g3
      cases g3
      obtain ⟨x, y, z, e1, mh⟩ := ML.get _ _ ml i m hi
      have e2 : (c2.drop (off + i * 3)).take 3 = [x, y, z] := by
        rw [← e1, ← ht, List.drop_take, List.drop_drop, List.take_take]
        congr 1
        omega
      exact ⟨id, off, cap, h2, c2, g2, Gi.1, by omega, by rw [e2]; exact mh⟩
theorem way80 (ok : HcOK c) {hb : AH} {lo : Nat} (he : ∀ k, lo ≤ k → k ≤ c.w.length → ∀ i, i < c.x.2.length → EC c i k) : WayOK c hb (.func (.func 80) #[.pointer (some ⟨c.r, 0, none⟩)] #[]) lo (Any (St c)) := by
  intro u h k K m x h1 h2 hk
  show callW Try.prog 80 [.pointer (some ⟨c.r, 0, none⟩), .int .i64 (k : Nat)] h K
  exact any80 ok h2 (he k h1 h2) m fun u' h' v j m' x' s' hj nu b => hk u' h' v j m' x' s' (.inr hj) b
theorem way78 {hb : AH} {lo b3 b2 p o : Nat} {md : Mdl} (g3 : hb[b3]? = some (.row [.pointer (some ⟨c.r, 0, none⟩)] true)) (g2 : hb[b2]? = some (.row [.pointer (some ⟨p, o, none⟩)] true)) (n3 : b3 ≠ c.M) (n2 : b2 ≠ c.M) (pm : PM c p o md)
    (hm : ∀ k, lo ≤ k → k ≤ c.w.length → MC c md k) : WayOK c hb (.func (.func 78) #[] #[.pointer (some ⟨b3, 0, none⟩), .pointer (some ⟨b2, 0, none⟩)]) lo (Rw c md) := by
  intro u h k K m x h1 h2 hk
  show callW Try.prog 78 [.int .i64 (k : Nat), .pointer (some ⟨b3, 0, none⟩), .pointer (some ⟨b2, 0, none⟩)] h K
  refine c78 ?_
  unfold s78
  refine w_rdP (x.some g3 n3) (v := .pointer (some ⟨c.r, 0, none⟩)) rfl ?_
  refine w_rdP (x.some g2 n2) (v := .pointer (some ⟨p, o, none⟩)) rfl ?_
  exact hm k h1 h2 u h p o _ m pm fun u' h' v i m' x' s' hu b => hk u' h' v i m' x' s' (.inl hu) b
theorem call77 {h : AH} {b3 p o : Nat} {K : Value → AH → Prop} (k : ∀ h', Ex h h' → h'.length = h.length + 1 → h'[h.length]? = some (.row [.pointer (some ⟨p, o, none⟩)] true) → K (.func (.func 78) #[] #[.pointer (some ⟨b3, 0, none⟩), .pointer (some ⟨h.length, 0, none⟩)]) h') :
    callV (callW Try.prog) (.func (.func 77) #[] #[.pointer (some ⟨b3, 0, none⟩)]) [.pointer (some ⟨p, o, none⟩)] h K := by
  show callW Try.prog 77 [.pointer (some ⟨p, o, none⟩), .pointer (some ⟨b3, 0, none⟩)] h K
  refine c77 ?_
  unfold s77
  exact n_boxv rfl fun h1 x1 l1 g1 => k h1 x1 l1 g1
end
end Go.Proofs.Ytlenlhlipmkeeaa.W
end

section
/- Schema's laws: the document's texts of models. Conditions: none. -/
namespace Go.Proofs.Ytlenlhlipmkeeaa.W
open Go Go.AM SchM
set_option linter.unusedVariables false
set_option maxRecDepth 100000
end Go.Proofs.Ytlenlhlipmkeeaa.W
end

section
/- Schema's laws: the document's text of a schema; schemas that are the same. Conditions: none. -/
namespace Go.Proofs.Ytlenlhlipmkeeaa.W
open Go Go.AM SchM
set_option linter.unusedVariables false
set_option maxRecDepth 100000
theorem flat_le : ∀ (l : List W) (i : Nat), ((l.take i).flatten).length ≤ l.flatten.length
  | [], i => by simp
  | x :: l, 0 => by simp
  | x :: l, i + 1 => by
    have := flat_le l i
    simp only [List.take_succ_cons, List.flatten_cons, List.length_append]
    omega
theorem nn {p : Prop} (h : p) : ¬ ¬ p := fun n => n h
set_option maxHeartbeats 1000000 in
theorem one46 : ∀ (N : Nat) (m : Mdl) (h : AH) (v w : Value) (K : Value → AH → Prop), sz m ≤ N → N ≤ 1000000 → MH h (fun j => j < h.length) m v → MH h (fun j => j < h.length) m w → (∀ h', Ex h h' → K (.bool true) h') → callW Try.prog 46 [v, w] h K
  | 0, .mk k n l, h, v, w, K, hN, _, _, _, _ => by simp [sz] at hN
  | N + 1, .mk k n l, h, v, w, K, hN, hN2, hm, hw, kk => by
    have hN' : szL l ≤ N := by simp only [sz] at hN; omega
    have hll := szL_len l
    unfold MH at hm hw
    obtain ⟨a, c, cs, rfl, sl, _, ml⟩ := hm
    obtain ⟨a', c', cs', rfl, sl', _, ml'⟩ := hw
    refine c46 ?_
    unfold s46
    refine n_boxv rfl fun h1 x1 l1 g1 => ?_
    refine n_boxv rfl fun h2 x2 l2 g2 => ?_
    have g1' : h2[h.length]? = some (.row [.int .i64 k, .string (bs n), .slice a l.length c] true) := x2.some g1
    have g2' : h2[h1.length]? = some (.row [.int .i64 k, .string (bs n), .slice a' l.length c'] true) := g2
    have x12 := x1.trans x2
    refine w_offP (w_rdP g1' (v := .int .i64 k) rfl (w_offP (w_rdP g2' (v := .int .i64 k) rfl (w_neq ?_))))
    have t1 : ¬ ¬ (k = k) := nn rfl
    have t2 : ¬ ¬ (n = n) := nn rfl
    have t3 : ¬ ¬ (((l.length : Nat) : Int) = (l.length : Nat)) := nn rfl
    refine g_ff t1 (w_offP (g_ff t1 (w_rdP g1' (v := .string (bs n)) rfl (g_ff t1 (w_offP (g_ff t1 (w_rdP g2' (v := .string (bs n)) rfl (g_ff t1 (w_sneq (pk_ff t1 ?_))))))))))
    refine g_ff t2 (w_offP (g_ff t2 (w_rdP g1' (v := .slice a l.length c) rfl (g_ff t2 (w_lenSl (g_ff t2 (w_offP (g_ff t2 (w_rdP g2' (v := .slice a' l.length c') rfl (g_ff t2 (w_lenSl (g_ff t2 (w_neq (pk_ff t2 (c_ff t3 ?_)))))))))))))))
    refine loopE_intro (fun mm e h' => ∃ i : Nat, i ≤ l.length ∧ mm = l.length - i ∧ e 2 = .pointer (some ⟨h.length, 0, none⟩) ∧ e 3 = .pointer (some ⟨h1.length, 0, none⟩) ∧ e 5 = .int .i64 (i : Nat) ∧ Ex h2 h') l.length
      ⟨0, Nat.zero_le _, rfl, rfl, rfl, rfl, Ex.refl _⟩ ?_
    rintro I mm e h3 ⟨i, hi, hmm, f2, f3, f5, x3⟩ ih
    rw [f2, f3, f5]
    have g1'' := x3.some g1'
    have g2'' := x3.some g2'
    have x03 := x12.trans x3
    refine w_offP (w_rdP g1'' (v := .slice a l.length c) rfl (w_lenSl (w_lss (c_dec (fun q => ?_) (fun q => kk _ x03)))))
    obtain ⟨m', hm'⟩ := getElem?_of_lt (l := l) (i := i) (by omega)
    obtain ⟨x, y, z, hc, mh⟩ := ML.get l cs ml i m' hm'
    obtain ⟨x', y', z', hc', mh'⟩ := ML.get l cs' ml' i m' hm'
    have hsz := sz_get l i m' hm'
    refine w_offP (w_rdP g1'' (v := .slice a l.length c) rfl (w_idx (sl.ex x03) (by omega) (by omega) fun p hp => ?_))
    have hp1 : PtrTo h3 p [x, y, z] := by rw [← hc]; rw [Int.toNat_natCast] at hp; exact hp
    refine w_rdA hp1 rfl ?_
    refine w_offP (w_rdP g2'' (v := .slice a' l.length c') rfl (w_idx (sl'.ex x03) (by omega) (by omega) fun p' hp' => ?_))
    have hp2 : PtrTo h3 p' [x', y', z'] := by rw [← hc']; rw [Int.toNat_natCast] at hp'; exact hp'
    refine w_rdA hp2 rfl ?_
    refine one46 N m' h3 _ _ _ (by omega) (by omega) (MH.mono (fun j hj => ⟨x03.get j hj, x03.lt hj⟩) m' _ mh) (MH.mono (fun j hj => ⟨x03.get j hj, x03.lt hj⟩) m' _ mh') fun h4 x4 => ?_
    refine w_notb (c_f (w_add (by omega) (by omega) ?_))
    exact ih (l.length - (i + 1)) _ _ (by omega) ⟨i + 1, by omega, rfl, f2, f3, rfl, x3.trans x4⟩
end Go.Proofs.Ytlenlhlipmkeeaa.W
end

section
/- Schema's laws: schemas that are the same. Conditions: none. -/
namespace Go.Proofs.Ytlenlhlipmkeeaa.W
open Go Go.AM SchM
set_option linter.unusedVariables false
set_option maxRecDepth 100000
def SM (h : AH) (x : W × List (W × Mdl)) (v : Value) : Prop :=
  ∃ a c cs, v = .agg #[.string (bs x.1), .slice a x.2.length c] ∧ Sl 4 h (.slice a x.2.length c) x.2.length cs ∧ EL h (fun j => j < h.length) x.2 cs
theorem SM.ex {h h' : AH} {x : W × List (W × Mdl)} {v : Value} (s : SM h x v) (e : Ex h h') : SM h' x v := by
  obtain ⟨a, c, cs, ev, sl, el⟩ := s
  exact ⟨a, c, cs, ev, sl.ex e, EL.mono (fun j hj => ⟨e.get j hj, e.lt hj⟩) _ _ el⟩
theorem SH.sm {h : AH} {b : Nat} {x : W × List (W × Mdl)} {v : Value} (s : SH h b x v) : SM h x v := by
  obtain ⟨a, c, cs, ev, sl, on, el⟩ := s
  exact ⟨a, c, cs, ev, sl, EL.mono (fun j hj => ⟨rfl, hj.1.2⟩) _ _ el⟩
theorem SM.nil (h : AH) : SM h ([], []) (.agg #[.string (bs []), .slice none 0 0]) := ⟨none, 0, [], rfl, ⟨rfl, .inl ⟨rfl, rfl⟩⟩, rfl⟩
set_option maxHeartbeats 1000000 in
theorem same19 {h : AH} {x : W × List (W × Mdl)} {v w : Value} {K : Value → AH → Prop} (s1 : SM h x v) (s2 : SM h x w) (hz : ∀ e ∈ x.2, sz e.2 ≤ 1000000) (hl : x.2.length ≤ 1000000) (k : ∀ h', Ex h h' → K (.bool true) h') : callW Try.prog 19 [v, w] h K := by
  obtain ⟨root, l⟩ := x
  obtain ⟨a, c, cs, rfl, sl, el⟩ := s1
  obtain ⟨a', c', cs', rfl, sl', el'⟩ := s2
  dsimp only at sl el sl' el' hz hl
  refine c19 ?_
  unfold s19
  refine n_boxv rfl fun h1 x1 l1 g1 => ?_
  refine n_boxv rfl fun h2 x2 l2 g2 => ?_
  have g1' : h2[h.length]? = some (.row [.string (bs root), .slice a l.length c] true) := x2.some g1
  have g2' : h2[h1.length]? = some (.row [.string (bs root), .slice a' l.length c'] true) := g2
  have x12 := x1.trans x2
  have t1 : ¬ ¬ (root = root) := nn rfl
  have t3 : ¬ ¬ (((l.length : Nat) : Int) = (l.length : Nat)) := nn rfl
  refine w_offP (w_rdP g1' (v := .string (bs root)) rfl (w_offP (w_rdP g2' (v := .string (bs root)) rfl (w_sneq ?_))))
  refine g_ff t1 (w_offP (g_ff t1 (w_rdP g1' (v := .slice a l.length c) rfl (g_ff t1 (w_lenSl (g_ff t1 (w_offP (g_ff t1 (w_rdP g2' (v := .slice a' l.length c') rfl (g_ff t1 (w_lenSl (g_ff t1 (w_neq (pk_ff t1 (c_ff t3 ?_)))))))))))))))
  refine loopE_intro (fun mm e h' => ∃ i : Nat, i ≤ l.length ∧ mm = l.length - i ∧ e 2 = .pointer (some ⟨h.length, 0, none⟩) ∧ e 3 = .pointer (some ⟨h1.length, 0, none⟩) ∧ e 5 = .int .i64 (i : Nat) ∧ Ex h2 h') l.length
    ⟨0, Nat.zero_le _, rfl, rfl, rfl, rfl, Ex.refl _⟩ ?_
  rintro I mm e h3 ⟨i, hi, hmm, f2, f3, f5, x3⟩ ih
  rw [f2, f3, f5]
  have g1'' := x3.some g1'
  have g2'' := x3.some g2'
  have x03 := x12.trans x3
  refine w_offP (w_rdP g1'' (v := .slice a l.length c) rfl (w_lenSl (w_lss (c_dec (fun q => ?_) (fun q => k _ x03)))))
  obtain ⟨⟨nw, m⟩, hm⟩ := getElem?_of_lt (l := l) (i := i) (by omega)
  obtain ⟨k1, n1, a1, l1', c1, hc, mh⟩ := EL.get l cs el i _ hm
  obtain ⟨k2, n2, a2, l2', c2, hc', mh'⟩ := EL.get l cs' el' i _ hm
  have hsz := hz _ (List.mem_of_getElem? hm)
  have t2 : ¬ ¬ (nw = nw) := nn rfl
  refine w_offP (w_rdP g1'' (v := .slice a l.length c) rfl (w_idx (sl.ex x03) (by omega) (by omega) fun p hp => ?_))
  have hp1 : PtrTo h3 p [.string (bs nw), .int .i64 k1, .string (bs n1), .slice a1 l1' c1] := by rw [Int.toNat_natCast, hc] at hp; exact hp
  refine w_off hp1 (by show 0 ≤ 4; decide) fun p0 hp0 => w_rd1 hp0 rfl ?_
  refine w_offP (w_rdP g2'' (v := .slice a' l.length c') rfl (w_idx (sl'.ex x03) (by omega) (by omega) fun q hq => ?_))
  have hq1 : PtrTo h3 q [.string (bs nw), .int .i64 k2, .string (bs n2), .slice a2 l2' c2] := by rw [Int.toNat_natCast, hc'] at hq; exact hq
  refine w_off hq1 (by show 0 ≤ 4; decide) fun q0 hq0 => w_rd1 hq0 rfl ?_
  refine w_sneq ?_
  refine gd_ff t2 (w_offP (gd_ff t2 (hist_nil (w_rdP g1'' (v := .slice a l.length c) rfl (gd_ff t2 (gd_ff t2 (w_idx (sl.ex x03) (by omega) (by omega) fun p2 hp2 => ?_)))))))
  have hp3 : PtrTo h3 p2 [.string (bs nw), .int .i64 k1, .string (bs n1), .slice a1 l1' c1] := by rw [Int.toNat_natCast, hc] at hp2; exact hp2
  refine gd_ff t2 (w_off hp3 (by show 1 ≤ 4; decide) fun p4 hp4 => gd_ff t2 (hist_nil (w_rdA hp4 rfl ?_)))
  refine gd_ff t2 (w_offP (gd_ff t2 (hist_nil (w_rdP g2'' (v := .slice a' l.length c') rfl (gd_ff t2 (gd_ff t2 (w_idx (sl'.ex x03) (by omega) (by omega) fun q2 hq2 => ?_)))))))
  have hq3 : PtrTo h3 q2 [.string (bs nw), .int .i64 k2, .string (bs n2), .slice a2 l2' c2] := by rw [Int.toNat_natCast, hc'] at hq2; exact hq2
  refine gd_ff t2 (w_off hq3 (by show 1 ≤ 4; decide) fun q4 hq4 => gd_ff t2 (hist_nil (w_rdA hq4 rfl ?_)))
  refine gd_ff t2 ?_
  refine one46 1000000 m h3 _ _ _ hsz (Nat.le_refl _) (MH.mono (fun j hj => ⟨x03.get j hj, x03.lt hj⟩) m _ mh) (MH.mono (fun j hj => ⟨x03.get j hj, x03.lt hj⟩) m _ mh') fun h4 x4 => ?_
  refine read_all ?_ fun t ht y hy => ?_
  · refine gd_ff t2 (w_notb (pk_ff t2 (c_f (w_add (by omega) (by omega) ?_))))
    exact ih (l.length - (i + 1)) _ _ (by omega) ⟨i + 1, by omega, rfl, f2, f3, rfl, x3.trans x4⟩
  · simp only [List.mem_cons, List.not_mem_nil, or_false] at ht
    rcases ht with rfl | rfl | rfl | rfl | rfl | rfl | rfl | rfl
    · exact PtrTo.ids hq4 (Ex.refl _) x4 y hy
    · exact ptr_id (x4.get _ (lt_of_get g2'')) y hy
    · exact PtrTo.ids hp4 (Ex.refl _) x4 y hy
    · exact ptr_id (x4.get _ (lt_of_get g1'')) y hy
    · exact PtrTo.ids hq0 (Ex.refl _) x4 y hy
    · exact ptr_id (x4.get _ (lt_of_get g2'')) y hy
    · exact PtrTo.ids hp0 (Ex.refl _) x4 y hy
    · exact ptr_id (x4.get _ (lt_of_get g1'')) y hy
end Go.Proofs.Ytlenlhlipmkeeaa.W
end

section
/- Schema's laws: words for the document's fits. Conditions: none. -/
namespace Go.Proofs.Ytlenlhlipmkeeaa.W
open Go Go.AM SchM
set_option linter.unusedVariables false
set_option maxRecDepth 100000
theorem gd_un {b : Bool} {f : (Value → AH → HT → ST → Prop) → Prop} {h : AH} {H : HT} {S : ST} {K : Value → AH → HT → ST → Prop} (k : K undef h H S) : gopD (gB undef b) f h H S K := k
theorem SM.nm {h : AH} {x : W × List (W × Mdl)} {root : W} {a : Option Addr} {n c : Nat} (s : SM h x (.agg #[.string (bs root), .slice a n c])) : root = x.1 ∧ n = x.2.length ∧ Nm h (.slice a n c) (x.2.map (·.1)) := by
  obtain ⟨a', c', cs, e, sl, el⟩ := s
  simp only [Value.agg.injEq, Array.mk.injEq, List.cons.injEq, Value.string.injEq, Value.slice.injEq, bs_inj, and_true] at e
  obtain ⟨rfl, rfl, rfl, rfl⟩ := e
  refine ⟨rfl, rfl, ⟨cs, by rw [List.length_map]; exact sl, fun i w hw => ?_⟩⟩
  rw [List.getElem?_map] at hw
  cases hl : x.2[i]? with
  | none => rw [hl] at hw; cases hw
  | some e =>
    rw [hl] at hw
    cases hw
    obtain ⟨k, n, a, ll, c, h1, _⟩ := EL.get x.2 cs el i e hl
    exact ⟨k, n, a, ll, c, h1⟩
theorem find44x {h : AH} {x : W × List (W × Mdl)} {v : Value} {nm : W} {K : Value → AH → Prop} (s : SM h x v) (hn : x.2.length ≤ 100000000000) (k : ∀ h', Ex h h' → K (.int .i64 ((scOf x).fd nm)) h') : callW Try.prog 44 [v, .string (bs nm)] h K := by
  obtain ⟨a, c, cs, rfl, _, _⟩ := id s
  obtain ⟨_, _, nmx⟩ := s.nm
  obtain ⟨cs, sl, hc⟩ := nmx.ex
  rw [List.length_map] at sl
  refine c44 ?_
  unfold s44
  refine n_boxv rfl fun h1 x1 l1 g1 => ?_
  have g1' : h1[h.length]? = some (.row [.string (bs x.1), .slice a x.2.length c] true) := g1
  refine loopE_intro (fun m e h' => ∃ j : Nat, j ≤ x.2.length ∧ m = x.2.length - j ∧ e 1 = .string (bs nm) ∧ e 2 = .pointer (some ⟨h.length, 0, none⟩) ∧ e 5 = .int .i64 (j : Nat) ∧ h' = h1 ∧ ∀ i e', i < j → x.2[i]? = some e' → e'.1 ≠ nm) x.2.length
    ⟨0, Nat.zero_le _, rfl, rfl, rfl, rfl, rfl, fun i e' h => by omega⟩ ?_
  rintro I m e h2 ⟨j, hj, hm, e1, e2, e5, rfl, hni⟩ ih
  rw [e1, e2, e5]
  refine w_offP (w_rdP g1' (v := .slice a x.2.length c) rfl (w_lenSl (w_lss (c_dec (fun q => ?_) (fun q => ?_)))))
  · obtain ⟨w, hw⟩ := getElem?_of_lt (l := x.2) (i := j) (by omega)
    obtain ⟨k', nn, a', ll, c, ec⟩ := hc j w.1 (by rw [List.getElem?_map, hw]; rfl)
    refine w_offP (w_rdP g1' (v := .slice a x.2.length _) rfl (w_idx (sl.ex x1) (by omega) (by omega) fun p hp => ?_))
    rw [Int.toNat_natCast, ec] at hp
    refine w_off hp (Nat.zero_le _) fun p' hp' => w_rd1 hp' rfl (w_seql (c_dec (fun q2 => ?_) (fun q2 => ?_)))
    · have hf : x.2.findIdx? (fun e => decide (e.1 = nm)) = some j := by
        rw [List.findIdx?_eq_some_iff_getElem]
        have hjl := get_lt hw
        refine ⟨hjl, ?_, fun i hi => ?_⟩
        · rw [List.getElem?_eq_getElem hjl] at hw
          rw [Option.some.inj hw]
          exact decide_eq_true q2
        · have := hni i _ hi (List.getElem?_eq_getElem (by omega))
          simpa using this
      have e3 : (scOf x).fd nm = ((j : Nat) : Int) := by
        show (x.2.findIdx? (fun e => decide (e.1 = nm))).elim (-1) (fun i => (i : Int)) = _
        rw [hf]
        rfl
      rw [← e3]
      exact k h2 x1
    · refine w_add (by omega) (by omega) ?_
      refine ih (x.2.length - (j + 1)) _ _ (by omega) ⟨j + 1, by omega, rfl, e1, e2, rfl, rfl, fun i e' h1 h2 => ?_⟩
      by_cases ei : i = j
      · subst ei
        rw [hw] at h2
        cases h2
        exact q2
      · exact hni i e' (by omega) h2
  · have hf : x.2.findIdx? (fun e => decide (e.1 = nm)) = none := by
      rw [List.findIdx?_eq_none_iff]
      intro e' he'
      obtain ⟨i, hi⟩ := List.mem_iff_getElem?.1 he'
      have := hni i e' (by have := get_lt hi; omega) hi
      simpa using this
    have e3 : (scOf x).fd nm = -1 := by
      show (x.2.findIdx? (fun e => decide (e.1 = nm))).elim (-1) (fun i => (i : Int)) = _
      rw [hf]
      rfl
    rw [← e3]
    exact k h2 x1
theorem or_kind {b : Array Nat} {j : Nat} {t : Bool} {id : Nat} {kk cst : Int} {h : AH} {cc : List Value} {w : Bool} (g : h[id]? = some (.row cc w)) (hc : cc[0]? = some (.int .i64 kk)) {S : ST} {K : Value → Value → Value → Value → AH → HT → ST → Prop}
    (k : ∀ v1 v2 v3 S', (∀ i ∈ S'.map (·.1), i = j ∨ i ∈ S.map (·.1)) → K v1 v2 v3 (.bool (t || decide (kk = cst))) h [] S') :
    gopD (gB (.bool t) false) (fun k => optW (pOff 0 (.pointer (some ⟨id, 0, none⟩))) fun v => k v h [] S) h [] S fun v1 h1 H1 S1 =>
    gopD (gB (.bool t) false) (fun k => histC b j (ceOf 1 v1) H1 (optW (rdRow false 1 v1 h1) fun v => k v h1 H1 ((j, ceOf 1 v1) :: S1))) h1 H1 S1 fun v2 h2 H2 S2 =>
    gopD (gB (.bool t) false) (fun k => optW (pBin Try.prog .eql 3 v2 (.int .i64 cst)) fun v => k v h2 H2 S2) h2 H2 S2 fun v3 h3 H3 S3 =>
    optW (pPick (.bool t) (.bool true) v3) fun v4 => K v1 v2 v3 v4 h3 H3 S3 := by
  cases t with
  | true => exact gdc_ft (gdc_ft (gdc_ft (pk_t (k _ _ _ S fun i hi => .inr hi))))
  | false =>
    refine gdc_ff (w_offP (gdc_ff (hist_nil ?_)))
    refine w_rdP g (v := .int .i64 kk) hc ?_
    refine gdc_ff (w_eql (pk_f ?_))
    have := k (.pointer (some ⟨id, 0 + 0, none⟩)) (.int .i64 kk) (.bool (decide (kk = cst))) ((j, ceOf 1 (.pointer (some ⟨id, 0 + 0, none⟩))) :: S) (fun i hi => by
      rw [List.map_cons, List.mem_cons] at hi
      exact hi)
    rw [Bool.false_or] at this
    exact this
end Go.Proofs.Ytlenlhlipmkeeaa.W
end

section
/- Schema's laws: the document's fits: from which place to which a row of children is a model's. Conditions: none. -/
namespace Go.Proofs.Ytlenlhlipmkeeaa.W
open Go Go.AM SchM
set_option linter.unusedVariables false
set_option maxRecDepth 100000
abbrev Rr (x : W × List (W × Mdl)) (row : List Nat) (m : Mdl) : Nat → Nat → Prop := MR (scOf x).fd (scOf x).T (rowS row) m
theorem RTr_le {row : List Nat} {a b : Nat} (h : RT (Any (rowS row)) a b) : a ≤ row.length → b ≤ row.length := by
  induction h with
  | nil i => exact fun h => h
  | cons h1 _ ih => exact fun _ => ih (let ⟨c, hc⟩ := h1; (rowS_lt hc).2)
theorem Rr_in {x : W × List (W × Mdl)} {row : List Nat} {m : Mdl} {a b : Nat} (h : Rr x row m a b) (ha : a ≤ row.length) : b ≤ row.length := RTr_le (MR_any m h) ha
theorem Rr_mk {x : W × List (W × Mdl)} {row : List Nat} {k : Int} {n : W} {l : List Mdl} {i j : Nat} : Rr x row (.mk k n l) i j ↔ (k = 1 ∧ i = j) ∨ (k = 2 ∧ RT (Any (rowS row)) i j) ∨ (k = 3 ∧ rowS row (scOf x).T i j) ∨ (k = 4 ∧ ∃ c : Nat, (scOf x).fd n = c ∧ rowS row c i j) ∨ (k = 5 ∧ MSeq (scOf x).fd (scOf x).T (rowS row) l i j) ∨ (k = 6 ∧ MOr (scOf x).fd (scOf x).T (rowS row) l i j) ∨
      (k = 7 ∧ RT (MHd (scOf x).fd (scOf x).T (rowS row) l) i j) ∨ (k = 8 ∧ ∃ m, MHd (scOf x).fd (scOf x).T (rowS row) l i m ∧ RT (MHd (scOf x).fd (scOf x).T (rowS row) l) m j) ∨ (k = 9 ∧ (i = j ∨ MHd (scOf x).fd (scOf x).T (rowS row) l i j)) := by
  show MR _ _ _ (.mk k n l) i j ↔ _
  rw [MR]
theorem MHdr_one {x : W × List (W × Mdl)} {row : List Nat} {m : Mdl} : MHd (scOf x).fd (scOf x).T (rowS row) [m] = Rr x row m := by
  funext a b
  show MHd _ _ _ [m] a b = MR _ _ _ m a b
  rw [MHd]
def D0 (x : W × List (W × Mdl)) (row : List Nat) (kk : Int) (n : W) (i j : Nat) : Prop :=
  (j = i ∧ (kk = 1 ∨ kk = 7 ∨ kk = 9 ∨ kk = 5)) ∨ (i ≤ j ∧ j ≤ row.length ∧ kk = 2) ∨ (j = i + 1 ∧ ((kk = 3 ∧ row[i]? = some x.2.length) ∨ (kk = 4 ∧ ∃ c : Nat, row[i]? = some c ∧ (scOf x).fd n = c)))
set_option maxHeartbeats 8000000 in
theorem fits68 {x : W × List (W × Mdl)} {row : List Nat} (hT : x.2.length ≤ 100000000000) (hn : row.length ≤ 100000000000) : ∀ (N : Nat) (m : Mdl), sz m ≤ N → N ≤ 100000000000 → okM m = true → ∀ (h : AH) (sv mv rv : Value) (K : Value → AH → Prop), SM h x sv → MH h (fun j => j < h.length) m mv → SlT 1 eI h rv (row.map fun c : Nat => (c : Int)) →
    (∀ v h', Ex h h' → MT h' h.length row.length v (Rr x row m) → K v h') → callW Try.prog 68 [sv, mv, rv] h K
  | 0, m, hN, _, _, _, _, _, _, _, _, _, _, _ => by have := sz_pos m; omega
  | N + 1, .mk kk n l, hN, hN2, hok, h, sv, mv, rv, K, hs, hm, hr, k => by
    obtain ⟨okl, cases_⟩ := okM_cases hok
    have hszl : ∀ i m', l[i]? = some m' → sz m' ≤ N := fun i m' hi => by
      have := sz_get l i m' hi
      have h2 : sz (.mk kk n l) = 1 + szL l := rfl
      omega
    have hln : l.length ≤ 100000000000 := by
      have h1 := szL_len l
      have h2 : sz (.mk kk n l) = 1 + szL l := rfl
      omega
    obtain ⟨La, Lc, Lcs, rfl, Lsl, _⟩ := id hs
    unfold MH at hm
    obtain ⟨a, cp, cs, rfl, sl, _, ml⟩ := hm
    obtain ⟨ra, rc, hrv⟩ := hr.shape
    rw [List.length_map] at hrv
    subst hrv
    refine c68 ?_
    unfold s68
    refine n_boxv rfl fun h1 x1 l1 g1 => ?_
    refine n_boxv rfl fun h2 x2 l2 g2 => ?_
    have g1 : h2[h.length]? = some (.row [.string (bs x.1), .slice La x.2.length Lc] true) := x2.some g1
    have g2 : h2[h1.length]? = some (.row [.int .i64 kk, .string (bs n), .slice a l.length cp] true) := g2
    have e1 : ((row.length : Nat) : Int) + 1 = ((row.length + 1 : Nat) : Int) := by omega
    refine w_lenSl (w_add (by omega) (by omega) ?_)
    rw [e1]
    refine mkNil (by omega) fun vals hvl => ?_
    refine n_newv fun h3 x3 l3 g3 => ?_
    have X3 : Ex h h3 := x1.trans (x2.trans x3)
    have G1 := x3.some g1
    have G2 := x3.some g2
    refine loopE_intro (fun mm e h4 => ∃ y : Nat, y ≤ row.length + 1 ∧ mm = row.length + 1 - y ∧ e 2 = .slice ra row.length rc ∧ e 3 = .pointer (some ⟨h.length, 0, none⟩) ∧ e 4 = .pointer (some ⟨h1.length, 0, none⟩) ∧ e 7 = .int .i64 ((row.length : Nat) : Int) ∧ e 8 = .slice (some ⟨h2.length, 0, none⟩) (row.length + 1) (row.length + 1) ∧ e 9 = .int .i64 (y : Nat) ∧ Exx h2.length h3 h4 ∧
        UT h4 h2.length h2.length y row.length (D0 x row kk n)) (row.length + 1)
      ⟨0, Nat.zero_le _, rfl, rfl, rfl, rfl, rfl, rfl, rfl, .refl _ _, UT.start g3 hvl⟩ ?_
    rintro I mm e h4 ⟨y, hy, hmm, e2, e3, e4, e7, e8, e9, x4, t⟩ ih
    rw [e7, e9]
    refine w_leq (c_dec (fun q => ?_) (fun q => ?_))
    · refine w_add (by omega) (by omega) ?_
      rw [e1, e4, e8]
      refine t.row (by omega) (by omega) fun h5 x5 l5 cu => ?_
      have X5 : Exx h2.length h3 h5 := x4.trans x5
      have hl4 := x4.len
      have G25 := X5.some G2 (by omega)
      have G15 := X5.some G1 (by omega)
      refine cu.rdT (by omega) ?_
      refine w_offP (w_rdP G25 (v := .int .i64 kk) rfl (w_eql ?_))
      refine or_kind G25 rfl fun v1 v2 v3 S1 hS1 => ?_
      refine or_kind G25 rfl fun v4 v5 v6 S2 hS2 => ?_
      refine or_kind G25 rfl fun v7 v8 v9 S3 hS3 => ?_
      generalize hz : (((decide (kk = 1) || decide (kk = 7)) || decide (kk = 9)) || decide (kk = 5)) = z
      have hz' : z = true ↔ (kk = 1 ∨ kk = 7 ∨ kk = 9 ∨ kk = 5) := by
        rw [← hz]
        simp [or_assoc]
      have put : ∀ {h6 : AH} {Q : Nat → Prop} {j jj : Nat} {b : Array Nat} {zz : Bool} {S : ST} {H : HT} {K2 : Value → AH → Prop}, CU h6 h2.length h2.length y row.length (D0 x row kk n) h4.length (.slice (some ⟨h4.length, 0, none⟩) (row.length + 1) (row.length + 1)) Q → j ≤ row.length →
          (∀ t ∈ H, ∀ x ∈ obOf (.pointer (some ⟨h4.length, j, none⟩)), vw x t.2.1 = vw x t.2.2) → (S.map (·.1)).all (fun i => !(free b i jj && Nat.blt i jj)) = true → Exx h2.length h3 h6 → h4.length ≤ h6.length →
          (∀ h7, CU h7 h2.length h2.length y row.length (D0 x row kk n) h4.length (.slice (some ⟨h4.length, 0, none⟩) (row.length + 1) (row.length + 1)) (fun w => (w = j ∧ zz = true) ∨ (w ≠ j ∧ Q w)) → Exx h2.length h3 h7 → h6.length = h7.length → K2 (.pointer (some ⟨h4.length, j, none⟩)) h7) →
          optW (pIdxS 1 (.slice (some ⟨h4.length, 0, none⟩) (row.length + 1) (row.length + 1)) (.int .i64 (j : Nat))) fun v => histC b jj (obOf v) H (optW (pStore 1 v (.bool zz) h6) fun h' => readC b jj h6 h' S (K2 v h')) := by
        intro h6 Q j jj b zz S H K2 cu6 hj hH hS X6 hl6 k2
        obtain ⟨cap, bl, eb, hb2, hb3, hb4, hb5⟩ := cu6.b.ex
        have hlo := cu6.lo
        refine ix1 (by omega) (hist_all ?_ hH)
        refine w_stP hb3 (by rw [flat_length eBo_len]; omega) rfl rfl (read_dep hS ?_)
        have xx : Exx h4.length h6 (h6.set h4.length (.row ((flat eBo bl).set j (.bool zz)) true)) := ⟨by simp, fun y hy hyi => get_ne (Ne.symm hyi) _⟩
        refine k2 _ (cu6.keep xx ⟨cap, bl.set j zz, eb, hb2, by rw [get_set _ (lt_of_get hb3), flat_eBo_set], by simpa using hb4, fun w => ?_⟩) ⟨Nat.le_trans X6.len xx.len, fun w hw hwi => ?_⟩ (by simp)
        · by_cases e : j = w
          · subst e
            rw [List.getElem?_set_self (by omega)]
            simp
          · rw [List.getElem?_set_ne e, hb5 w]
            have : w ≠ j := fun h => e h.symm
            simp [this]
        · rw [xx.get w (Nat.lt_of_lt_of_le hw X6.len) (by omega)]
          exact X6.get w hw hwi
      refine put cu (by omega) (fun t ht => by cases ht) ?_ X5 (by omega) fun h6 cu6 X6 l6 => ?_
      · refine List.all_eq_true.2 fun i hi => ?_
        have : i = 20 ∨ i = 15 ∨ i = 10 ∨ i = 6 ∨ i = 3 := by
          rcases hS3 i hi with h | h
          · exact .inl h
          · rcases hS2 i h with h | h
            · exact .inr (.inl h)
            · rcases hS1 i h with h | h
              · exact .inr (.inr (.inl h))
              · have h : i ∈ [6, 3] := h
                simp at h
                omega
        rcases this with rfl | rfl | rfl | rfl | rfl <;> decide +kernel
      refine loopE_intro (fun mm e h7 => ∃ j : Nat, y ≤ j ∧ j ≤ row.length + 1 ∧ mm = row.length + 1 - j ∧ e 2 = .slice ra row.length rc ∧ e 3 = .pointer (some ⟨h.length, 0, none⟩) ∧ e 4 = .pointer (some ⟨h1.length, 0, none⟩) ∧ e 7 = .int .i64 ((row.length : Nat) : Int) ∧ e 8 = .slice (some ⟨h2.length, 0, none⟩) (row.length + 1) (row.length + 1) ∧ e 9 = .int .i64 (y : Nat) ∧ e 10 = .int .i64 (j : Nat) ∧ Exx h2.length h3 h7 ∧ h4.length < h7.length ∧
          CU h7 h2.length h2.length y row.length (D0 x row kk n) h4.length (.slice (some ⟨h4.length, 0, none⟩) (row.length + 1) (row.length + 1)) (fun w => (w = y ∧ z = true) ∨ (y ≤ w ∧ w < j ∧ kk = 2))) (row.length + 1 - y)
        ⟨y, Nat.le_refl _, hy, rfl, e2, e3, e4, e7, e8, e9, rfl, X6, by omega, cu6.congr fun w => ?_⟩ ?_
      · constructor
        · rintro (h | ⟨_, h⟩)
          · exact .inl h
          · exact h.elim
        · rintro (h | ⟨h1, h2, _⟩)
          · exact .inl h
          · omega
      rintro I1 mm1 e' h7 ⟨j, hyj, hj, hmm1, f2, f3, f4, f7, f8, f9, f10, x7, l7, cu7⟩ ih1
      rw [f7, f9, f10]
      have G27 := x7.some G2 (by omega)
      have G17 := x7.some G1 (by omega)
      refine w_leq (c_dec (fun q2 => ?_) (fun q2 => ?_))
      · rw [f4, f8]
        have hlt2 : row.length + 1 - (j + 1) < mm1 := by omega
        have hj1 : y ≤ j + 1 := by omega
        have hj2 : j + 1 ≤ row.length + 1 := by omega
        have hj0 : j ≤ row.length := by omega
        refine cu7.rdT (by omega) ?_
        refine cu7.rdT (by omega) ?_
        refine cu7.b.rd hj0 fun t ht => ?_
        refine or_kind G27 rfl fun v1 v2 v3 S1 hS1 => ?_
        refine put cu7 hj0 (fun t ht => by cases ht) ?_ x7 (by omega) fun h8 cu8 X8 l8 => ?_
        · refine List.all_eq_true.2 fun i hi => ?_
          have : i = 14 ∨ i = 11 ∨ i = 8 ∨ i = 3 := by
            rcases hS1 i hi with h | h
            · exact .inl h
            · have h : i ∈ [11, 8, 3] := h
              simp at h
              omega
          rcases this with rfl | rfl | rfl | rfl <;> decide +kernel
        · refine w_add (by omega) (by omega) (ih1 (row.length + 1 - (j + 1)) _ _ hlt2 ⟨j + 1, hj1, hj2, rfl, f2, f3, f4, f7, f8, f9, rfl, X8, by omega, cu8.congr fun w => ?_⟩)
          by_cases ew : w = j
          · subst ew
            simp only [Bool.or_eq_true, decide_eq_true_eq, true_and, ne_eq, not_true_eq_false, false_and, or_false, ht]
            constructor
            · rintro ((h | ⟨h1, h2, h3⟩) | h)
              · exact .inl h
              · omega
              · exact .inr ⟨hyj, Nat.lt_succ_self _, h⟩
            · rintro (h | ⟨h1, h2, h3⟩)
              · exact .inl (.inl h)
              · exact .inr h3
          · constructor
            · rintro (⟨h, _⟩ | ⟨_, h | ⟨h1, h2, h3⟩⟩)
              · exact absurd h ew
              · exact .inl h
              · exact .inr ⟨h1, by omega, h3⟩
            · rintro (h | ⟨h1, h2, h3⟩)
              · exact .inr ⟨ew, .inl h⟩
              · exact .inr ⟨ew, .inr ⟨h1, by omega, h3⟩⟩
      · have ej : j = row.length + 1 := by omega
        subst ej
        refine w_lss ?_
        by_cases q3 : ((y : Nat) : Int) < ((row.length : Nat) : Int)
        · refine c_tt q3 ?_
          rw [f2, f3, f4, f8]
          refine cu7.rdT (by omega) ?_
          refine w_add (by omega) (by omega) ?_
          refine cu7.rdT (by omega) ?_
          refine w_add (by omega) (by omega) ?_
          have ey1 : ((y : Nat) : Int) + 1 = ((y + 1 : Nat) : Int) := by omega
          rw [ey1]
          obtain ⟨rw_, hrw⟩ := getElem?_of_lt (l := row) (i := y) (by omega)
          have hr7 : SlT 1 eI h7 (.slice ra row.length rc) (row.map fun c : Nat => (c : Int)) := hr.ex (Exx.base X3 x7 (by omega))
          have hrw' : (row.map fun c : Nat => (c : Int))[y]? = some ((rw_ : Nat) : Int) := by rw [List.getElem?_map, hrw]; rfl
          have fin : ∀ {h8 : AH} {zz : Bool} {S : ST} {H : HT} {K2 : Value → AH → Prop}, CU h8 h2.length h2.length y row.length (D0 x row kk n) h4.length (.slice (some ⟨h4.length, 0, none⟩) (row.length + 1) (row.length + 1)) (fun w => (w = y ∧ z = true) ∨ (y ≤ w ∧ w < row.length + 1 ∧ kk = 2)) →
              (zz = true ↔ ((y + 1 = y ∧ z = true) ∨ (y ≤ y + 1 ∧ y + 1 < row.length + 1 ∧ kk = 2)) ∨ (kk = 3 ∧ rw_ = x.2.length) ∨ (kk = 4 ∧ (scOf x).fd n = (rw_ : Int))) →
              (∀ t ∈ H, ∀ x ∈ obOf (.pointer (some ⟨h4.length, y + 1, none⟩)), vw x t.2.1 = vw x t.2.2) → (S.map (·.1)).all (fun i => !(free #[0, 0, 3, 7, 0, 16, 0, 0, 192, 448, 0, 1024, 4032, 8128, 16320, 32704, 65472, 131008, 262080, 524224, 524224, 2097088, 4194240, 524224, 8912832, 25690048, 67108800, 134217664, 268435392, 536870848, 1073741760, 2147483584, 4294967232, 8589934528, 17179869120, 17179869120, 68719476672, 137438953408, 17179869120, 17179869120, 566935683008, 1941325217728, 4398046511040, 8796093022144, 17592186044352, 35184372088831, 70368744177663] i 46 && Nat.blt i 46)) = true → Exx h2.length h3 h8 → h4.length ≤ h8.length →
              (∀ h9, UT h9 h2.length h2.length (y + 1) row.length (D0 x row kk n) → Exx h2.length h3 h9 → K2 (.pointer (some ⟨h4.length, y + 1, none⟩)) h9) →
              optW (pIdxS 1 (.slice (some ⟨h4.length, 0, none⟩) (row.length + 1) (row.length + 1)) (.int .i64 ((y + 1 : Nat) : Int))) fun v => histC #[0, 0, 3, 7, 0, 16, 0, 0, 192, 448, 0, 1024, 4032, 8128, 16320, 32704, 65472, 131008, 262080, 524224, 524224, 2097088, 4194240, 524224, 8912832, 25690048, 67108800, 134217664, 268435392, 536870848, 1073741760, 2147483584, 4294967232, 8589934528, 17179869120, 17179869120, 68719476672, 137438953408, 17179869120, 17179869120, 566935683008, 1941325217728, 4398046511040, 8796093022144, 17592186044352, 35184372088831, 70368744177663] 46 (obOf v) H (optW (pStore 1 v (.bool zz) h8) fun h' => readC #[0, 0, 3, 7, 0, 16, 0, 0, 192, 448, 0, 1024, 4032, 8128, 16320, 32704, 65472, 131008, 262080, 524224, 524224, 2097088, 4194240, 524224, 8912832, 25690048, 67108800, 134217664, 268435392, 536870848, 1073741760, 2147483584, 4294967232, 8589934528, 17179869120, 17179869120, 68719476672, 137438953408, 17179869120, 17179869120, 566935683008, 1941325217728, 4398046511040, 8796093022144, 17592186044352, 35184372088831, 70368744177663] 46 h8 h' S (K2 v h')) := by
            intro h8 zz S H K2 cu8 hzz hH hS X8 l8 k2
            refine put cu8 (by omega) hH hS X8 l8 fun h9 cu9 X9 l9 => k2 h9 (cu9.done fun w => ?_) X9
            rw [hzz]
            unfold D0
            rw [hrw, ← hz']
            constructor
            · rintro (⟨rfl, (⟨h, _⟩ | ⟨h1, h2, h3⟩) | h | ⟨h3, h4⟩⟩ | ⟨h, h1 | ⟨h1, h2, h3⟩⟩)
              · omega
              · exact .inr (.inl ⟨h1, by omega, h3⟩)
              · exact .inr (.inr ⟨rfl, .inl ⟨h.1, by rw [h.2]⟩⟩)
              · exact .inr (.inr ⟨rfl, .inr ⟨h3, rw_, rfl, h4⟩⟩)
              · exact .inl h1
              · exact .inr (.inl ⟨h1, by omega, h3⟩)
            · rintro (⟨h1, h2⟩ | ⟨h1, h2, h3⟩ | ⟨rfl, ⟨h1, h2⟩ | ⟨h1, c, h2, h3⟩⟩)
              · exact .inr ⟨by omega, .inl ⟨h1, h2⟩⟩
              · by_cases ew : w = y + 1
                · subst ew
                  exact .inl ⟨rfl, .inl (.inr ⟨by omega, by omega, h3⟩)⟩
                · exact .inr ⟨ew, .inr ⟨h1, by omega, h3⟩⟩
              · exact .inl ⟨rfl, .inr (.inl ⟨h1, Option.some.inj h2⟩)⟩
              · rw [← Option.some.inj h2] at h3
                exact .inl ⟨rfl, .inr (.inr ⟨h1, h3⟩)⟩
          have nxt : ∀ (E : Env) (h9 : AH), UT h9 h2.length h2.length (y + 1) row.length (D0 x row kk n) → Exx h2.length h3 h9 → E 2 = .slice ra row.length rc → E 3 = .pointer (some ⟨h.length, 0, none⟩) → E 4 = .pointer (some ⟨h1.length, 0, none⟩) → E 7 = .int .i64 ((row.length : Nat) : Int) → E 8 = .slice (some ⟨h2.length, 0, none⟩) (row.length + 1) (row.length + 1) → E 9 = .int .i64 ((y + 1 : Nat) : Int) → I E h9 := by
            intro E h9 ut9 X9 F2 F3 F4 F7 F8 F9
            exact ih (row.length + 1 - (y + 1)) _ _ (by omega) ⟨y + 1, by omega, rfl, F2, F3, F4, F7, F8, F9, X9, ut9⟩
          refine cu7.b.rd (j := y + 1) (by omega) fun b5 hb5 => ?_
          cases b5 with
          | true =>
            refine gdc_ft (gdc_ft (gdc_ft (gdc_ft (gd_un (gd_un (gd_un (gd_un (gd_un (gd_un (gd_un (gd_un (gdc_ft (pk_t ?_)))))))))))))
            refine gdc_ft (gdc_ft (gdc_ft (gdc_ft (gd_un (gd_un (gd_un (gd_un (gd_un (gd_un (gd_un (gd_un (gd_un (gdc_ft (pk_t ?_))))))))))))))
            refine fin (zz := true) cu7 ⟨fun _ => .inl (hb5.1 rfl), fun _ => rfl⟩ (fun t ht => by cases ht) ?_ x7 (by omega) fun h9 ut9 X9 => w_add (by omega) (by omega) ?_
            · show List.all [13, 9, 3] _ = true
              decide +kernel
            exact nxt _ h9 ut9 X9 f2 f3 f4 f7 f8 rfl
          | false =>
            have hb5' : ¬ ((y + 1 = y ∧ z = true) ∨ (y ≤ y + 1 ∧ y + 1 < row.length + 1 ∧ kk = 2)) := fun h => absurd (hb5.2 h) Bool.false_ne_true
            refine gdc_ff (w_offP (gdc_ff (hist_nil ?_)))
            refine w_rdP G27 (v := .int .i64 kk) rfl ?_
            refine gdc_ff (w_eql (gdc_ff ?_))
            by_cases q4 : kk = 3
            · refine gd_tt q4 (gd_tt q4 (gd_tt q4 ?_))
              refine w_idxN (enc := eI) eI_len hr7 hrw' fun pp hpp => ?_
              refine gd_tt q4 (hist_nil ?_)
              refine w_rd1 hpp (x := .int .i64 ((rw_ : Nat) : Int)) rfl ?_
              refine gd_tt q4 (w_offP (gd_tt q4 (hist_nil ?_)))
              refine w_rdP G17 (v := .slice La x.2.length Lc) rfl ?_
              refine gd_tt q4 (w_lenSl (gd_tt q4 (w_eql (gdc_ff (pk_tt q4 (pk_f ?_))))))
              by_cases q5 : ((rw_ : Nat) : Int) = ((x.2.length : Nat) : Int)
              · rw [decide_eq_true q5]
                refine gdc_ft (gdc_ft (gdc_ft (gdc_ft (gd_un (gd_un (gd_un (gd_un (gd_un (gd_un (gd_un (gd_un (gd_un (gdc_ft (pk_t ?_))))))))))))))
                refine fin (zz := true) cu7 ⟨fun _ => .inr (.inl ⟨q4, by omega⟩), fun _ => rfl⟩ (fun t ht => by cases ht) ?_ x7 (by omega) fun h9 ut9 X9 => w_add (by omega) (by omega) ?_
                · show List.all [24, 22, 16, 13, 9, 3] _ = true
                  decide +kernel
                exact nxt _ h9 ut9 X9 f2 f3 f4 f7 f8 rfl
              · rw [decide_eq_false q5]
                refine gdc_ff (w_offP (gdc_ff (hist_nil ?_)))
                refine w_rdP G27 (v := .int .i64 kk) rfl ?_
                have q6 : ¬ kk = 4 := by omega
                refine gdc_ff (w_eql (gdc_ff (gd_tf q6 (gd_tf q6 (gd_tf q6 (gd_tf q6 (gd_tf q6 (gd_tf q6 (gd_tf q6 (gd_tf q6 (gd_tf q6 (gdc_ff (pk_ff q6 (pk_f ?_))))))))))))))
                refine fin (zz := false) cu7 ⟨fun h => absurd h Bool.false_ne_true, fun h => h.elim (fun h => absurd h hb5') fun h => h.elim (fun h => by omega) fun h => by omega⟩ (fun t ht => by cases ht) ?_ x7 (by omega) fun h9 ut9 X9 => w_add (by omega) (by omega) ?_
                · show List.all [31, 24, 22, 16, 13, 9, 3] _ = true
                  decide +kernel
                exact nxt _ h9 ut9 X9 f2 f3 f4 f7 f8 rfl
            · refine gd_tf q4 (gd_tf q4 (gd_tf q4 (gd_tf q4 (gd_tf q4 (gd_tf q4 (gd_tf q4 (gd_tf q4 (gdc_ff (pk_ff q4 (pk_f ?_))))))))))
              refine gdc_ff (w_offP (gdc_ff (hist_nil ?_)))
              refine w_rdP G27 (v := .int .i64 kk) rfl ?_
              refine gdc_ff (w_eql (gdc_ff ?_))
              by_cases q6 : kk = 4
              · refine gd_tt q6 (gd_tt q6 (gd_tt q6 ?_))
                refine w_idxN (enc := eI) eI_len hr7 hrw' fun pp hpp => ?_
                refine gd_tt q6 (hist_nil ?_)
                refine w_rd1 hpp (x := .int .i64 ((rw_ : Nat) : Int)) rfl ?_
                refine gd_tt q6 (hist_nil ?_)
                refine w_rdPA G17 (Nat.le_refl 2) ?_
                refine gd_tt q6 (w_offP (gd_tt q6 (hist_nil ?_)))
                refine w_rdP G27 (v := .string (bs n)) rfl ?_
                refine gd_tt q6 ?_
                refine find44x (hs.ex (Exx.base X3 x7 (by omega))) hT fun h8 x8 => ?_
                have lz := x7.len
                have lc := cu7.b.lt
                refine read_all ?_ ?_
                · refine gd_tt q6 (w_eql (gdc_ff (pk_tt q6 (pk_f ?_))))
                  generalize hzz : decide (((rw_ : Nat) : Int) = (scOf x).fd n) = zz
                  have hzz' : zz = true ↔ ((rw_ : Nat) : Int) = (scOf x).fd n := by rw [← hzz]; exact decide_eq_true_iff
                  refine fin (zz := zz) (cu7.ext x8) ⟨fun h => .inr (.inr ⟨q6, (hzz'.1 h).symm⟩), fun h => h.elim (fun h => absurd h hb5') fun h => h.elim (fun h => absurd h.1 q4) fun h => hzz'.2 h.2.symm⟩ ?_ ?_ (x7.ex x8) (by have := x8.len; omega) fun h9 ut9 X9 => w_add (by omega) (by omega) ?_
                  · intro t ht x hx
                    rw [List.mem_singleton] at ht
                    subst ht
                    have hx : x ∈ [Go.AM.Loc.obj h4.length] := hx
                    rw [List.mem_singleton] at hx
                    subst hx
                    exact vw_eq (x8.get h4.length lc).symm
                  · show List.all [40, 38, 37, 31, 16, 13, 9, 3] _ = true
                    decide +kernel
                  exact nxt _ h9 ut9 X9 f2 f3 f4 f7 f8 rfl
                · have ok8 : ∀ (n i off : Nat), i < h7.length → ∀ z ∈ ceOf n (.pointer (some ⟨i, off, none⟩)), vw z h7 = vw z h8 := fun n i off hi z hz => by
                    rw [ce_id hz]
                    exact vw_eq (x8.get i hi).symm
                  have okp := PtrTo.ids (n := 1) hpp (Ex.refl _) x8
                  intro t ht z hz
                  simp only [List.mem_cons, List.not_mem_nil, or_false] at ht
                  rcases ht with rfl | rfl | rfl | rfl | rfl | rfl | rfl | rfl
                  · exact ok8 _ _ _ (by omega) z hz
                  · exact ok8 _ _ _ (by omega) z hz
                  · exact okp z hz
                  · exact ok8 _ _ _ (by omega) z hz
                  · exact ok8 _ _ _ (by omega) z hz
                  · exact ok8 _ _ _ (by omega) z hz
                  · exact ok8 _ _ _ (by omega) z hz
                  · exact ok8 _ _ _ (by omega) z hz
              · refine gd_tf q6 (gd_tf q6 (gd_tf q6 (gd_tf q6 (gd_tf q6 (gd_tf q6 (gd_tf q6 (gd_tf q6 (gd_tf q6 (gdc_ff (pk_ff q6 (pk_f ?_)))))))))))
                refine fin (zz := false) cu7 ⟨fun h => absurd h Bool.false_ne_true, fun h => h.elim (fun h => absurd h hb5') fun h => h.elim (fun h => absurd h.1 q4) fun h => absurd h.1 q6⟩ (fun t ht => by cases ht) ?_ x7 (by omega) fun h9 ut9 X9 => w_add (by omega) (by omega) ?_
                · show List.all [31, 16, 13, 9, 3] _ = true
                  decide +kernel
                exact nxt _ h9 ut9 X9 f2 f3 f4 f7 f8 rfl
        · refine c_ff q3 (w_add (by omega) (by omega) ?_)
          refine ih (row.length + 1 - (y + 1)) _ _ (by omega) ⟨y + 1, by omega, rfl, f2, f3, f4, f7, f8, rfl, x7, cu7.done fun w => ?_⟩
          unfold D0
          rw [← hz', List.getElem?_eq_none (by omega)]
          constructor
          · rintro (h | ⟨h1, h2, h3⟩)
            · exact .inl h
            · exact .inr (.inl ⟨h1, by omega, h3⟩)
          · rintro (h | ⟨h1, h2, h3⟩ | ⟨_, ⟨_, h⟩ | ⟨_, c, h, _⟩⟩)
            · exact .inl h
            · exact .inr ⟨h1, by omega, h3⟩
            · cases h
            · cases h
    · have ey : y = row.length + 1 := by omega
      subst ey
      have hl4 := x4.len
      have X4 : Ex h h4 := Exx.base X3 x4 (by omega)
      have G24 := x4.some G2 (by omega)
      have G14 := x4.some G1 (by omega)
      have tm := t.mt.low (show h.length ≤ h2.length by omega)
      have sub : ∀ {h5 : AH} {j : Nat} {m' : Mdl} {K2 : Value → Value → Prop}, Ex h h5 → l[j]? = some m' → (∀ p mv', MH h5 (fun j => j < h5.length) m' mv' → K2 p mv') →
          optW (pIdxS 3 (.slice a l.length cp) (.int .i64 (j : Nat))) fun p => optW (rdRow true 3 p h5) fun mv' => K2 p mv' := by
        intro h5 j m' K2 X5 hj k2
        have hlt := get_lt hj
        obtain ⟨cx, cy, cz, ec, mh⟩ := ML.get l cs ml j m' hj
        refine w_idx (sl.ex X5) (by omega) (by omega) fun p hp => ?_
        rw [Int.toNat_natCast, ec] at hp
        exact w_rdA hp rfl (k2 _ _ (MH.mono (fun j hj => ⟨X5.get j hj, X5.lt hj⟩) _ _ mh))
      have rec_ : ∀ {h5 : AH} {j : Nat} {m' : Mdl} {mv' : Value} {K2 : Value → AH → Prop}, Ex h h5 → l[j]? = some m' → MH h5 (fun j => j < h5.length) m' mv' → (∀ v h6, Ex h5 h6 → MT h6 h5.length row.length v (Rr x row m') → K2 v h6) →
          callW Try.prog 68 [.agg #[.string (bs x.1), .slice La x.2.length Lc], mv', .slice ra row.length rc] h5 K2 := by
        intro h5 j m' mv' K2 X5 hj mh k2
        exact fits68 hT hn N m' (hszl j m' hj) (by omega) (okML_get l okl m' (List.mem_of_getElem? hj)) h5 _ _ _ K2 (hs.ex X5) mh (hr.ex X5) k2
      rw [e4]
      refine w_offP (w_rdP G24 (v := .int .i64 kk) rfl (w_eql ?_))
      refine c_dec (fun q5 => ?_) (fun q5 => ?_)
      · refine loopE_intro (fun mm e h5 => ∃ (j : Nat) (v5 : Value), j ≤ l.length ∧ mm = l.length - j ∧ e 2 = .slice ra row.length rc ∧ e 3 = .pointer (some ⟨h.length, 0, none⟩) ∧ e 4 = .pointer (some ⟨h1.length, 0, none⟩) ∧ e 8 = v5 ∧ e 11 = .int .i64 (j : Nat) ∧ Ex h4 h5 ∧ MT h5 h.length row.length v5 (MSeq (scOf x).fd (scOf x).T (rowS row) (l.take j))) l.length
          ⟨0, _, Nat.zero_le _, rfl, e2, e3, e4, e8, rfl, Ex.refl _, tm.congr fun i j hi => ?_⟩ ?_
        · rw [List.take_zero, MSeq]
          unfold D0
          constructor
          · rintro (⟨h, _⟩ | ⟨_, _, h⟩ | ⟨_, ⟨h, _⟩ | ⟨h, _⟩⟩)
            · exact h.symm
            all_goals omega
          · exact fun h => .inl ⟨h.symm, by omega⟩
        rintro I2 mm2 e' h5 ⟨j, v5, hj, hmm2, f2, f3, f4, f8, f11, x5, t5⟩ ih2
        rw [f2, f3, f4, f8, f11]
        refine w_offP (w_rdP (x5.some G24) (v := .slice a l.length cp) rfl (w_lenSl (w_lss (c_dec (fun r => ?_) (fun r => ?_)))))
        · obtain ⟨m', hm'⟩ := getElem?_of_lt (l := l) (i := j) (by omega)
          refine w_rdPA (x5.some G14) (Nat.le_refl 2) (w_offP (w_rdP (x5.some G24) (v := .slice a l.length cp) rfl ?_))
          refine sub (X4.trans x5) hm' fun p mv' mh => ?_
          refine rec_ (X4.trans x5) hm' mh fun v6 h6 x6 t6 => ?_
          refine behind85 (t5.ex' x6) t6 hn fun v7 h7 x7 t7 => w_add (by omega) (by omega) ?_
          refine ih2 (l.length - (j + 1)) _ _ (by omega) ⟨j + 1, v7, by omega, rfl, f2, f3, f4, rfl, rfl, x5.trans (x6.trans x7), (t7.low (by have := (X4.trans (x5.trans x6)).len; omega)).congr fun i w hi => ?_⟩
          rw [take_succ_get hm', MSeq_snoc]
          constructor
          · rintro ⟨z, _, _, h1, h2⟩
            exact ⟨z, h1, h2⟩
          · rintro ⟨z, h1, h2⟩
            exact ⟨z, MSeqr_le h1, MRr_le h2, h1, h2⟩
        · have ej : l.take j = l := List.take_of_length_le (by omega)
          rw [ej] at t5
          refine k _ h5 (X4.trans x5) (t5.congr fun i w hi => ?_)
          rw [Rr_mk]
          constructor
          · exact fun h => .inr (.inr (.inr (.inr (.inl ⟨q5, h⟩))))
          · intro hr
            rcases hr with ⟨h, _⟩ | ⟨h, _⟩ | ⟨h, _⟩ | ⟨h, _⟩ | ⟨_, h⟩ | ⟨h, _⟩ | ⟨h, _⟩ | ⟨h, _⟩ | ⟨h, _⟩
            case inr.inr.inr.inr.inl => exact h
            all_goals omega
      refine w_eql (c_dec (fun q6 => ?_) (fun q6 => ?_))
      · refine loopE_intro (fun mm e h5 => ∃ (j : Nat) (v5 : Value), j ≤ l.length ∧ mm = l.length - j ∧ e 2 = .slice ra row.length rc ∧ e 3 = .pointer (some ⟨h.length, 0, none⟩) ∧ e 4 = .pointer (some ⟨h1.length, 0, none⟩) ∧ e 8 = v5 ∧ e 12 = .int .i64 (j : Nat) ∧ Ex h4 h5 ∧ MT h5 h.length row.length v5 (MOr (scOf x).fd (scOf x).T (rowS row) (l.take j))) l.length
          ⟨0, _, Nat.zero_le _, rfl, e2, e3, e4, e8, rfl, Ex.refl _, tm.congr fun i j hi => ?_⟩ ?_
        · rw [List.take_zero, MOr]
          unfold D0
          constructor
          · rintro (⟨_, h⟩ | ⟨_, _, h⟩ | ⟨_, ⟨h, _⟩ | ⟨h, _⟩⟩) <;> omega
          · exact fun h => h.elim
        rintro I2 mm2 e' h5 ⟨j, v5, hj, hmm2, f2, f3, f4, f8, f11, x5, t5⟩ ih2
        rw [f2, f3, f4, f8, f11]
        refine w_offP (w_rdP (x5.some G24) (v := .slice a l.length cp) rfl (w_lenSl (w_lss (c_dec (fun r => ?_) (fun r => ?_)))))
        · obtain ⟨m', hm'⟩ := getElem?_of_lt (l := l) (i := j) (by omega)
          refine w_rdPA (x5.some G14) (Nat.le_refl 2) (w_offP (w_rdP (x5.some G24) (v := .slice a l.length cp) rfl ?_))
          refine sub (X4.trans x5) hm' fun p mv' mh => ?_
          refine rec_ (X4.trans x5) hm' mh fun v6 h6 x6 t6 => ?_
          refine either86 (t5.ex' x6) t6 hn fun v7 h7 x7 t7 => w_add (by omega) (by omega) ?_
          refine ih2 (l.length - (j + 1)) _ _ (by omega) ⟨j + 1, v7, by omega, rfl, f2, f3, f4, rfl, rfl, x5.trans (x6.trans x7), (t7.low (by have := (X4.trans (x5.trans x6)).len; omega)).congr fun i w hi => ?_⟩
          rw [take_succ_get hm', MOr_snoc]
        · have ej : l.take j = l := List.take_of_length_le (by omega)
          rw [ej] at t5
          refine k _ h5 (X4.trans x5) (t5.congr fun i w hi => ?_)
          rw [Rr_mk]
          constructor
          · exact fun h => .inr (.inr (.inr (.inr (.inr (.inl ⟨q6, h⟩)))))
          · intro hr
            rcases hr with ⟨h, _⟩ | ⟨h, _⟩ | ⟨h, _⟩ | ⟨h, _⟩ | ⟨h, _⟩ | ⟨_, h⟩ | ⟨h, _⟩ | ⟨h, _⟩ | ⟨h, _⟩
            case inr.inr.inr.inr.inr.inl => exact h
            all_goals omega
      have one : (kk = 7 ∨ kk = 8 ∨ kk = 9) → ∃ m0, l = [m0] := by
        intro hk
        rcases cases_ with ⟨h, _⟩ | ⟨h, _⟩ | ⟨h, _⟩ | ⟨_, h, _⟩
        case inr.inr.inr => exact h
        all_goals omega
      have rwv : ∀ m0, l = [m0] → ∀ i w, Rr x row (.mk kk n l) i w ↔ (kk = 1 ∧ i = w) ∨ (kk = 2 ∧ RT (Any (rowS row)) i w) ∨ (kk = 3 ∧ rowS row (scOf x).T i w) ∨ (kk = 4 ∧ ∃ c : Nat, (scOf x).fd n = c ∧ rowS row c i w) ∨ (kk = 5 ∧ MSeq (scOf x).fd (scOf x).T (rowS row) l i w) ∨ (kk = 6 ∧ MOr (scOf x).fd (scOf x).T (rowS row) l i w) ∨
          (kk = 7 ∧ RT (Rr x row m0) i w) ∨ (kk = 8 ∧ ∃ m, Rr x row m0 i m ∧ RT (Rr x row m0) m w) ∨ (kk = 9 ∧ (i = w ∨ Rr x row m0 i w)) := by
        rintro m0 rfl i w
        rw [Rr_mk, MHdr_one]
      refine w_eql (c_dec (fun q9 => ?_) (fun q9 => ?_))
      · obtain ⟨m0, hm0⟩ := one (by omega)
        have h0 : l[0]? = some m0 := by rw [hm0]; rfl
        rw [e3, e2, e8]
        refine w_rdPA G14 (Nat.le_refl 2) (w_offP (w_rdP G24 (v := .slice a l.length cp) rfl ?_))
        refine sub (j := 0) X4 h0 fun p mv' mh => ?_
        refine rec_ X4 h0 mh fun v6 h6 x6 t6 => ?_
        refine either86 (tm.ex' x6) t6 hn fun v7 h7 x7 t7 => ?_
        refine k _ h7 (X4.trans (x6.trans x7)) ((t7.low (by have := (X4.trans x6).len; omega)).congr fun i w hi => ?_)
        rw [rwv m0 hm0]
        unfold D0
        constructor
        · rintro ((⟨h, _⟩ | ⟨_, _, h⟩ | ⟨_, ⟨h, _⟩ | ⟨h, _⟩⟩) | h)
          · exact .inr (.inr (.inr (.inr (.inr (.inr (.inr (.inr ⟨q9, .inl h.symm⟩)))))))
          · omega
          · omega
          · omega
          · exact .inr (.inr (.inr (.inr (.inr (.inr (.inr (.inr ⟨q9, .inr h⟩)))))))
        · intro hr
          rcases hr with ⟨h, _⟩ | ⟨h, _⟩ | ⟨h, _⟩ | ⟨h, _⟩ | ⟨h, _⟩ | ⟨h, _⟩ | ⟨h, _⟩ | ⟨h, _⟩ | ⟨_, h | h⟩
          case inr.inr.inr.inr.inr.inr.inr.inr.inl => exact .inl (.inl ⟨h.symm, by omega⟩)
          case inr.inr.inr.inr.inr.inr.inr.inr.inr => exact .inr h
          all_goals omega
      have loop : ∀ (m0 : Mdl), l = [m0] → (kk = 7 ∨ kk = 8) → ∀ {h6 : AH} {vB vX : Value}, Ex h h6 → MT h6 h.length row.length vB (fun i j => D0 x row kk n i j ∨ Rr x row m0 i j) → MT h6 h.length row.length vX (Rr x row m0) →
          (∀ v h7, Ex h6 h7 → MT h7 h.length row.length v (itR (Rr x row m0) (fun i j => D0 x row kk n i j ∨ Rr x row m0 i j) row.length) → K v h7) := by
        intro m0 hm0 hk h6 vB vX X6 tB tX v h7 x7 t7
        refine k v h7 (X6.trans x7) (t7.congr fun i w hi => ?_)
        have hX : ∀ a b, Rr x row m0 a b → a ≤ b := fun a b h => MRr_le h
        have hD : ∀ a b, D0 x row kk n a b ↔ (kk = 7 ∧ a = b) := by
          intro a b
          unfold D0
          constructor
          · rintro (⟨h, h2⟩ | ⟨_, _, h⟩ | ⟨_, ⟨h, _⟩ | ⟨h, _⟩⟩)
            · exact ⟨by omega, h.symm⟩
            all_goals omega
          · rintro ⟨h1, h2⟩
            exact .inl ⟨h2.symm, by omega⟩
        have hB : ∀ a b, (D0 x row kk n a b ∨ Rr x row m0 a b) → a ≤ b := by
          rintro a b (h | h)
          · have := ((hD a b).1 h).2
            omega
          · exact hX a b h
        rw [rwv m0 hm0]
        constructor
        · intro h
          obtain ⟨z, h1, h2⟩ := itR_sound h
          rcases hk with hk | hk
          · refine .inr (.inr (.inr (.inr (.inr (.inr (.inl ⟨hk, ?_⟩))))))
            rcases h1 with h1 | h1
            · rw [((hD i z).1 h1).2]; exact h2
            · exact .cons h1 h2
          · refine .inr (.inr (.inr (.inr (.inr (.inr (.inr (.inl ⟨hk, z, ?_, h2⟩)))))))
            exact h1.resolve_left fun h => by have := ((hD i z).1 h).1; omega
        · intro hr
          have bd : ∀ {z : Nat}, RT (Rr x row m0) z w → z ≤ row.length → w ≤ row.length := by
            intro z hz
            have : RT (Any (rowS row)) z w := (hz.mono fun a b h => MR_any m0 h).flat
            exact RTr_le this
          rcases hr with ⟨h, _⟩ | ⟨h, _⟩ | ⟨h, _⟩ | ⟨h, _⟩ | ⟨h, _⟩ | ⟨h, _⟩ | ⟨h7, h⟩ | ⟨h8, z, h1, h2⟩ | ⟨h, _⟩
          case inr.inr.inr.inr.inr.inr.inl => exact (itR_iff hX hB (bd h hi)).2 ⟨i, .inl ((hD i i).2 ⟨h7, rfl⟩), h⟩
          case inr.inr.inr.inr.inr.inr.inr.inl => exact (itR_iff hX hB (bd h2 (Rr_in h1 hi))).2 ⟨z, .inr h1, h2⟩
          all_goals omega
      refine w_eql (c_dec (fun q7 => ?_) (fun q7 => ?_))
      · obtain ⟨m0, hm0⟩ := one (by omega)
        have h0 : l[0]? = some m0 := by rw [hm0]; rfl
        rw [e3, e2, e8]
        refine c_tt q7 ?_
        refine w_rdPA G14 (Nat.le_refl 2) (w_offP (w_rdP G24 (v := .slice a l.length cp) rfl ?_))
        refine sub (j := 0) X4 h0 fun p mv' mh => ?_
        refine rec_ X4 h0 mh fun v6 h6 x6 t6 => ?_
        refine either86 (tm.ex' x6) t6 hn fun v7 h7 x7 t7 => ?_
        have lx := (X4.trans x6).len
        have tX : MT h7 h.length row.length v6 (Rr x row m0) := (t6.low X4.len).ex' x7
        have X7 : Ex h h7 := X4.trans (x6.trans x7)
        have tB := t7.low (show h.length ≤ h6.length by omega)
        refine loopE_intro (fun mm e h8 => ∃ (j : Nat) (v8 : Value), j ≤ row.length ∧ mm = row.length - j ∧ e 7 = .int .i64 ((row.length : Nat) : Int) ∧ e 8 = v8 ∧ e 13 = v6 ∧ e 14 = .int .i64 (j : Nat) ∧ Ex h7 h8 ∧ MT h8 h.length row.length v8 (itR (Rr x row m0) (fun i j => D0 x row kk n i j ∨ Rr x row m0 i j) j)) row.length
          ⟨0, v7, Nat.zero_le _, rfl, e7, rfl, rfl, rfl, Ex.refl _, tB⟩ ?_
        rintro I2 mm2 e' h8 ⟨j, v8, hj, hmm2, f7, f8, f13, f14, x8, t8⟩ ih2
        rw [f7, f8, f13, f14]
        refine w_lss (c_dec (fun r => ?_) (fun r => ?_))
        · refine behind85 t8 (tX.ex' x8) hn fun v9 h9 x9 t9 => ?_
          refine either86 (t8.ex' x9) t9 hn fun v10 h10 x10 t10 => w_add (by omega) (by omega) ?_
          exact ih2 (row.length - (j + 1)) _ _ (by omega) ⟨j + 1, v10, by omega, rfl, f7, rfl, f13, rfl, x8.trans (x9.trans x10), t10.low (by have := (X7.trans (x8.trans x9)).len; omega)⟩
        · have ej : j = row.length := by omega
          subst ej
          exact loop m0 hm0 (by omega) X7 tB tX v8 h8 x8 t8
      refine w_eql (c_dec (fun q8 => ?_) (fun q8 => ?_))
      · obtain ⟨m0, hm0⟩ := one (by omega)
        have h0 : l[0]? = some m0 := by rw [hm0]; rfl
        rw [e3, e2, e8]
        refine w_rdPA G14 (Nat.le_refl 2) (w_offP (w_rdP G24 (v := .slice a l.length cp) rfl ?_))
        refine sub (j := 0) X4 h0 fun p mv' mh => ?_
        refine rec_ X4 h0 mh fun v6 h6 x6 t6 => ?_
        refine either86 (tm.ex' x6) t6 hn fun v7 h7 x7 t7 => ?_
        have lx := (X4.trans x6).len
        have tX : MT h7 h.length row.length v6 (Rr x row m0) := (t6.low X4.len).ex' x7
        have X7 : Ex h h7 := X4.trans (x6.trans x7)
        have tB := t7.low (show h.length ≤ h6.length by omega)
        refine loopE_intro (fun mm e h8 => ∃ (j : Nat) (v8 : Value), j ≤ row.length ∧ mm = row.length - j ∧ e 7 = .int .i64 ((row.length : Nat) : Int) ∧ e 8 = v8 ∧ e 13 = v6 ∧ e 14 = .int .i64 (j : Nat) ∧ Ex h7 h8 ∧ MT h8 h.length row.length v8 (itR (Rr x row m0) (fun i j => D0 x row kk n i j ∨ Rr x row m0 i j) j)) row.length
          ⟨0, v7, Nat.zero_le _, rfl, e7, rfl, rfl, rfl, Ex.refl _, tB⟩ ?_
        rintro I2 mm2 e' h8 ⟨j, v8, hj, hmm2, f7, f8, f13, f14, x8, t8⟩ ih2
        rw [f7, f8, f13, f14]
        refine w_lss (c_dec (fun r => ?_) (fun r => ?_))
        · refine behind85 t8 (tX.ex' x8) hn fun v9 h9 x9 t9 => ?_
          refine either86 (t8.ex' x9) t9 hn fun v10 h10 x10 t10 => w_add (by omega) (by omega) ?_
          exact ih2 (row.length - (j + 1)) _ _ (by omega) ⟨j + 1, v10, by omega, rfl, f7, rfl, f13, rfl, x8.trans (x9.trans x10), t10.low (by have := (X7.trans (x8.trans x9)).len; omega)⟩
        · have ej : j = row.length := by omega
          subst ej
          exact loop m0 hm0 (by omega) X7 tB tX v8 h8 x8 t8
      · rw [e8]
        refine k _ h4 X4 (tm.congr fun i w hi => ?_)
        rw [Rr_mk]
        unfold D0
        constructor
        · rintro (⟨h, h2⟩ | ⟨h1, h2, h⟩ | ⟨h1, ⟨h, h2⟩ | ⟨h, c, h2, h3⟩⟩)
          · exact .inl ⟨by omega, h.symm⟩
          · exact .inr (.inl ⟨h, (RT_any.2 ⟨h1, h2⟩).1⟩)
          · exact .inr (.inr (.inl ⟨h, h2, h1⟩))
          · exact .inr (.inr (.inr (.inl ⟨h, c, h3, h2, h1⟩)))
        · intro hr
          rcases hr with ⟨h, h2⟩ | ⟨h, h2⟩ | ⟨h, h2, h3⟩ | ⟨h, c, h2, h3, h4⟩ | ⟨h, _⟩ | ⟨h, _⟩ | ⟨h, _⟩ | ⟨h, _⟩ | ⟨h, _⟩
          case inl => exact .inl ⟨h2.symm, .inl h⟩
          case inr.inl => exact .inr (.inl ⟨h2.le rowS_le, RTr_le h2 hi, h⟩)
          case inr.inr.inl => exact .inr (.inr ⟨h3, .inl ⟨h, h2⟩⟩)
          case inr.inr.inr.inl => exact .inr (.inr ⟨h4, .inr ⟨h, c, h3, h2⟩⟩)
          all_goals omega
end Go.Proofs.Ytlenlhlipmkeeaa.W
end

section
/- Schema's laws: the document's symbols, and a word's partners. Conditions: none. -/
namespace Go.Proofs.Ytlenlhlipmkeeaa.W
open Go Go.AM SchM
set_option linter.unusedVariables false
set_option maxRecDepth 100000
def eSy (s : W × Int) : List Value := [.string (bs s.1), .int .i64 s.2]
theorem eSy_len (s : W × Int) : (eSy s).length = 2 := rfl
def symsL (l : List (W × Mdl)) : List (W × Int) := l.flatMap fun e => [(e.1, 1), (e.1, 2)]
def symsOf (x : W × List (W × Mdl)) : List (W × Int) := symsL x.2 ++ [(wText, 3)]
theorem symsL_len (l : List (W × Mdl)) : (symsL l).length = 2 * l.length := by
  induction l with
  | nil => rfl
  | cons a l ih =>
    show ([(a.1, (1 : Int)), (a.1, 2)] ++ symsL l).length = _
    rw [List.length_append, ih]
    simp
    omega
theorem symsOf_len (x : W × List (W × Mdl)) : (symsOf x).length = 2 * x.2.length + 1 := by
  unfold symsOf
  rw [List.length_append, symsL_len]
  rfl
theorem symsL_get : ∀ (l : List (W × Mdl)) (i : Nat) (e : W × Mdl), l[i]? = some e → (symsL l)[2 * i]? = some (e.1, 1) ∧ (symsL l)[2 * i + 1]? = some (e.1, 2)
  | [], i, e, h => by simp at h
  | a :: l, 0, e, h => by cases h; exact ⟨rfl, rfl⟩
  | a :: l, i + 1, e, h => by
    obtain ⟨h1, h2⟩ := symsL_get l i e h
    exact ⟨h1, h2⟩
theorem symsOf_get {x : W × List (W × Mdl)} {i : Nat} {e : W × Mdl} (h : x.2[i]? = some e) : (symsOf x)[2 * i]? = some (e.1, 1) ∧ (symsOf x)[2 * i + 1]? = some (e.1, 2) := by
  obtain ⟨h1, h2⟩ := symsL_get x.2 i e h
  have hl := symsL_len x.2
  have hi := get_lt h
  unfold symsOf
  rw [List.getElem?_append_left (by omega), List.getElem?_append_left (by omega)]
  exact ⟨h1, h2⟩
theorem symsOf_text (x : W × List (W × Mdl)) : (symsOf x)[2 * x.2.length]? = some (wText, 3) := by
  unfold symsOf
  rw [← symsL_len, List.getElem?_append_right (Nat.le_refl _), Nat.sub_self]
  rfl
theorem bld22 (a : ByteArray) : bldSl 2 [(.string (bs [])), (.int .i64 0)] 2 [(0, .agg #[.string a, .int .i64 1]), (1, .agg #[.string a, .int .i64 2])] = some [.string a, .int .i64 1, .string a, .int .i64 2] := by kernel_rfl
theorem bld21 : bldSl 2 [(.string (bs [])), (.int .i64 0)] 1 [(0, .agg #[.string (bs [116, 101, 120, 116]), .int .i64 3])] = some [.string (bs wText), .int .i64 3] := by kernel_rfl
set_option maxHeartbeats 1000000 in
theorem syms20 {h : AH} {x : W × List (W × Mdl)} {v : Value} {K : Value → AH → Prop} (s : SM h x v) (hT : x.2.length ≤ 100000000000) (k : ∀ v h', Ex h h' → OwnG 2 (fun j => h.length ≤ j) h' v (symsOf x).length (flat eSy (symsOf x)) → K v h') : callW Try.prog 20 [v] h K := by
  obtain ⟨a, c, cs0, rfl, _, _⟩ := id s
  obtain ⟨_, _, nmx⟩ := s.nm
  obtain ⟨cs, sl, hc⟩ := nmx.ex
  rw [List.length_map] at sl
  have hr40 : (1000000000000 : Nat) < room40 := by decide
  refine c20 ?_
  unfold s20
  refine n_boxv rfl fun h1 x1 l1 g1 => ?_
  have g1' : h1[h.length]? = some (.row [.string (bs x.1), .slice a x.2.length c] true) := g1
  refine loopE_intro (fun m e h2 => ∃ (j : Nat) (v3 : Value), j ≤ x.2.length ∧ m = x.2.length - j ∧ e 1 = .pointer (some ⟨h.length, 0, none⟩) ∧ e 3 = v3 ∧ e 4 = .int .i64 (j : Nat) ∧ Ex h1 h2 ∧ OwnG 2 (fun j => h1.length ≤ j) h2 v3 (symsL (x.2.take j)).length (flat eSy (symsL (x.2.take j)))) x.2.length
    ⟨0, _, Nat.zero_le _, rfl, rfl, rfl, rfl, Ex.refl _, OwnG.nil _ _ _⟩ ?_
  rintro I m e h2 ⟨j, v3, hj, hm, e1, e3, e4, x2, o⟩ ih
  rw [e1, e3, e4]
  have g2 := x2.some g1'
  refine w_offP (w_rdP g2 (v := .slice a x.2.length c) rfl (w_lenSl (w_lss (c_dec (fun q => ?_) (fun q => ?_)))))
  · obtain ⟨w, hw⟩ := getElem?_of_lt (l := x.2) (i := j) (by omega)
    obtain ⟨k', nn, a', ll, c', ec⟩ := hc j w.1 (by rw [List.getElem?_map, hw]; rfl)
    have xr := Ex.res h2
    have xx := (x1.trans x2).trans xr
    have rd : ∀ {K2 : Value → Value → Value → Value → Value → Prop}, (∀ v13 v14 p p', K2 v13 v14 p p' (.string (bs w.1))) → optW (pOff 1 (.pointer (some ⟨h.length, 0, none⟩))) fun v13 => optW (rdRow false 1 v13 (reserve 1 h2)) fun v14 => optW (pIdxS 4 v14 (.int .i64 (j : Nat))) fun p => optW (pOff 0 p) fun p' => optW (rdRow false 1 p' (reserve 1 h2)) fun s => K2 v13 v14 p p' s := by
      intro K2 k2
      refine w_offP (w_rdP (xr.some g2) (v := .slice a x.2.length c) rfl (w_idx (sl.ex xx) (by omega) (by omega) fun p hp => ?_))
      rw [Int.toNat_natCast, ec] at hp
      exact w_off hp (Nat.zero_le _) fun p' hp' => w_rd1 hp' rfl (k2 _ _ _ _)
    refine rd fun _ _ _ _ => w_some (v := .agg #[.string (bs w.1), .int .i64 1]) rfl ?_
    refine rd fun _ _ _ _ => w_some (v := .agg #[.string (bs w.1), .int .i64 2]) rfl ?_
    refine w_some (bld22 _) ?_
    refine n_slot ?_
    rw [reserve_set]
    have x3 : Ex h2 (h2 ++ [AObj.row [.string (bs w.1), .int .i64 1, .string (bs w.1), .int .i64 2] true]) := .app _ _
    have g3 : (h2 ++ [AObj.row [.string (bs w.1), .int .i64 1, .string (bs w.1), .int .i64 2] true])[h2.length]? = some (.row [.string (bs w.1), .int .i64 1, .string (bs w.1), .int .i64 2] true) := get_new _ _
    have l3 : (h2 ++ [AObj.row [.string (bs w.1), .int .i64 1, .string (bs w.1), .int .i64 2] true]).length = h2.length + 1 := by simp
    generalize h2 ++ [AObj.row [.string (bs w.1), .int .i64 1, .string (bs w.1), .int .i64 2] true] = h3 at *
    have o3 := o.mono (F' := fun j => h1.length ≤ j) (h' := h3) (fun _ _ h => h) fun j hj _ => x3.get j (o.on hj).2
    have hlen := symsL_len (x.2.take j)
    rw [List.length_take, Nat.min_eq_left hj] at hlen
    refine appSl_of (app_g (by decide) o3 (srcL_new (n := 2) (s := 2) g3 (by decide) rfl) rfl (by omega) fun v' h4 a1 a2 a3 a4 => w_add (by omega) (by omega) ?_)
    refine ih (x.2.length - (j + 1)) _ _ (by omega) ⟨j + 1, v', by omega, rfl, e1, rfl, rfl, ⟨by have := x2.len; omega, fun y hy => ?_⟩, ?_⟩
    · rw [a3 y (by have := x2.len; omega) (fun hon => by have := (o.on hon).1; omega), x3.get y (x2.lt hy)]
      exact x2.get y hy
    · have e5 : symsL (x.2.take (j + 1)) = symsL (x.2.take j) ++ [(w.1, 1), (w.1, 2)] := by
        rw [take_succ_get hw]
        simp [symsL]
      rw [e5, flat_append, List.length_append]
      exact a1.mono (fun y hy hF => hF.elim (fun h => h) fun h => by have := x2.len; omega) fun _ _ _ => rfl
  · have ej : j = x.2.length := by omega
    subst ej
    rw [List.take_length] at o
    refine w_some (v := .agg #[.string (bs [116, 101, 120, 116]), .int .i64 3]) rfl ?_
    refine w_some bld21 ?_
    refine n_newv fun h3 x3 l3 g3 => ?_
    have o3 := o.mono (F' := fun j => h1.length ≤ j) (h' := h3) (fun _ _ h => h) fun j hj _ => x3.get j (o.on hj).2
    have hlen := symsL_len x.2
    refine appSl_of (app_g (by decide) o3 (srcL_new (n := 1) (s := 2) g3 (by decide) rfl) rfl (by omega) fun v' h4 a1 a2 a3 a4 => ?_)
    refine k v' h4 ⟨by have := (x1.trans x2).len; omega, fun y hy => ?_⟩ ?_
    · have h5 := x1.len
      have h6 := x2.len
      rw [a3 y (by omega) (fun hon => by have := (o.on hon).1; omega), x3.get y (by omega)]
      exact (x1.trans x2).get y hy
    · unfold symsOf
      rw [flat_append, List.length_append]
      exact a1.mono (fun y hy hF => by
        have h5 := x1.len
        have h6 := x2.len
        rcases hF with hh | hh
        · show h.length ≤ y
          omega
        · show h.length ≤ y
          omega) fun _ _ _ => rfl
theorem sym_kind {x : W × List (W × Mdl)} {c : Int} (h0 : 0 ≤ c) (h1 : c ≤ 2 * (x.2.length : Int)) : ∃ nm kd, (symsOf x)[c.toNat]? = some (nm, kd) ∧ (kd = if c = 2 * (x.2.length : Int) then 3 else if c % 2 = 0 then 1 else 2) ∧ (c < 2 * (x.2.length : Int) → ∃ e, x.2[(c / 2).toNat]? = some e ∧ e.1 = nm) := by
  by_cases e : c = 2 * (x.2.length : Int)
  · refine ⟨wText, 3, ?_, by rw [if_pos e], fun h => by omega⟩
    rw [show c.toNat = 2 * x.2.length by omega]
    exact symsOf_text x
  · obtain ⟨el, hel⟩ := getElem?_of_lt (l := x.2) (i := (c / 2).toNat) (by omega)
    obtain ⟨h2, h3⟩ := symsOf_get hel
    by_cases e2 : c % 2 = 0
    · refine ⟨el.1, 1, ?_, by rw [if_neg e, if_pos e2], fun _ => ⟨el, hel, rfl⟩⟩
      rw [show c.toNat = 2 * (c / 2).toNat by omega]
      exact h2
    · refine ⟨el.1, 2, ?_, by rw [if_neg e, if_neg e2], fun _ => ⟨el, hel, rfl⟩⟩
      rw [show c.toNat = 2 * (c / 2).toNat + 1 by omega]
      exact h3
theorem flat_eI_set : ∀ (l : List Int) (j : Nat) (c : Int), (flat eI l).set j (.int .i64 c) = flat eI (l.set j c)
  | [], j, c => by simp [flat]
  | b :: l, 0, c => rfl
  | b :: l, j + 1, c => congrArg (Value.int .i64 b :: ·) (flat_eI_set l j c)
theorem repL_zero (k : Nat) : repL [.int .i64 0] k = flat eI (List.replicate k 0) := by
  induction k with
  | zero => rfl
  | succ k ih =>
    show [.int .i64 0] ++ repL [.int .i64 0] k = _
    rw [ih]
    rfl
def partners (T : Nat) (w : List Int) : List Int := (List.range w.length).map (mrun T w w.length).1
set_option maxHeartbeats 2000000 in
theorem match50 {h : AH} {x : W × List (W × Mdl)} {vl vw_ : Value} {w : List Int} {K : Value → AH → Prop} (hl : SlT 2 eSy h vl (symsOf x)) (hw : SlT 1 eI h vw_ w) (hn : w.length ≤ 100000000000) (hT : x.2.length ≤ 100000000000) (hin : ∀ c ∈ w, 0 ≤ c ∧ c ≤ 2 * (x.2.length : Int))
    (k : ∀ v h', Ex h h' → SlT 1 eI h' v (partners x.2.length w) → K v h') : callW Try.prog 50 [vl, vw_] h K := by
  obtain ⟨wa, wc, rfl⟩ := hw.shape
  have hr40 : (1000000000000 : Nat) < room40 := by decide
  have ho40 : (100000000000 : Nat) < openCap := by decide
  refine c50 ?_
  unfold s50
  refine w_lenSl ?_
  refine w_some (v := (w.length, w.length, repL [.int .i64 0] w.length)) ?_ ?_
  · unfold mkSl
    dsimp only
    rw [if_pos ⟨by omega, by omega, by omega, by decide, rfl⟩, Int.toNat_natCast]
  refine n_newv fun h1 x1 l1 g1 => ?_
  rw [repL_zero] at g1
  refine loopE_intro (fun mm e h2 => ∃ (y : Nat) (cl : List Int) (v6 : Value), y ≤ w.length ∧ mm = w.length - y ∧ e 0 = vl ∧ e 1 = .slice wa w.length wc ∧ e 5 = .slice (some ⟨h.length, 0, none⟩) w.length w.length ∧ e 6 = v6 ∧ e 7 = .int .i64 (y : Nat) ∧ Ex h h2 ∧ h1.length ≤ h2.length ∧
      h2[h.length]? = some (.row (flat eI cl) true) ∧ cl.length = w.length ∧ (∀ z, z < y → cl[z]? = some ((mrun x.2.length w y).1 z)) ∧ OwnG 1 (fun j => h1.length ≤ j) h2 v6 (mrun x.2.length w y).2.length (flat eI ((mrun x.2.length w y).2.reverse.map fun c : Nat => (c : Int))) ∧ (mrun x.2.length w y).2.length ≤ y) w.length
    ⟨0, _, _, Nat.zero_le _, rfl, rfl, rfl, rfl, rfl, rfl, x1, Nat.le_refl _, g1, by simp, fun z hz => by omega, OwnG.nil _ _ _, Nat.le_refl _⟩ ?_
  rintro I mm e h2 ⟨y, cl, v6, hy, hmm, e0, e1, e5, e6, e7, x2, l2, g2, hcl, hz, o, hst⟩ ih
  rw [e0, e1, e5, e6, e7]
  refine w_lenSl (w_lss (c_dec (fun q => ?_) (fun q => ?_)))
  · obtain ⟨c, hc⟩ := getElem?_of_lt (l := w) (i := y) (by omega)
    obtain ⟨hc0, hc1⟩ := hin c (List.mem_of_getElem? hc)
    have hmr : mrun x.2.length w (y + 1) = mstep x.2.length c y (mrun x.2.length w y) := by
      show (match w[y]? with | some c => mstep x.2.length c y (mrun x.2.length w y) | none => mrun x.2.length w y) = _
      rw [hc]
    refine ix1 (by omega) (w_stP g2 (by rw [flat_length eI_len]; omega) rfl rfl ?_)
    have g3 : (h2.set h.length (.row ((flat eI cl).set y (.int .i64 (-1))) true))[h.length]? = some (.row (flat eI (cl.set y (-1))) true) := by rw [get_set _ (lt_of_get g2), flat_eI_set]
    have x3 : Exx h.length h2 (h2.set h.length (.row ((flat eI cl).set y (.int .i64 (-1))) true)) := ⟨by simp, fun j hj hji => get_ne (Ne.symm hji) _⟩
    have l3 : (h2.set h.length (.row ((flat eI cl).set y (.int .i64 (-1))) true)).length = h2.length := by simp
    generalize h2.set h.length (.row ((flat eI cl).set y (.int .i64 (-1))) true) = h3 at *
    have X3 : Ex h h3 := Exx.base x2 x3 (Nat.le_refl _)
    have o3 : OwnG 1 (fun j => h1.length ≤ j) h3 v6 (mrun x.2.length w y).2.length (flat eI ((mrun x.2.length w y).2.reverse.map fun c : Nat => (c : Int))) := o.mono (fun _ _ h => h) fun j hj hF => x3.get j (o.on hj).2 (by omega)
    have hz3 : ∀ z, z < y + 1 → (cl.set y (-1))[z]? = some (put (mrun x.2.length w y).1 y (-1) z) := by
      intro z hz'
      by_cases ez : z = y
      · subst ez
        rw [put_same, List.getElem?_set_self (by omega)]
      · rw [put_ne ez, List.getElem?_set_ne (Ne.symm ez)]
        exact hz z (by omega)
    refine w_idxN (enc := eI) eI_len (hw.ex X3) hc fun pp hpp => w_rd1 hpp (x := .int .i64 c) rfl ?_
    obtain ⟨nm, kd, hs1, hs2, _⟩ := sym_kind hc0 hc1
    refine w_idxT (enc := eSy) eSy_len (hl.ex X3) hc0 hs1 fun p hp => ?_
    refine w_off hp (by show 1 ≤ 2; decide) fun p2 hp2 => w_rd1 hp2 (x := .int .i64 kd) rfl ?_
    refine w_eql (c_dec (fun r => ?_) (fun r => ?_))
    · have c1 : ¬ c = 2 * (x.2.length : Int) := fun h => by rw [if_pos h] at hs2; omega
      have c2 : c % 2 = 0 := Classical.byContradiction fun h => by rw [if_neg c1, if_neg h] at hs2; omega
      have hm1 : mrun x.2.length w (y + 1) = (put (mrun x.2.length w y).1 y (-1), y :: (mrun x.2.length w y).2) := by rw [hmr]; unfold mstep; rw [if_neg c1, if_pos c2]
      refine w_some (bldSl_one (v := .int .i64 ((y : Nat) : Int)) rfl (by decide) rfl rfl) ?_
      refine n_newv fun h4 x4 l4 g4 => ?_
      refine appSl_of (app_g (by decide) (o3.mono (F' := fun j => h1.length ≤ j) (h' := h4) (fun _ _ h => h) fun j hj _ => x4.get j (o3.on hj).2) (srcL_new (n := 1) (s := 1) g4 (by decide) rfl) rfl (by omega) fun v' h5 a1 a2 a3 a4 => w_add (by omega) (by omega) ?_)
      have non : ∀ j, j < h1.length → ¬ onId v6 j := fun j hj hon => by have := (o.on hon).1; omega
      refine ih (w.length - (y + 1)) _ _ (by omega) ⟨y + 1, cl.set y (-1), v', by omega, rfl, e0, e1, e5, rfl, rfl, ⟨by have := X3.len; omega, fun j hj => ?_⟩, by omega, ?_, by simpa using hcl, ?_, ?_, ?_⟩
      · have := X3.len
        rw [a3 j (by omega) (non j (by omega)), x4.get j (by omega)]
        exact X3.get j hj
      · rw [a3 _ (by omega) (non _ (by omega)), x4.get _ (by omega)]
        exact g3
      · rw [hm1]; exact hz3
      · rw [hm1]
        have e8 : flat eI ((y :: (mrun x.2.length w y).2).reverse.map fun c : Nat => (c : Int)) = flat eI ((mrun x.2.length w y).2.reverse.map fun c : Nat => (c : Int)) ++ [.int .i64 ((y : Nat) : Int)] := by
          rw [List.reverse_cons, List.map_append, flat_append]
          rfl
        show OwnG 1 _ h5 v' ((mrun x.2.length w y).2.length + 1) (flat eI ((y :: (mrun x.2.length w y).2).reverse.map fun c : Nat => (c : Int)))
        rw [e8]
        exact a1.mono (fun j hj hF => hF.elim (fun h => h) fun h => by show h1.length ≤ j; omega) fun _ _ _ => rfl
      · rw [hm1]; simp; omega
    · refine w_eql (c_dec (fun r2 => ?_) (fun r2 => ?_))
      · have c1 : ¬ c = 2 * (x.2.length : Int) := fun h => by rw [if_pos h] at hs2; omega
        have c2 : ¬ c % 2 = 0 := fun h => by rw [if_neg c1, if_pos h] at hs2; exact r hs2
        refine w_len o3.sl (w_gtr (c_dec (fun r3 => ?_) (fun r3 => ?_)))
        · cases hst2 : (mrun x.2.length w y).2 with
          | nil => rw [hst2] at r3; exact absurd r3 (by decide)
          | cons k0 r0 =>
            rw [hst2] at o3 r3 hst
            have hk0 : k0 < y := mrun_lt x.2.length w y k0 (by rw [hst2]; simp)
            have hm1 : mrun x.2.length w (y + 1) = (put (put (put (mrun x.2.length w y).1 y (-1)) y k0) k0 y, r0) := by
              rw [hmr]
              unfold mstep
              rw [if_neg c1, if_neg c2, hst2]
            have hlen : (k0 :: r0).length = r0.length + 1 := rfl
            have eS : (((k0 :: r0).length : Nat) : Int) - 1 = (r0.length : Nat) := by rw [hlen]; omega
            refine w_len o3.sl (w_sub (by omega) (by omega) ?_)
            rw [eS]
            have osl : SlT 1 eI h3 v6 ((k0 :: r0).reverse.map fun c : Nat => (c : Int)) := by
              have := o3.sl
              unfold SlT
              rw [List.length_map, List.length_reverse]
              exact this
            have hlast : ((k0 :: r0).reverse.map fun c : Nat => (c : Int))[r0.length]? = some ((k0 : Nat) : Int) := by
              rw [List.getElem?_map, List.reverse_cons, List.getElem?_append_right (by simp)]
              simp
            refine w_idxN (enc := eI) eI_len osl hlast fun pp hpp => w_rd1 hpp (x := .int .i64 ((k0 : Nat) : Int)) rfl ?_
            refine w_len o3.sl (w_sub (by omega) (by omega) ?_)
            rw [eS]
            refine cut_g o3 (by omega) fun v' oc hon => ?_
            refine ix1 (by omega) (w_stP g3 (by rw [flat_length eI_len]; simp; omega) rfl rfl ?_)
            have g4 : (h3.set h.length (.row ((flat eI (cl.set y (-1))).set y (.int .i64 ((k0 : Nat) : Int))) true))[h.length]? = some (.row (flat eI ((cl.set y (-1)).set y (k0 : Int))) true) := by rw [get_set _ (lt_of_get g3), flat_eI_set]
            have x4 : Exx h.length h3 (h3.set h.length (.row ((flat eI (cl.set y (-1))).set y (.int .i64 ((k0 : Nat) : Int))) true)) := ⟨by simp, fun j hj hji => get_ne (Ne.symm hji) _⟩
            have l4 : (h3.set h.length (.row ((flat eI (cl.set y (-1))).set y (.int .i64 ((k0 : Nat) : Int))) true)).length = h3.length := by simp
            generalize h3.set h.length (.row ((flat eI (cl.set y (-1))).set y (.int .i64 ((k0 : Nat) : Int))) true) = h4 at *
            refine ix1 (by omega) (w_stP g4 (by rw [flat_length eI_len]; simp; omega) rfl rfl ?_)
            have g5 : (h4.set h.length (.row ((flat eI ((cl.set y (-1)).set y (k0 : Int))).set k0 (.int .i64 ((y : Nat) : Int))) true))[h.length]? = some (.row (flat eI (((cl.set y (-1)).set y (k0 : Int)).set k0 (y : Int))) true) := by rw [get_set _ (lt_of_get g4), flat_eI_set]
            have x5 : Exx h.length h4 (h4.set h.length (.row ((flat eI ((cl.set y (-1)).set y (k0 : Int))).set k0 (.int .i64 ((y : Nat) : Int))) true)) := ⟨by simp, fun j hj hji => get_ne (Ne.symm hji) _⟩
            have l5 : (h4.set h.length (.row ((flat eI ((cl.set y (-1)).set y (k0 : Int))).set k0 (.int .i64 ((y : Nat) : Int))) true)).length = h4.length := by simp
            generalize h4.set h.length (.row ((flat eI ((cl.set y (-1)).set y (k0 : Int))).set k0 (.int .i64 ((y : Nat) : Int))) true) = h5 at *
            have x35 := x4.trans x5
            refine w_add (by omega) (by omega) ?_
            refine ih (w.length - (y + 1)) _ _ (by omega) ⟨y + 1, _, v', by omega, rfl, e0, e1, e5, rfl, rfl, Exx.base X3 x35 (Nat.le_refl _), by omega, g5, by simpa using hcl, fun z hz' => ?_, ?_, ?_⟩
            · rw [hm1]
              dsimp only
              by_cases ez : z = k0
              · subst ez
                rw [put_same, List.getElem?_set_self (by simp; omega)]
              · rw [put_ne ez, List.getElem?_set_ne (Ne.symm ez)]
                by_cases ez2 : z = y
                · subst ez2
                  rw [put_same, List.getElem?_set_self (by simp; omega)]
                · rw [put_ne ez2, List.getElem?_set_ne (Ne.symm ez2)]
                  exact hz3 z hz'
            · rw [hm1]
              have e9 : (flat eI ((k0 :: r0).reverse.map fun c : Nat => (c : Int))).take (r0.length * 1) = flat eI (r0.reverse.map fun c : Nat => (c : Int)) := by
                rw [flat_take eI_len, List.reverse_cons, List.map_append, List.take_append_of_le_length (by simp), List.take_of_length_le (by simp)]
              rw [e9] at oc
              exact oc.mono (fun _ _ h => h) fun j hj hF => x35.get j (oc.on hj).2 (by have : h1.length ≤ j := hF; omega)
            · rw [hm1]
              dsimp only
              omega
        · have hst2 : (mrun x.2.length w y).2 = [] := List.eq_nil_of_length_eq_zero (by omega)
          have hm1 : mrun x.2.length w (y + 1) = (put (mrun x.2.length w y).1 y (-1), []) := by
            rw [hmr]
            unfold mstep
            rw [if_neg c1, if_neg c2, hst2]
          refine w_add (by omega) (by omega) (ih (w.length - (y + 1)) _ _ (by omega) ⟨y + 1, _, v6, by omega, rfl, e0, e1, e5, e6, rfl, X3, by omega, g3, by simpa using hcl, ?_, ?_, ?_⟩)
          · rw [hm1]; exact hz3
          · rw [hm1]; rw [hst2] at o3; exact o3
          · rw [hm1]; exact Nat.zero_le _
      · have c1 : c = 2 * (x.2.length : Int) := Classical.byContradiction fun h => by
          rw [if_neg h] at hs2
          by_cases c2 : c % 2 = 0
          · rw [if_pos c2] at hs2; exact r hs2
          · rw [if_neg c2] at hs2; exact r2 hs2
        have hm1 : mrun x.2.length w (y + 1) = (put (mrun x.2.length w y).1 y (-1), (mrun x.2.length w y).2) := by
          rw [hmr]
          unfold mstep
          rw [if_pos c1]
        refine w_add (by omega) (by omega) (ih (w.length - (y + 1)) _ _ (by omega) ⟨y + 1, _, v6, by omega, rfl, e0, e1, e5, e6, rfl, X3, by omega, g3, by simpa using hcl, ?_, ?_, ?_⟩)
        · rw [hm1]; exact hz3
        · rw [hm1]; exact o3
        · rw [hm1]; dsimp only; omega
  · have ey : y = w.length := by omega
    subst ey
    have ecl : cl = partners x.2.length w := by
      apply List.ext_getElem?
      intro z
      unfold partners
      by_cases hz' : z < w.length
      · rw [hz z hz', List.getElem?_map, List.getElem?_range hz']
        rfl
      · rw [List.getElem?_eq_none (by omega), List.getElem?_eq_none (by simp; omega)]
    rw [ecl] at g2
    have hpl : (partners x.2.length w).length = w.length := by unfold partners; simp
    refine k _ h2 x2 ⟨flat_length eI_len _, .inr ⟨h.length, 0, w.length, by rw [hpl], .inl ⟨by omega, by omega⟩, .inr ⟨_, true, g2, by rw [flat_length eI_len]; omega, ?_⟩⟩⟩
    rw [List.drop_zero, ← flat_length eI_len, List.take_length]
end Go.Proofs.Ytlenlhlipmkeeaa.W
end

section
/- Schema's laws: the program's symbols, and that they may be. Conditions: none. -/
namespace Go.Proofs.Ytlenlhlipmkeeaa.W
open Go Go.AM SchM
set_option linter.unusedVariables false
set_option maxRecDepth 100000
theorem named53 {h : AH} {w : W} {K : Value → AH → Prop} (hl : ∀ c ∈ w, low c = true) (h0 : w ≠ []) (h8 : w.length ≤ 8) (k : K (.bool true) h) : callW Try.prog 53 [.string (bs w)] h K := by
  refine c53 ?_
  unfold s53
  refine loopE_intro (fun m e h' => ∃ i : Nat, i ≤ w.length ∧ m = w.length - i ∧ e 0 = .string (bs w) ∧ e 3 = .int .i64 (i : Nat) ∧ h' = h) w.length ⟨0, Nat.zero_le _, rfl, rfl, rfl, rfl⟩ ?_
  rintro I m e h1 ⟨i, hi, hm, e0, e3, rfl⟩ ih
  rw [e0, e3]
  refine w_lenStr (w_lss (c_dec (fun q => ?_) (fun q => ?_)))
  · obtain ⟨b, hb⟩ := getElem?_of_lt (l := w) (i := i) (by omega)
    have h12 : 97 ≤ b.toNat ∧ b.toNat ≤ 122 := of_decide_eq_true (hl b (List.mem_of_getElem? hb))
    have n1 : ¬ ((b.toNat : Nat) : Int) < 97 := by omega
    have n2 : ¬ (122 : Int) < ((b.toNat : Nat) : Int) := by omega
    refine w_idxStr (Int.natCast_nonneg i) (by rw [Int.toNat_natCast]; exact hb) ?_
    refine w_lss (g_ff n1 (g_ff n1 (g_ff n1 (w_idxStr (Int.natCast_nonneg i) (by rw [Int.toNat_natCast]; exact hb) (g_ff n1 (w_gtr (pk_ff n1 (c_ff n2 ?_))))))))
    refine w_add (by omega) (by omega) ?_
    exact ih (w.length - (i + 1)) _ _ (by omega) ⟨i + 1, by omega, rfl, e0, rfl, rfl⟩
  · have hp : 0 < w.length := List.length_pos_iff.2 h0
    have p1 : (0 : Int) < ((w.length : Nat) : Int) := by omega
    refine w_lenStr (w_gtr (g_tt p1 (g_tt p1 (w_lenStr (g_tt p1 (w_leq (pk_tt p1 ?_)))))))
    rw [decide_eq_true (show ((w.length : Nat) : Int) ≤ 8 by omega)]
    exact k
theorem sy_eq0 (a b : W × Int) : pBin Try.prog .eql 50 (.agg (eSy a).toArray) (.agg (eSy b).toArray) = (sameScals (eSy a) (eSy b)).map Value.bool := by kernel_rfl
theorem sy_same (a b : W × Int) : sameScals (eSy a) (eSy b) = some (decide (a = b)) := by
  obtain ⟨a1, a2⟩ := a
  obtain ⟨b1, b2⟩ := b
  unfold eSy
  simp only [sameScals, sameScal, bytes_toList, bs_data, if_true]
  by_cases h1 : a1 = b1
  · subst h1
    by_cases h2 : a2 = b2
    · subst h2; simp
    · have : (a2 == b2) = false := by
        rw [beq_eq_false_iff_ne]
        exact h2
      simp [this, h2]
  · have : (a1 == b1) = false := by simpa using h1
    simp [this, h1]
theorem w_syeq {a b : W × Int} {K : Value → Prop} (k : K (.bool (decide (a = b)))) : optW (pBin Try.prog .eql 50 (.agg (eSy a).toArray) (.agg (eSy b).toArray)) K := by
  rw [sy_eq0, sy_same]; exact k
set_option maxHeartbeats 1000000 in
theorem check28 {h : AH} {v : Value} {l : List (W × Int)} {K : Value → AH → Prop} (hl : SlT 2 eSy h v l) (h0 : 0 < l.length) (h20 : l.length ≤ 20) (hn : ∀ s ∈ l, ((∀ c ∈ s.1, low c = true) ∧ s.1 ≠ [] ∧ s.1.length ≤ 8) ∧ 1 ≤ s.2 ∧ s.2 ≤ 3) (hd : l.Nodup) (k : K (.int .i64 0) h) : callW Try.prog 28 [v] h K := by
  have n0 : ¬ ((l.length : Nat) : Int) = 0 := by omega
  have n20 : ¬ (20 : Int) < ((l.length : Nat) : Int) := by omega
  refine c28 ?_
  unfold s28
  refine w_len hl (w_eql (g_ff n0 (g_ff n0 (w_len hl (g_ff n0 (w_gtr (pk_ff n0 (c_ff n20 ?_))))))))
  refine loopE_intro (fun m e h' => ∃ i : Nat, i ≤ l.length ∧ m = l.length - i ∧ e 0 = v ∧ e 3 = .int .i64 (i : Nat) ∧ h' = h) l.length ⟨0, Nat.zero_le _, rfl, rfl, rfl, rfl⟩ ?_
  rintro I m e h1 ⟨i, hi, hm, e0, e3, rfl⟩ ih
  rw [e0, e3]
  refine w_len hl (w_lss (c_dec (fun q => ?_) (fun q => k)))
  obtain ⟨s, hs⟩ := getElem?_of_lt (l := l) (i := i) (by omega)
  obtain ⟨⟨q1, q2, q3⟩, q4, q5⟩ := hn s (List.mem_of_getElem? hs)
  have m1 : ¬ s.2 < 1 := by omega
  have m2 : ¬ (3 : Int) < s.2 := by omega
  refine w_idxN (enc := eSy) eSy_len hl hs fun p hp => w_off hp (by show 0 ≤ 2; decide) fun p2 hp2 => w_rd1 hp2 (x := .string (bs s.1)) rfl ?_
  refine named53 q1 q2 q3 (w_notb (c_f ?_))
  refine w_idxN (enc := eSy) eSy_len hl hs fun p hp => w_off hp (by show 1 ≤ 2; decide) fun p2 hp2 => w_rd1 hp2 (x := .int .i64 s.2) rfl ?_
  refine w_lss (g_ff m1 (g_ff m1 (g_ff m1 (w_idxN (enc := eSy) eSy_len hl hs fun p hp => g_ff m1 (w_off hp (by show 1 ≤ 2; decide) fun p2 hp2 => g_ff m1 (w_rd1 hp2 (x := .int .i64 s.2) rfl (g_ff m1 (w_gtr (pk_ff m1 (c_ff m2 ?_))))))))))
  refine loopE_intro (fun m e h' => ∃ j : Nat, j ≤ i ∧ m = i - j ∧ e 0 = v ∧ e 3 = .int .i64 (i : Nat) ∧ e 4 = .int .i64 (j : Nat) ∧ h' = h1) i ⟨0, Nat.zero_le _, rfl, e0, e3, rfl, rfl⟩ ?_
  rintro I2 m2 e2 h2 ⟨j, hj, hm2, f0, f3, f4, rfl⟩ ih2
  rw [f0, f3, f4]
  refine w_lss (c_dec (fun r => ?_) (fun r => ?_))
  · obtain ⟨t, ht⟩ := getElem?_of_lt (l := l) (i := j) (by omega)
    refine w_idxN (enc := eSy) eSy_len hl ht fun p hp => w_rdA hp (eSy_len t).symm ?_
    refine w_idxN (enc := eSy) eSy_len hl hs fun p hp => w_rdA hp (eSy_len s).symm ?_
    refine w_syeq ?_
    have ne : ¬ t = s := fun e => by
      obtain ⟨z1, y1⟩ := List.getElem?_eq_some_iff.1 ht
      obtain ⟨z2, y2⟩ := List.getElem?_eq_some_iff.1 hs
      exact List.pairwise_iff_getElem.1 hd j i z1 z2 (by omega) (by rw [y1, y2, e])
    refine c_ff ne (w_add (by omega) (by omega) ?_)
    exact ih2 (i - (j + 1)) _ _ (by omega) ⟨j + 1, by omega, rfl, f0, f3, rfl, rfl⟩
  · refine w_add (by omega) (by omega) ?_
    exact ih (l.length - (i + 1)) _ _ (by omega) ⟨i + 1, by omega, rfl, f0, rfl, rfl⟩
def CapG (s : Nat) (h : AH) (i cap n : Nat) (cs : List Value) : Prop := ∃ c, h[i]? = some (.row c true) ∧ c.length = cap * s ∧ cs.length = n * s ∧ c.take (n * s) = cs
theorem CapG.keep {s : Nat} {h h' : AH} {i cap n : Nat} {cs : List Value} (g : CapG s h i cap n cs) (e : h'[i]? = h[i]?) : CapG s h' i cap n cs := by
  obtain ⟨c, h1, r⟩ := g
  exact ⟨c, e.trans h1, r⟩
theorem app_cap {s i cap n m : Nat} {h : AH} {cs news : List Value} {a : Option Addr} {ln cp : Nat} {K : Value → AH → Prop} (g : CapG s h i cap n cs) (hs : 0 < s) (hm : 0 < m) (hx : srcL s (.slice a ln cp) h = some (m, news)) (hnl : news.length = m * s) (hc : n + m ≤ cap) (hcap : cap < openCap) (hr : cap < room40)
    (k : ∀ h', CapG s h' i cap (n + m) (cs ++ news) → h'.length = h.length → (∀ j, j ≠ i → h'[j]? = h[j]?) → K (.slice (some ⟨i, 0, none⟩) (n + m) cap) h') : appSl s (.slice (some ⟨i, 0, none⟩) n cap) (.slice a ln cp) h K := by
  obtain ⟨c, h1, h2, h3, h4⟩ := g
  have e1 : (n + m) * s ≤ cap * s := Nat.mul_le_mul_right s hc
  have e2 : (n + m) * s = n * s + m * s := Nat.add_mul ..
  have hms : 0 < m * s := Nat.mul_pos hm hs
  refine appSl_of (.inl ?_)
  have : pAppS s (.slice (some ⟨i, 0, none⟩) n cap) (.slice a ln cp) h = some (.slice (some ⟨i, 0, none⟩) (n + m) cap, h.set i (.row (spliceL c (n * s) news) true)) := by
    unfold pAppS
    simp only [hx]
    rw [if_pos (by omega), if_pos hcap]
    unfold pAppEx
    rw [if_pos hc]
    cases hn : news with
    | nil => rw [hn] at hnl; simp at hnl; omega
    | cons y r =>
      rw [← hn]
      have : stAt (some ⟨i, 0, none⟩) (n * s) news h = some (h.set i (.row (spliceL c (n * s) news) true)) := by
        rw [hn]
        unfold stAt
        dsimp only
        rw [← hn]
        simp only [stRow, h1]
        rw [if_pos (by omega)]
        simp
      rw [this]
      rfl
  rw [this]
  refine k _ ⟨_, get_set _ (lt_of_get h1) _, ?_, ?_, ?_⟩ (by simp) fun j hj => get_ne (Ne.symm hj) _
  · unfold spliceL
    rw [List.length_append, List.length_append, List.length_take, List.length_drop]
    omega
  · rw [List.length_append]
    omega
  · unfold spliceL
    rw [h4, List.take_append_of_le_length (by rw [List.length_append]; omega), List.take_of_length_le (by rw [List.length_append]; omega)]
set_option maxHeartbeats 1000000 in
theorem syms27 {h : AH} {x : W × List (W × Mdl)} {v : Value} {K : Value → AH → Prop} (s : SM h x v) (hT : x.2.length ≤ 1000) (k : ∀ i h', Ex h h' → h.length ≤ i → h'[i]? = some (.row (flat eSy (symsOf x)) true) → K (.slice (some ⟨i, 0, none⟩) (symsOf x).length (symsOf x).length) h') : callW Try.prog 27 [v] h K := by
  have hr40 : (1000000000000 : Nat) < room40 := by decide
  have ho40 : (1000000000000 : Nat) < openCap := by decide
  obtain ⟨a, c, cs, rfl, sl, el⟩ := s
  refine c27 ?_
  unfold s27
  refine n_boxv rfl fun h1 x1 l1 g1 => ?_
  have g1' : h1[h.length]? = some (.row [.string (bs x.1), .slice a x.2.length c] true) := g1
  have hlen := symsOf_len x
  refine w_offP (w_rdP g1' (v := .slice a x.2.length c) rfl (w_lenSl (w_mul (by omega) (by omega) (w_add (by omega) (by omega) ?_))))
  have ec : ((2 : Int) * ((x.2.length : Nat) : Int) + 1) = (((symsOf x).length : Nat) : Int) := by omega
  rw [ec]
  refine w_some (v := (0, (symsOf x).length, repL [.string (bs []), .int .i64 0] (symsOf x).length)) ?_ ?_
  · unfold mkSl
    dsimp only
    rw [if_pos ⟨by omega, by omega, by omega, by decide, rfl⟩, Int.toNat_natCast]
    rfl
  refine n_newv fun h2 x2 l2 g2 => ?_
  have g12 := x2.some g1'
  refine w_offP (w_rdP g12 (v := .slice a x.2.length c) rfl (w_lenSl ?_))
  have hrl : ∀ k, (repL [Value.string (bs []), .int .i64 0] k).length = k * 2 := by
    intro k
    induction k with
    | zero => rfl
    | succ k ih =>
      show ([Value.string (bs []), .int .i64 0] ++ repL [Value.string (bs []), .int .i64 0] k).length = _
      rw [List.length_append, ih]
      show 2 + k * 2 = _
      omega
  refine loopE_intro (fun m e h' => ∃ (j : Nat), j ≤ x.2.length ∧ m = x.2.length - j ∧ e 3 = .slice (some ⟨h1.length, 0, none⟩) (2 * j) (symsOf x).length ∧ e 13 = .slice a x.2.length c ∧ e 14 = .int .i64 (x.2.length : Nat) ∧ e 15 = .int .i64 (j : Nat) ∧ Ex h1 h' ∧ h2.length ≤ h'.length ∧ CapG 2 h' h1.length (symsOf x).length (2 * j) (flat eSy (symsL (x.2.take j)))) x.2.length
    ⟨0, Nat.zero_le _, rfl, rfl, rfl, rfl, rfl, x2, Nat.le_refl _, ⟨_, g2, hrl _, rfl, rfl⟩⟩ ?_
  rintro I m e h3 ⟨j, hj, hm, e3, e13, e14, e15, x3, l3, cg⟩ ih
  rw [e3, e13, e14, e15]
  refine w_lss (c_dec (fun q => ?_) (fun q => ?_))
  · obtain ⟨w, hw⟩ := getElem?_of_lt (l := x.2) (i := j) (by omega)
    obtain ⟨k', nn, a', ll, c', eC, _⟩ := EL.get _ _ el j w hw
    refine w_idx ((sl.ex x1).ex x3) (by omega) (by omega) fun p hp => ?_
    rw [Int.toNat_natCast, eC] at hp
    refine w_rdA hp rfl ?_
    refine n_var rfl rfl rfl fun h4 x4 l4 g4 => ?_
    have g4' : h4[h3.length]? = some (.row [.string (bs w.1), .int .i64 k', .string (bs nn), .slice a' ll c'] true) := g4
    refine w_offP (w_rdP g4' (v := .string (bs w.1)) rfl (w_some (v := .agg #[.string (bs w.1), .int .i64 1]) rfl ?_))
    refine w_offP (w_rdP g4' (v := .string (bs w.1)) rfl (w_some (v := .agg #[.string (bs w.1), .int .i64 2]) rfl ?_))
    refine w_some (bld22 _) ?_
    refine n_newv fun h5 x5 l5 g5 => ?_
    have X5 := x4.trans x5
    have hlen2 := symsL_len (x.2.take j)
    rw [List.length_take, Nat.min_eq_left hj] at hlen2
    refine app_cap (cg.keep (X5.get _ (by omega))) (by decide) (by decide : 0 < 2) (srcL_new (n := 2) (s := 2) g5 (by decide) rfl) rfl (by omega) (by omega) (by omega) fun h6 cg6 l6 s6 => ?_
    refine w_add (by omega) (by omega) ?_
    have e5 : symsL (x.2.take (j + 1)) = symsL (x.2.take j) ++ [(w.1, 1), (w.1, 2)] := by
      rw [take_succ_get hw]
      simp [symsL]
    refine ih (x.2.length - (j + 1)) _ _ (by omega) ⟨j + 1, by omega, rfl, rfl, e13, e14, rfl, ⟨by have := x3.len; have := X5.len; omega, fun y hy => ?_⟩, by have := X5.len; omega, ?_⟩
    · rw [s6 y (by omega), X5.get y (x3.lt hy)]
      exact x3.get y hy
    · rw [e5, flat_append]
      exact cg6
  · have ej : j = x.2.length := by omega
    subst ej
    rw [List.take_length] at cg
    refine w_some (v := .agg #[.string (bs [116, 101, 120, 116]), .int .i64 3]) rfl ?_
    refine w_some bld21 ?_
    refine n_newv fun h5 x5 l5 g5 => ?_
    refine app_cap (cg.keep (x5.get _ (by omega))) (by decide) (by decide : 0 < 1) (srcL_new (n := 1) (s := 2) g5 (by decide) rfl) rfl (by omega) (by omega) (by omega) fun h6 cg6 l6 s6 => ?_
    obtain ⟨cc, g6, q1, q2, q3⟩ := cg6
    have ef : flat eSy (symsOf x) = cc := by
      have e7 : flat eSy (symsL x.2) ++ [Value.string (bs wText), .int .i64 3] = flat eSy (symsOf x) := by
        unfold symsOf
        rw [flat_append]
        rfl
      rw [← e7, ← q3, List.take_of_length_le (by omega)]
    rw [← hlen]
    refine k h1.length h6 ⟨by have := x1.len; have := x3.len; have := x5.len; omega, fun y hy => ?_⟩ (by have := x1.len; omega) (by rw [ef]; exact g6)
    have := x1.len
    rw [s6 y (by omega), x5.get y (by have := x3.len; omega), x3.get y (by omega)]
    exact x1.get y hy
end Go.Proofs.Ytlenlhlipmkeeaa.W
end

section
/- strings.Join of this program is the kit's. Conditions: none. -/
namespace Go.Proofs.Ytlenlhlipmkeeaa.W
open Go Go.AM Go.Proofs Go.Shelf
set_option maxRecDepth 100000
def jf : Nat → Nat := fun x => cond (Nat.beq x 156) 88 ( cond (Nat.beq x 165) 94 ( cond (Nat.beq x 166) 95 ( cond (Nat.beq x 169) 96 ( cond (Nat.beq x 240) 100 ( cond (Nat.beq x 241) 101 ( cond (Nat.beq x 276) 102 ( cond (Nat.beq x 277) 103 (x))))))))
def jt : Nat → Nat := fun x => cond (Nat.beq x 0) 0 ( cond (Nat.beq x 3) 3 ( cond (Nat.beq x 4) 4 ( cond (Nat.beq x 5) 5 ( cond (Nat.beq x 9) 9 ( cond (Nat.beq x 20) 20 ( cond (Nat.beq x 31) 30 ( cond (Nat.beq x 37) 54 ( cond (Nat.beq x 70) 131 ( cond (Nat.beq x 72) 133 ( cond (Nat.beq x 75) 136 ( cond (Nat.beq x 76) 137 ( cond (Nat.beq x 80) 75 ( cond (Nat.beq x 127) 140 ( cond (Nat.beq x 164) 141 (x)))))))))))))))
def ren : Ren := ⟨jf, jt, fun x => x⟩
theorem lays : Lays.n156 Try.prog ren where
  mixed := by kernel_rfl
  f156 := by kernel_rfl
  f165 := by kernel_rfl
  f166 := by kernel_rfl
  f169 := by kernel_rfl
  f240 := by kernel_rfl
  f241 := by kernel_rfl
  f276 := by kernel_rfl
  f277 := by kernel_rfl
  t0 := Try.underlying0
  a0 := Try.isAgg0
  z0 := Try.sizeOf0
  v0 := Try.zeroValue0
  t3 := Try.underlying3
  a3 := Try.isAgg3
  z3 := Try.sizeOf3
  v3 := Try.zeroValue3
  t4 := Try.underlying4
  a4 := Try.isAgg4
  z4 := Try.sizeOf4
  v4 := Try.zeroValue4
  t9 := Try.underlying9
  a9 := Try.isAgg9
  z9 := Try.sizeOf9
  v9 := Try.zeroValue9
  t20 := Try.underlying20
  a20 := Try.isAgg20
  z20 := Try.sizeOf20
  v20 := Try.zeroValue20
  t31 := Try.underlying30
  a31 := Try.isAgg30
  z31 := Try.sizeOf30
  v31 := Try.zeroValue30
  t37 := Try.underlying54
  a37 := Try.isAgg54
  z37 := Try.sizeOf54
  v37 := Try.zeroValue54
  t70 := Try.underlying131
  a70 := Try.isAgg131
  z70 := Try.sizeOf131
  v70 := Try.zeroValue131
  t72 := Try.underlying133
  a72 := Try.isAgg133
  z72 := Try.sizeOf133
  v72 := Try.zeroValue133
  t75 := Try.underlying136
  a75 := Try.isAgg136
  z75 := Try.sizeOf136
  v75 := Try.zeroValue136
  t76 := Try.underlying137
  a76 := Try.isAgg137
  z76 := Try.sizeOf137
  v76 := Try.zeroValue137
  t127 := Try.underlying140
  a127 := Try.isAgg140
  z127 := Try.sizeOf140
  v127 := Try.zeroValue140
  t164 := Try.underlying141
  a164 := Try.isAgg141
  z164 := Try.sizeOf141
  v164 := Try.zeroValue141
theorem extra : Builder.Extra Try.prog ren where
  sizeBuilder := by kernel_rfl
  liesBuilder := by kernel_rfl
  t5 := Try.underlying5
  a5 := Try.isAgg5
  z5 := Try.sizeOf5
  v5 := Try.zeroValue5
  infoByte := by kernel_rfl
  cellsByte := by kernel_rfl
  sizeByte := by kernel_rfl
  neB5 := by decide
theorem join88 : isJoin Try.prog 88 := ⟨ren, rfl, lays, extra⟩
end Go.Proofs.Ytlenlhlipmkeeaa.W
end
