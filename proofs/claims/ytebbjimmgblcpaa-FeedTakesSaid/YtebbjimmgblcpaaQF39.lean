/- The levels of the document's Takes. Conditions: none. -/
import Derived.Test.YtebbjimmgblcpaaQF38
namespace Go.Proofs.Ytebbjimmgblcpaa.W
open Go Go.AM FeedM
set_option linter.unusedVariables false
set_option maxRecDepth 100000

def eLv (n : Int) (u : Nat × Int) : List Value := lvC u.1 n u.2
theorem eLv_len (n : Int) (u : Nat × Int) : (eLv n u).length = 2 := rfl

/-- what stands under: a slice of levels, each with its row, below a place. -/
def TkU (h : AH) (pn : Nat) (n : Int) (vu : Value) (ls : List Lv) (b : Nat) : Prop := ∃ us : List (Nat × Int), OwnG 2 (fun j => pn < j) h vu us.length (flat (eLv n) us) ∧ us.length = ls.length ∧
  ∀ (k : Nat) (u : Nat × Int) (lv : Lv), us[k]? = some u → ls[k]? = some lv → u.2 = lv.bys ∧ RowAt h u.1 n lv.row ∧ u.1 ≠ pn ∧ ¬ onId vu u.1 ∧ u.1 < b

theorem TkU.mono {h : AH} {pn : Nat} {n : Int} {vu : Value} {ls : List Lv} {b c : Nat} (t : TkU h pn n vu ls b) (hb : b ≤ c) : TkU h pn n vu ls c := by
  obtain ⟨us, o, hl, hr⟩ := t
  exact ⟨us, o, hl, fun k u lv h1 h2 => by obtain ⟨a1, a2, a3, a4, a5⟩ := hr k u lv h1 h2; exact ⟨a1, a2, a3, a4, by omega⟩⟩
theorem TkU.keep {h h' : AH} {pn : Nat} {n : Int} {vu : Value} {ls : List Lv} {b : Nat} (t : TkU h pn n vu ls b) (hv : ∀ j, onId vu j → j < h.length → h'[j]? = h[j]?) (hb : ∀ j, j < b → j < h.length → j ≠ pn → h'[j]? = h[j]?) : TkU h' pn n vu ls b := by
  obtain ⟨us, o, hl, hr⟩ := t
  refine ⟨us, o.mono (fun _ _ h => h) fun j hj _ => hv j hj (o.on hj).2, hl, fun k u lv h1 h2 => ?_⟩
  obtain ⟨a1, a2, a3, a4, a5⟩ := hr k u lv h1 h2
  exact ⟨a1, a2.keep (hb _ a5 a2.lt a3), a3, a4, a5⟩
theorem TkU.ex {h h' : AH} {pn : Nat} {n : Int} {vu : Value} {ls : List Lv} {b : Nat} (t : TkU h pn n vu ls b) (x : Ex h h') : TkU h' pn n vu ls b := t.keep (fun j _ hj => x.get j hj) fun j _ hj _ => x.get j hj
theorem TkU.set {h : AH} {pn : Nat} {n : Int} {vu : Value} {ls : List Lv} {b j : Nat} (t : TkU h pn n vu ls b) (hj : ¬ onId vu j) (hb : b ≤ j ∨ j = pn) (o : AObj) : TkU (h.set j o) pn n vu ls b :=
  t.keep (fun x hx _ => get_ne (show j ≠ x from fun e => hj (by rw [e]; exact hx)) _) fun x hx _ hp => get_ne (show j ≠ x from fun e => by subst e; rcases hb with h | h <;> omega) _
theorem TkU.on {h : AH} {pn : Nat} {n : Int} {vu : Value} {ls : List Lv} {b : Nat} (t : TkU h pn n vu ls b) {j : Nat} (hj : onId vu j) : pn < j ∧ j < h.length := by
  obtain ⟨us, o, hl, hr⟩ := t
  exact o.on hj
theorem TkU.nil (h : AH) (pn : Nat) (n : Int) (b : Nat) : TkU h pn n (.slice none 0 0) [] b := ⟨[], OwnG.nil _ _ _, rfl, fun k u lv h1 _ => by simp at h1⟩
theorem TkU.len {h : AH} {pn : Nat} {n : Int} {vu : Value} {ls : List Lv} {b : Nat} {K : Value → Prop} (t : TkU h pn n vu ls b) (k : K (.int .i64 ls.length)) : optW (lenSl vu) K := by
  obtain ⟨us, o, hl, hr⟩ := t
  refine w_len o.sl ?_
  rw [hl]
  exact k

/-- one level more -/
theorem TkU.push {h : AH} {pn i0 : Nat} {n : Int} {vu : Value} {ls : List Lv} {lv : Lv} {b : Nat} {K : Value → AH → Prop} (t : TkU h pn n vu ls b) (r : RowAt h i0 n lv.row) (hi : i0 ≠ pn) (hv : ¬ onId vu i0) (hib : i0 < b) (hpn : pn < h.length) (hb : b ≤ h.length) (hs : ls.length + 1 < room40)
    (k : ∀ v' h', TkU h' pn n v' (ls ++ [lv]) b → h.length < h'.length → (∀ j, j < h.length → ¬ onId vu j → h'[j]? = h[j]?) → (∀ j, onId v' j → onId vu j ∨ h.length ≤ j) → K v' h') :
    appSl 2 vu (.slice (some ⟨h.length, 0, none⟩) 1 1) (h ++ [.row (lvC i0 n lv.bys) true]) K := by
  obtain ⟨us, o, hl, hr⟩ := t
  have x : Ex h (h ++ [.row (lvC i0 n lv.bys) true]) := .app _ _
  have o1 : OwnG 2 (fun j => pn < j) (h ++ [.row (lvC i0 n lv.bys) true]) vu us.length (flat (eLv n) us) := o.mono (fun _ _ h => h) fun j hj _ => x.get j (o.on hj).2
  refine appSl_of (app_g (by decide) o1 (srcL_new (get_new _ _) (by decide) rfl) rfl (by omega) fun v' h' q1 l1 k1 id1 => ?_)
  have l1 : h.length + 1 ≤ h'.length := by simpa using l1
  have kk : ∀ j, j < h.length → ¬ onId vu j → h'[j]? = h[j]? := fun j hj hn => (k1 j (by simp; omega) hn).trans (x.get j hj)
  have idd : ∀ j, onId v' j → onId vu j ∨ h.length ≤ j := fun j hj => (id1 j hj).imp id fun e => by simp at e; omega
  refine k v' h' ⟨us ++ [(i0, lv.bys)], ?_, by simp [hl], fun k u lv' h1 h2 => ?_⟩ (by omega) kk idd
  · have e1 : flat (eLv n) (us ++ [(i0, lv.bys)]) = flat (eLv n) us ++ lvC i0 n lv.bys := by rw [flat_append]; simp [flat, eLv]
    rw [e1, List.length_append]
    exact q1.mono (fun j _ h => h.elim id fun e => by simp at e; omega) fun _ _ _ => rfl
  · by_cases e : k < us.length
    · rw [List.getElem?_append_left e] at h1
      rw [List.getElem?_append_left (by omega)] at h2
      obtain ⟨a1, a2, a3, a4, a5⟩ := hr k u lv' h1 h2
      exact ⟨a1, a2.keep (kk _ a2.lt a4), a3, fun hh => (idd _ hh).elim a4 fun hh => by omega, a5⟩
    · have hk : k = us.length := by
        have := (List.getElem?_eq_some_iff.1 h1).1
        simp at this
        omega
      subst hk
      rw [List.getElem?_append_right (Nat.le_refl _)] at h1
      rw [List.getElem?_append_right (by omega), hl] at h2
      simp at h1 h2
      subst h1 h2
      exact ⟨rfl, r.keep (kk _ r.lt hv), hi, fun hh => (idd _ hh).elim hv fun hh => by have := r.lt; omega, hib⟩

/-- the last level -/
theorem TkU.last {h : AH} {pn : Nat} {n : Int} {vu : Value} {ls : List Lv} {b : Nat} {lv : Lv} (t : TkU h pn n vu ls b) (hg : ls.getLast? = some lv) :
    ∃ us ib, SlT 2 (eLv n) h vu us ∧ us[ls.length - 1]? = some (ib, lv.bys) ∧ RowAt h ib n lv.row ∧ 0 < ls.length := by
  obtain ⟨us, o, hl, hr⟩ := t
  have hpos : 0 < ls.length := by
    cases ls with
    | nil => cases hg
    | cons _ _ => simp
  rw [List.getLast?_eq_getElem?] at hg
  obtain ⟨u, hu⟩ := getElem?_of_lt (l := us) (i := ls.length - 1) (by omega)
  obtain ⟨a1, a2, a3, a4, a5⟩ := hr _ u lv hu hg
  refine ⟨us, u.1, o.sl, ?_, a2, hpos⟩
  rw [hu, ← a1]

theorem TkU.cut {h : AH} {pn : Nat} {n : Int} {vu : Value} {ls : List Lv} {b : Nat} {K : Value → Prop} (t : TkU h pn n vu ls b) (hpos : 0 < ls.length)
    (k : ∀ v', TkU h pn n v' ls.dropLast b → (∀ j, onId v' j → onId vu j) → K v') : optW (pSliceSl 2 vu none (some (.int .i64 (((ls.length : Nat) : Int) - 1))) none) K := by
  obtain ⟨us, o, hl, hr⟩ := t
  have e : ((ls.length : Nat) : Int) - 1 = ((ls.length - 1 : Nat) : Int) := by omega
  rw [e]
  refine cut_g o (by omega) fun v' o' id' => ?_
  refine k v' ⟨us.take (ls.length - 1), ?_, by simp [hl], fun k u lv h1 h2 => ?_⟩ id'
  · have hl2 : (us.take (ls.length - 1)).length = ls.length - 1 := by rw [List.length_take]; omega
    rw [hl2, ← flat_take (eLv_len n)]
    exact o'
  · have hk : k < ls.length - 1 := by
      have := (List.getElem?_eq_some_iff.1 h1).1
      rw [List.length_take] at this
      omega
    rw [List.getElem?_take_of_lt hk] at h1
    rw [List.dropLast_eq_take, List.getElem?_take_of_lt hk] at h2
    obtain ⟨a1, a2, a3, a4, a5⟩ := hr k u lv h1 h2
    exact ⟨a1, a2, a3, fun hh => a4 (id' _ hh), a5⟩

theorem PtrTo.ids {h : AH} {p : Value} {cs : List Value} (hp : PtrTo h p cs) {a b : AH} (x : Ex h a) (y : Ex h b) : ∀ z ∈ idOf p, a[z]? = b[z]? := by
  obtain ⟨id, off, c, w, rfl, h1, h2⟩ := hp
  intro z hz
  have : z = id := List.mem_singleton.1 hz
  subst this
  rw [x.get _ (lt_of_get h1), y.get _ (lt_of_get h1)]
end Go.Proofs.Ytebbjimmgblcpaa.W
