/- A word's text, read by a feed: plain mathematics. Conditions: none. -/
import Derived.Test.YtebbjimmgblcpaaQF18
namespace Go.Proofs.Ytebbjimmgblcpaa.W
open Go Go.AM FeedM
set_option linter.unusedVariables false
set_option maxRecDepth 100000

def mstep (m : Mach) (l : List Sy) (p : Lv × List Lv) (k : Int) : Lv × List Lv :=
  if kindAt l k.toNat = 1 then (⟨openRow m p.1.row k, k⟩, p.2 ++ [p.1])
  else if kindAt l k.toNat = 2 then (match p.2.getLast? with
    | none => (⟨lowRow m p.1.row k, p.1.bys⟩, p.2)
    | some u => (⟨closeRow m u.row p.1.row p.1.bys k, u.bys⟩, p.2.dropLast))
  else (⟨innerRow m p.1.row k, p.1.bys⟩, p.2)
/-- where a machine is behind a word. -/
def mrun (m : Mach) (l : List Sy) (w : List Int) : Lv × List Lv := w.foldl (mstep m l) (FeedM.begin m, [])
def ostep (l : List Sy) (n : Nat) (k : Int) : Nat := if kindAt l k.toNat = 1 then n + 1 else if kindAt l k.toNat = 2 then n - 1 else n
/-- how many stand open behind a word. -/
def opn (l : List Sy) (w : List Int) : Nat := w.foldl (ostep l) 0

theorem mrun_snoc (m : Mach) (l : List Sy) (w : List Int) (k : Int) : mrun m l (w ++ [k]) = mstep m l (mrun m l w) k := by simp [mrun]
theorem opn_snoc (l : List Sy) (w : List Int) (k : Int) : opn l (w ++ [k]) = ostep l (opn l w) k := by simp [opn]
theorem mstep_len (m : Mach) (l : List Sy) (p : Lv × List Lv) (k : Int) : (mstep m l p k).2.length = ostep l p.2.length k := by
  unfold mstep ostep
  split
  · simp
  split
  · split
    · rename_i h
      rw [List.getLast?_eq_none_iff.1 h]; rfl
    · simp
  · rfl
theorem snoc_ind {α : Type} {P : List α → Prop} (h0 : P []) (h1 : ∀ w k, P w → P (w ++ [k])) : ∀ w, P w := by
  intro w
  have : ∀ n (w : List α), w.length = n → P w := by
    intro n
    induction n with
    | zero => intro w hw; rw [List.length_eq_zero_iff.1 hw]; exact h0
    | succ n ih =>
      intro w hw
      have hne : w ≠ [] := by intro h; rw [h] at hw; cases hw
      have he : w.dropLast ++ [w.getLast hne] = w := List.dropLast_concat_getLast hne
      rw [← he]
      exact h1 _ _ (ih _ (by rw [List.length_dropLast, hw]; rfl))
  exact this _ w rfl
theorem mrun_len (m : Mach) (l : List Sy) : ∀ w, (mrun m l w).2.length = opn l w :=
  snoc_ind rfl fun w k ih => by rw [mrun_snoc, opn_snoc, mstep_len, ih]
theorem opn_le (l : List Sy) : ∀ w, opn l w ≤ w.length :=
  snoc_ind (Nat.le_refl _) fun w k ih => by
    rw [opn_snoc, List.length_append, List.length_singleton]
    unfold ostep
    split
    · omega
    split <;> omega

/-- the symbols' names are single letters, each told once. -/
def okSy (l : List Sy) : Prop := ∀ (i : Nat) (x : Sy), l[i]? = some x → idxOf x l = i ∧ (∃ c, x.1 = [c] ∧ letter c = true) ∧ (x.2 = 1 ∨ x.2 = 2 ∨ x.2 = 3)
def okAt (l : List Sy) (i : Nat) : Bool := match l[i]? with
  | some x => decide (idxOf x l = (i : Int)) && (match x.1 with | [c] => letter c | _ => false) && (decide (x.2 = 1) || decide (x.2 = 2) || decide (x.2 = 3))
  | none => true
theorem okSy_choices : ∀ l ∈ symChoices, okSy l := by
  have h : ∀ l ∈ symChoices, ∀ i, i < l.length → okAt l i = true := by decide
  intro l hl i x hx
  obtain ⟨hi, _⟩ := List.getElem?_eq_some_iff.1 hx
  have h := h l hl i hi
  unfold okAt at h
  rw [hx] at h
  simp only [Bool.and_eq_true, Bool.or_eq_true, decide_eq_true_eq, or_assoc] at h
  obtain ⟨⟨h1, h2⟩, h3⟩ := h
  refine ⟨h1, ?_, h3⟩
  split at h2
  · rename_i c hc; exact ⟨c, hc, h2⟩
  · cases h2
theorem small_choices : ∀ l ∈ symChoices, 0 < l.length ∧ l.length ≤ 7 := by decide

/-- a feed that has read so much: nothing is begun, nothing is wrong. -/
structure Good (l : List Sy) (m : Mach) (d : Int) (w : List Int) (r : Int) (st : FS) : Prop where
  hm : st.m = m
  hl : st.l = l
  deep : st.deep = d
  s : st.s = []
  e : st.e = 0
  word : st.word = w
  read : st.read = r
  place : st.place = 0
  closed : st.closed = false
  lv : (st.now, st.under) = mrun m l w

/-- the same, a plain token at most is begun. -/
structure Pre (l : List Sy) (m : Mach) (d : Int) (w : List Int) (r : Int) (st : FS) : Prop where
  good : Good l m d w r (FeedM.ended st)
  e : st.e = 0
  pend : st.s ≠ [] → ∃ j y, w.getLast? = some j ∧ l[j.toNat]? = some y ∧ y.2 = 3

theorem ended_nil {st : FS} (h : st.s = []) : FeedM.ended st = st := by unfold FeedM.ended; rw [h]
theorem Good.pre {l : List Sy} {m : Mach} {d : Int} {w : List Int} {r : Int} {st : FS} (g : Good l m d w r st) : Pre l m d w r st := ⟨by rw [ended_nil g.s]; exact g, g.e, fun h => (h g.s).elim⟩
theorem Good.under {l : List Sy} {m : Mach} {d : Int} {w : List Int} {r : Int} {st : FS} (g : Good l m d w r st) : st.under.length = opn l w := by
  rw [← mrun_len m l w, ← g.lv]
theorem Good.new (l : List Sy) (m : Mach) (d : Int) : Good l m d [] 0 (FeedM.new l m d) := ⟨rfl, rfl, rfl, rfl, rfl, rfl, rfl, rfl, rfl, rfl⟩

theorem sym_good {l : List Sy} {m : Mach} {d : Int} {w : List Int} {r : Int} {st : FS} {k : Int} {x : Sy} (g : Good l m d w r { st with s := [] }) (hx : l[k.toNat]? = some x) (hk : 0 ≤ k) (ok : okSy l)
    (hd : x.2 = 1 → (opn l w : Int) < d) : Good l m d (w ++ [k]) r (FeedM.sym st x.1 x.2) := by
  obtain ⟨h1, _, h3⟩ := ok _ _ hx
  have hi : idxOf (x.1, x.2) st.l = k := by
    have : st.l = l := g.hl
    rw [this]
    show idxOf x l = k
    rw [h1]; omega
  have hk' : kindAt l k.toNat = x.2 := by unfold kindAt; rw [hx]
  have hu : st.under.length = opn l w := g.under
  have hdp : st.deep = d := g.deep
  have hm : st.m = m := g.hm
  have lv : (st.now, st.under) = mrun m l w := g.lv
  unfold FeedM.sym
  rw [hi, if_neg (by omega), if_neg (by rintro ⟨a, b⟩; have := hd a; omega)]
  dsimp only
  have hr := mrun_snoc m l w k
  rw [← lv] at hr
  unfold mstep at hr
  rw [hk'] at hr
  by_cases q1 : x.2 = 1
  · rw [if_pos q1]
    rw [if_pos q1] at hr
    exact ⟨g.hm, g.hl, g.deep, rfl, g.e, by rw [← g.word]; rfl, g.read, g.place, g.closed, by rw [hr, ← hm]; rfl⟩
  rw [if_neg q1]
  rw [if_neg q1] at hr
  by_cases q2 : x.2 = 2
  · rw [if_pos q2]
    rw [if_pos q2] at hr
    unfold FeedM.closedBy
    dsimp only at hr ⊢
    cases hg : st.under.getLast? with
    | none =>
      rw [hg] at hr
      exact ⟨g.hm, g.hl, g.deep, rfl, g.e, by rw [← g.word], g.read, g.place, g.closed, by rw [hr, ← hm]⟩
    | some u =>
      rw [hg] at hr
      exact ⟨g.hm, g.hl, g.deep, rfl, g.e, by rw [← g.word], g.read, g.place, g.closed, by rw [hr, ← hm]⟩
  · rw [if_neg q2]
    rw [if_neg q2] at hr
    exact ⟨g.hm, g.hl, g.deep, rfl, g.e, by rw [← g.word]; rfl, g.read, g.place, g.closed, by rw [hr, ← hm]; rfl⟩

theorem write_nil (st : FS) : FeedM.write st [] = st := rfl
theorem write_err {st : FS} (h : st.e ≠ 0) : ∀ b, FeedM.write st b = st
  | [] => rfl
  | c :: b => by unfold FeedM.write; rw [if_pos h]
theorem write_cons {st : FS} (h : st.e = 0) (c : UInt8) (b : List UInt8) : FeedM.write st (c :: b) = FeedM.write (FeedM.step st c) b := by
  conv => lhs; unfold FeedM.write
  rw [if_neg (fun g => g h)]
theorem write_app : ∀ (a : List UInt8) (st : FS) (b : List UInt8), FeedM.write st (a ++ b) = FeedM.write (FeedM.write st a) b
  | [], st, b => rfl
  | c :: a, st, b => by
    by_cases h : st.e = 0
    · rw [List.cons_append, write_cons h, write_cons h, write_app a]
    · rw [write_err h, write_err h, write_err h]

def rd1 (st : FS) : FS := { st with read := st.read + 1 }

theorem step_letter {st : FS} {c : UInt8} (hs : st.s = []) (he : st.e = 0) (hc : letter c = true) : FeedM.step st c = rd1 { st with s := [c], at_ := st.read } := by
  obtain ⟨m, now, under, s, at_, l, deep, read, word, e, place, closed⟩ := st
  have hs : s = [] := hs
  have he : e = 0 := he
  subst hs he
  have h3 : ¬ (c = 32 ∨ c = 9 ∨ c = 10) := by
    rintro (rfl | rfl | rfl) <;> exact absurd hc (by decide)
  unfold FeedM.step FeedM.step1 FeedM.first
  rw [hc, if_pos rfl]
  simp [h3, rd1]
theorem lex_open {st : FS} {c : UInt8} (hs : st.s = []) (he : st.e = 0) (hc : letter c = true) : FeedM.write st [60, c, 62] = rd1 (FeedM.sym { st with s := [60, c], at_ := st.read, read := st.read + 2 } [c] 1) := by
  obtain ⟨m, now, under, s, at_, l, deep, read, word, e, place, closed⟩ := st
  have hs : s = [] := hs
  have he : e = 0 := he
  subst hs he
  have h47 : c ≠ 47 := by rintro rfl; exact absurd hc (by decide)
  have hl60 : letter 60 = false := by decide
  have hl62 : letter 62 = false := by decide
  rw [write_cons rfl]
  have e1 : FeedM.step ⟨m, now, under, [], at_, l, deep, read, word, 0, place, closed⟩ 60 = ⟨m, now, under, [60], read, l, deep, read + 1, word, 0, place, closed⟩ := rfl
  rw [e1, write_cons rfl]
  have e2 : FeedM.step ⟨m, now, under, [60], read, l, deep, read + 1, word, 0, place, closed⟩ c = ⟨m, now, under, [60, c], read, l, deep, read + 1 + 1, word, 0, place, closed⟩ := by
    unfold FeedM.step FeedM.step1 FeedM.more
    rw [hc, if_pos rfl]
    simp [fromKind]
  rw [e2, write_cons rfl, write_nil]
  have hk : fromKind [60, c] = (1, 1) := by unfold fromKind; simp [h47]
  have e3 : FeedM.step ⟨m, now, under, [60, c], read, l, deep, read + 1 + 1, word, 0, place, closed⟩ 62 = rd1 (FeedM.more ⟨m, now, under, [60, c], read, l, deep, read + 1 + 1, word, 0, place, closed⟩ 62) := rfl
  rw [e3]
  unfold FeedM.more
  dsimp only
  rw [hk, if_neg (by rw [hl62]; simp), if_pos (by simp)]
  have e4 : read + 1 + 1 = read + 2 := by omega
  rw [e4]
  rfl
theorem lex_close {st : FS} {c : UInt8} (hs : st.s = []) (he : st.e = 0) (hc : letter c = true) : FeedM.write st [60, 47, c, 62] = rd1 (FeedM.sym { st with s := [60, 47, c], at_ := st.read, read := st.read + 3 } [c] 2) := by
  obtain ⟨m, now, under, s, at_, l, deep, read, word, e, place, closed⟩ := st
  have hs : s = [] := hs
  have he : e = 0 := he
  subst hs he
  have hl62 : letter 62 = false := by decide
  rw [write_cons rfl]
  have e1 : FeedM.step ⟨m, now, under, [], at_, l, deep, read, word, 0, place, closed⟩ 60 = ⟨m, now, under, [60], read, l, deep, read + 1, word, 0, place, closed⟩ := rfl
  rw [e1, write_cons rfl]
  have e1' : FeedM.step ⟨m, now, under, [60], read, l, deep, read + 1, word, 0, place, closed⟩ 47 = ⟨m, now, under, [60, 47], read, l, deep, read + 1 + 1, word, 0, place, closed⟩ := rfl
  rw [e1', write_cons rfl]
  have hk2 : fromKind [60, 47] = (2, 2) := by unfold fromKind; simp
  have e2 : FeedM.step ⟨m, now, under, [60, 47], read, l, deep, read + 1 + 1, word, 0, place, closed⟩ c = ⟨m, now, under, [60, 47, c], read, l, deep, read + 1 + 1 + 1, word, 0, place, closed⟩ := by
    unfold FeedM.step FeedM.step1 FeedM.more
    rw [hc, if_pos rfl]
    dsimp only
    rw [hk2]
    simp
  rw [e2, write_cons rfl, write_nil]
  have hk : fromKind [60, 47, c] = (2, 2) := by unfold fromKind; simp
  have e3 : FeedM.step ⟨m, now, under, [60, 47, c], read, l, deep, read + 1 + 1 + 1, word, 0, place, closed⟩ 62 = rd1 (FeedM.more ⟨m, now, under, [60, 47, c], read, l, deep, read + 1 + 1 + 1, word, 0, place, closed⟩ 62) := rfl
  rw [e3]
  unfold FeedM.more
  dsimp only
  rw [hk, if_neg (by rw [hl62]; simp), if_pos (by simp)]
  have e4 : read + 1 + 1 + 1 = read + 3 := by omega
  rw [e4]
  rfl

theorem Good.rd {l : List Sy} {m : Mach} {d : Int} {w : List Int} {r : Int} {st : FS} (g : Good l m d w r st) : Good l m d w (r + 1) (rd1 st) :=
  ⟨g.hm, g.hl, g.deep, g.s, g.e, g.word, by show st.read + 1 = _; rw [g.read], g.place, g.closed, g.lv⟩
theorem Good.tok {l : List Sy} {m : Mach} {d : Int} {w : List Int} {r : Int} {st : FS} (g : Good l m d w r st) (s : List UInt8) (a : Int) (n : Int) : Good l m d w n { { st with s := s, at_ := a, read := n } with s := [] } :=
  ⟨g.hm, g.hl, g.deep, rfl, g.e, g.word, rfl, g.place, g.closed, g.lv⟩

theorem blank_pre {l : List Sy} {m : Mach} {d : Int} {w : List Int} {r : Int} {st : FS} {c : UInt8} (p : Pre l m d w r st) (hc : c = 32 ∨ c = 9 ∨ c = 10) : Good l m d w (r + 1) (FeedM.step st c) := by
  have hl : letter c = false := by rcases hc with rfl | rfl | rfl <;> decide
  have : FeedM.step st c = rd1 (FeedM.ended st) := by
    unfold FeedM.step
    rw [hl, if_neg (by decide)]
    dsimp only
    have : FeedM.step1 (FeedM.ended st) c = FeedM.ended st := by
      unfold FeedM.step1
      rw [if_neg (fun h => h p.good.e), p.good.s]
      dsimp only
      unfold FeedM.first
      rw [if_pos hc]
    rw [this]
    rfl
  rw [this]
  exact p.good.rd

theorem blanks_good {l : List Sy} {m : Mach} {d : Int} {w : List Int} : ∀ {sep : List UInt8} {r : Int} {st : FS}, Good l m d w r st → blanks sep → Good l m d w (r + (sep.length : Nat)) (FeedM.write st sep)
  | [], r, st, g, _ => by simpa [write_nil] using g
  | c :: sep, r, st, g, hb => by
    rw [write_cons g.e]
    have := blanks_good (blank_pre g.pre (hb c (by simp))) (fun c hc => hb c (List.mem_cons_of_mem _ hc))
    have e : r + (((c :: sep).length : Nat) : Int) = r + 1 + ((sep.length : Nat) : Int) := by simp only [List.length_cons]; omega
    rw [e]
    exact this

theorem sign_good {l : List Sy} {m : Mach} {d : Int} {w : List Int} {r : Int} {st : FS} {k : Int} {x : Sy} (g : Good l m d w r st) (hx : l[k.toNat]? = some x) (hk : 0 ≤ k) (ok : okSy l)
    (hd : x.2 = 1 → (opn l w : Int) < d) : Pre l m d (w ++ [k]) (r + ((signOf x).length : Nat)) (FeedM.write st (signOf x)) := by
  obtain ⟨_, ⟨c, h2, hc⟩, h3⟩ := ok _ _ hx
  unfold signOf
  by_cases q1 : x.2 = 1
  · rw [if_pos q1, h2]
    show Pre l m d (w ++ [k]) (r + 3) (FeedM.write st [60, c, 62])
    rw [lex_open g.s g.e hc]
    have s := sym_good (k := k) (g.tok [60, c] st.read (r + 2)) hx hk ok hd
    rw [h2, q1] at s
    have e : r + 3 = (r + 2) + 1 := by omega
    rw [e, g.read]
    rw [g.read] at s
    exact s.rd.pre
  rw [if_neg q1]
  by_cases q2 : x.2 = 2
  · rw [if_pos q2, h2]
    show Pre l m d (w ++ [k]) (r + 4) (FeedM.write st [60, 47, c, 62])
    rw [lex_close g.s g.e hc]
    have s := sym_good (k := k) (g.tok [60, 47, c] st.read (r + 3)) hx hk ok hd
    rw [h2, q2] at s
    have e : r + 4 = (r + 3) + 1 := by omega
    rw [e, g.read]
    rw [g.read] at s
    exact s.rd.pre
  · rw [if_neg q2, h2]
    have q3 : x.2 = 3 := h3.elim (fun h => (q1 h).elim) fun h => h.elim (fun h => (q2 h).elim) id
    rw [write_cons g.e, write_nil, step_letter g.s g.e hc]
    show Pre l m d (w ++ [k]) (r + 1) _
    refine ⟨?_, g.e, fun _ => ⟨k, x, by simp, hx, q3⟩⟩
    have s := sym_good (k := k) (g.tok [c] st.read (r + 1)) hx hk ok hd
    rw [h2, q3] at s
    have : FeedM.ended (rd1 { st with s := [c], at_ := st.read }) = FeedM.sym { st with s := [c], at_ := st.read, read := r + 1 } [c] 3 := by
      unfold FeedM.ended rd1
      dsimp only
      rw [if_pos hc, g.read]
    rw [this]
    exact s

theorem step_ended {l : List Sy} {m : Mach} {d : Int} {w : List Int} {r : Int} {st : FS} (p : Pre l m d w r st) {c : UInt8} (hc : letter c = false) : FeedM.step st c = FeedM.step (FeedM.ended st) c := by
  unfold FeedM.step
  rw [hc, if_neg (by decide), if_neg (by decide), ended_nil p.good.s]

/-- no deeper than may be. -/
def Low (l : List Sy) (d : Int) (w : List Int) : Prop := ∀ n, (opn l (w.take n) : Int) ≤ d
theorem Low.of_len {l : List Sy} {d : Int} {w : List Int} (h : (w.length : Int) ≤ d) : Low l d w := fun n => by
  have := opn_le l (w.take n)
  rw [List.length_take] at this
  omega
theorem Low.init {l : List Sy} {d : Int} {w : List Int} {k : Int} (h : Low l d (w ++ [k])) : Low l d w := fun n => by
  by_cases q : n ≤ w.length
  · have := h n
    rwa [List.take_append_of_le_length q] at this
  · have := h w.length
    rw [List.take_append_of_le_length (Nat.le_refl _), List.take_length] at this
    rwa [List.take_of_length_le (by omega)]
theorem Low.last {l : List Sy} {d : Int} {w : List Int} (h : Low l d w) : (opn l w : Int) ≤ d := by
  have := h w.length
  rwa [List.take_length] at this

theorem text_pre {l : List Sy} {m : Mach} {d : Int} {w : List Int} {s : List UInt8} (ok : okSy l) (t : TextOf l w s) : Low l d w → Pre l m d w (s.length : Nat) (FeedM.write (FeedM.new l m d) s) := by
  induction t with
  | nil => exact fun _ => (Good.new l m d).pre
  | @snoc w s sep k x t hx hk hb hc ih =>
    intro low
    have p := ih low.init
    have hd : x.2 = 1 → (opn l w : Int) < d := by
      intro q
      have := low.last
      rw [opn_snoc] at this
      unfold ostep at this
      have hk' : kindAt l k.toNat = x.2 := by unfold kindAt; rw [hx]
      rw [hk', if_pos q] at this
      omega
    have he : ((s ++ (sep ++ signOf x)).length : Int) = (s.length : Int) + (sep.length : Nat) + ((signOf x).length : Nat) := by simp only [List.length_append]; omega
    rw [he, write_app]
    generalize FeedM.write (FeedM.new l m d) s = st at *
    cases sep with
    | cons c sep =>
      rw [List.cons_append, write_cons p.e, write_app]
      have g := blank_pre p (hb c (by simp))
      have g := blanks_good (sep := sep) g fun c hc => hb c (List.mem_cons_of_mem _ hc)
      have e1 : ((s.length : Nat) : Int) + (((c :: sep).length : Nat) : Int) = ((s.length : Nat) : Int) + 1 + ((sep.length : Nat) : Int) := by simp only [List.length_cons]; omega
      rw [e1]
      exact sign_good g hx hk ok hd
    | nil =>
      rw [List.nil_append]
      have e1 : ((s.length : Nat) : Int) + ((([] : List UInt8).length : Nat) : Int) = (s.length : Nat) := by simp
      rw [e1]
      by_cases q : st.s = []
      · have g := p.good
        rw [ended_nil q] at g
        exact sign_good g hx hk ok hd
      · obtain ⟨j, y, h1, h2, h3⟩ := p.pend q
        have q3 : x.2 ≠ 3 := fun h => hc j y h1 h2 h h3 rfl
        have : FeedM.write st (signOf x) = FeedM.write (FeedM.ended st) (signOf x) := by
          obtain ⟨_, ⟨c, hn, hl⟩, h4⟩ := ok _ _ hx
          have : ∃ r, signOf x = 60 :: r := by
            unfold signOf
            rcases h4 with h4 | h4 | h4
            · rw [if_pos h4]; exact ⟨_, rfl⟩
            · rw [if_neg (by omega), if_pos h4]; exact ⟨_, rfl⟩
            · exact (q3 h4).elim
          obtain ⟨r, hr⟩ := this
          rw [hr, write_cons p.e, write_cons p.good.e, step_ended p (by decide)]
        rw [this]
        exact sign_good p.good hx hk ok hd

theorem Pre.shut {l : List Sy} {m : Mach} {d : Int} {w : List Int} {r : Int} {st : FS} (p : Pre l m d w r st) :
    (FeedM.shut st).e = 0 ∧ (FeedM.shut st).place = 0 ∧ (FeedM.shut st).word = w ∧ (FeedM.shut st).m = m ∧ (FeedM.shut st).now = (mrun m l w).1 ∧ (FeedM.shut st).under.length = opn l w := by
  have : FeedM.shut st = { FeedM.ended st with closed := true } := by
    unfold FeedM.shut FeedM.shut1
    rw [if_pos p.e]
    unfold FeedM.shut2
    rw [p.good.s]
  rw [this]
  have g := p.good
  refine ⟨g.e, g.place, g.word, g.hm, ?_, g.under⟩
  show (FeedM.ended st).now = _
  rw [← g.lv]
end Go.Proofs.Ytebbjimmgblcpaa.W
