/- A new feed; the tokens of a text: the walks. Conditions: none. -/
import Derived.Test.YtebbjimmgblcpaaQF14
namespace Go.Proofs.Ytebbjimmgblcpaa.W
open Go Go.AM FeedM
set_option linter.unusedVariables false
set_option maxRecDepth 100000

theorem idp {a b : AH} (x : Ex a b) {i off : Nat} (hi : i < a.length) : ∀ z ∈ idOf (.pointer (some ⟨i, off, none⟩)), a[z]? = b[z]? := by
  intro z hz
  have : z = i := by simpa [idOf] using hz
  rw [this]
  exact (x.get i hi).symm

theorem Sl.isSl {s : Nat} {h : AH} {v : Value} {n : Nat} {cs : List Value} (hv : Sl s h v n cs) : isSl v := by
  obtain ⟨a, c, e⟩ := hv.shape
  exact ⟨a, _, c, e⟩

theorem Fit.new {l : List Sy} {m : Mach} {deep : Int} {b : Nat} (hu : (Uof m).length + 2 < room40) (hf : m.final.length < room40) (hl : l.length < room40) (hb : b < room40) : Fit (FeedM.new l m deep) b :=
  ⟨hu, hf, hl, in_begin, fun v hv => by simp [FeedM.new] at hv, by simpa [FeedM.new] using hb, by simpa [FeedM.new] using hb, by simpa [FeedM.new] using hb, by show (0 : Int) ≤ 0 ∧ (0 : Int) + b < room40; omega⟩

theorem Fit.write {b : Nat} : ∀ {bs : List UInt8} {st : FS}, Fit st (5 * bs.length + b) → Fit (FeedM.write st bs) b
  | [], st, t => t.mono (by omega)
  | c :: bs, st, t => by
    unfold FeedM.write
    split
    · exact t.mono (by omega)
    · exact Fit.write ((t.mono (c := (5 * bs.length + b) + 5) (by simp only [List.length_cons]; omega)).step)

theorem Chg.toEx {h h1 h2 : AH} {F F' : Nat → Prop} (c : Chg F h1 F' h2) (x : Ex h h1) (hF : ∀ j, F j → h.length ≤ j) : Ex h h2 :=
  ⟨Nat.le_trans x.len c.len, fun j hj => (c.get j (x.lt hj) fun h => by have := hF j h; omega).trans (x.get j hj)⟩
theorem Chg.low {h h1 h2 : AH} {F F' : Nat → Prop} (c : Chg F h1 F' h2) (x : Ex h h1) (hF : ∀ j, F j → h.length ≤ j) : ∀ j, F' j → h.length ≤ j :=
  fun j hj => (c.dom j hj).elim (hF j) fun h => Nat.le_trans x.len h

set_option maxHeartbeats 4000000 in
theorem new22 {h : AH} {v0 vi vf vo vc vn : Value} {l : List Sy} {m : Mach} {deep : Int} {K : Value → AH → Prop} (hl : Syms h v0 l) (hi : Ints h vi m.init) (hf : Ints h vf m.final) (ho : SlT 4 e4 h vo m.opens) (hc : SlT 4 e4 h vc m.closes) (hn : SlT 3 e3 h vn m.inners)
    (bl : l.length < room40) (b1 : m.init.length < room40) (b2 : m.final.length < room40) (b3 : m.opens.length < room40) (b4 : m.closes.length < room40) (b5 : m.inners.length < room40)
    (k : ∀ h' f F', Ex h h' → FR h' f (FeedM.new l m deep) F' → (∀ j, F' j → h.length ≤ j) → K (.pointer (some ⟨f, 0, none⟩)) h') :
    callW Try.prog 22 [v0, .agg (mcells m.n m.g vi vf vo vc vn).toArray, .int .i64 deep] h K := by
  obtain ⟨a1, n1, c1, e1⟩ := Sl.isSl hi
  obtain ⟨a2, n2, c2, e2⟩ := Sl.isSl hf
  obtain ⟨a3, n3, c3, e3⟩ := Sl.isSl ho
  obtain ⟨a4, n4, c4, e4⟩ := Sl.isSl hc
  obtain ⟨a5, n5, c5, e5⟩ := Sl.isSl hn
  subst e1 e2 e3 e4 e5
  refine c22 ?_
  unfold s22
  refine n_boxv rfl fun h1 x1 l1 g1 => ?_
  have xr := Ex.res h1
  have lr : (reserve 1 h1).length = h1.length + 1 := by rw [reserve_one]; simp
  have gr := xr.some g1
  have hlr : h.length < (reserve 1 h1).length := by omega
  have xh : Ex h (reserve 1 h1) := x1.trans xr
  refine w_offP (w_rdP gr (v := .int .i64 m.n) rfl ?_)
  refine w_offP (w_rdP gr (v := .int .i64 m.g) rfl ?_)
  refine w_offP (w_rdP gr (v := .slice a1 n1 c1) rfl ?_)
  refine clone40 _ _ _ _ _ (hi.ex xh) b1 fun w1 h2 y1 q1 d1 => ?_
  have hl2 : h.length < h2.length := by have := y1.len; omega
  refine ⟨idp y1 hlr, idp y1 hlr, ?_⟩
  refine w_offP ⟨idp y1 hlr, ?_⟩
  refine w_rdP (y1.some gr) (v := .slice a2 n2 c2) rfl ?_
  refine clone40 _ _ _ _ _ (hf.ex (xh.trans y1)) b2 fun w2 h3 y2 q2 d2 => ?_
  have hl3 : h.length < h3.length := by have := y2.len; omega
  refine ⟨idp y2 hl2, idp y2 hl2, ?_⟩
  refine w_offP ⟨idp y2 hl2, idp y1 hlr, ?_⟩
  refine w_rdP (y2.some (y1.some gr)) (v := .slice a3 n3 c3) rfl ?_
  refine clone41 _ _ _ _ _ (ho.ex ((xh.trans y1).trans y2)) b3 fun w3 h4 y3 q3 d3 => ?_
  have hl4 : h.length < h4.length := by have := y3.len; omega
  refine ⟨idp y3 hl3, idp y3 hl3, ?_⟩
  refine w_offP ⟨idp y3 hl3, idp y2 hl2, idp y1 hlr, ?_⟩
  refine w_rdP (y3.some (y2.some (y1.some gr))) (v := .slice a4 n4 c4) rfl ?_
  refine clone42 _ _ _ _ _ (hc.ex (((xh.trans y1).trans y2).trans y3)) b4 fun w4 h5 y4 q4 d4 => ?_
  have hl5 : h.length < h5.length := by have := y4.len; omega
  refine ⟨idp y4 hl4, idp y4 hl4, ?_⟩
  refine w_offP ⟨idp y4 hl4, idp y3 hl3, idp y2 hl2, idp y1 hlr, ?_⟩
  refine w_rdP (y4.some (y3.some (y2.some (y1.some gr)))) (v := .slice a5 n5 c5) rfl ?_
  refine clone43 _ _ _ _ _ (hn.ex ((((xh.trans y1).trans y2).trans y3).trans y4)) b5 fun w5 h6 y5 q5 d5 => ?_
  refine ⟨idp y5 hl5, idp y5 hl5, ?_⟩
  have p1 : Sl 1 h6 w1 _ _ := q1.ex (((y2.trans y3).trans y4).trans y5)
  have p2 : Sl 1 h6 w2 _ _ := q2.ex ((y3.trans y4).trans y5)
  have p3 : Sl 4 h6 w3 _ _ := q3.ex (y4.trans y5)
  have p4 : Sl 4 h6 w4 _ _ := q4.ex y5
  have k1 := y1.len; have k2 := y2.len; have k3 := y3.len; have k4 := y4.len; have k5 := y5.len
  have x6 : Ex h h6 := ((((xh.trans y1).trans y2).trans y3).trans y4).trans y5
  have D1 : ∀ j, onId w1 j → h1.length < j ∧ j < h6.length := fun j hj => by have := d1 j hj; omega
  have D2 : ∀ j, onId w2 j → h1.length < j ∧ j < h6.length := fun j hj => by have := d2 j hj; omega
  have D3 : ∀ j, onId w3 j → h1.length < j ∧ j < h6.length := fun j hj => by have := d3 j hj; omega
  have D4 : ∀ j, onId w4 j → h1.length < j ∧ j < h6.length := fun j hj => by have := d4 j hj; omega
  have D5 : ∀ j, onId w5 j → h1.length < j ∧ j < h6.length := fun j hj => by have := d5 j hj; omega
  obtain ⟨A1, N1, C1, E1⟩ := Sl.isSl p1
  obtain ⟨A2, N2, C2, E2⟩ := Sl.isSl p2
  obtain ⟨A3, N3, C3, E3⟩ := Sl.isSl p3
  obtain ⟨A4, N4, C4, E4⟩ := Sl.isSl p4
  obtain ⟨A5, N5, C5, E5⟩ := Sl.isSl q5
  subst E1 E2 E3 E4 E5
  refine w_some rfl ?_
  refine n_slot ?_
  have hsl : h1.length < h6.length := by omega
  refine w_stPA (get_set _ hsl _) rfl (Nat.le_refl 7) rfl ?_
  refine w_rdPA (get_set _ (by simpa using hsl) _) (Nat.le_refl 7) ?_
  have x8 : ∀ o o', Ex h ((h6.set h1.length o).set h1.length o') := fun o o' => (x6.set (by omega) _).set (by omega) _
  have same : ∀ (o o' : AObj) (j : Nat), h1.length < j → ((h6.set h1.length o).set h1.length o')[j]? = h6[j]? := fun o o' j hj => by rw [get_ne (by omega), get_ne (by omega)]
  have l8 : ∀ o o', ((h6.set h1.length o).set h1.length o').length = h6.length := fun o o' => by simp
  have P1 := Sl.same p1 fun j hj => same (.row [(.int .i64 0), (.int .i64 0), (.slice none 0 0), (.slice none 0 0), (.slice none 0 0), (.slice none 0 0), (.slice none 0 0)] true) (.row (spliceL [(.int .i64 0), (.int .i64 0), (.slice none 0 0), (.slice none 0 0), (.slice none 0 0), (.slice none 0 0), (.slice none 0 0)] 0 (cellsL (.agg (mcells m.n m.g (.slice A1 N1 C1) (.slice A2 N2 C2) (.slice A3 N3 C3) (.slice A4 N4 C4) (.slice A5 N5 C5)).toArray))) true) j (D1 j hj).1
  have P2 := Sl.same p2 fun j hj => same (.row [(.int .i64 0), (.int .i64 0), (.slice none 0 0), (.slice none 0 0), (.slice none 0 0), (.slice none 0 0), (.slice none 0 0)] true) (.row (spliceL [(.int .i64 0), (.int .i64 0), (.slice none 0 0), (.slice none 0 0), (.slice none 0 0), (.slice none 0 0), (.slice none 0 0)] 0 (cellsL (.agg (mcells m.n m.g (.slice A1 N1 C1) (.slice A2 N2 C2) (.slice A3 N3 C3) (.slice A4 N4 C4) (.slice A5 N5 C5)).toArray))) true) j (D2 j hj).1
  have P3 := Sl.same p3 fun j hj => same (.row [(.int .i64 0), (.int .i64 0), (.slice none 0 0), (.slice none 0 0), (.slice none 0 0), (.slice none 0 0), (.slice none 0 0)] true) (.row (spliceL [(.int .i64 0), (.int .i64 0), (.slice none 0 0), (.slice none 0 0), (.slice none 0 0), (.slice none 0 0), (.slice none 0 0)] 0 (cellsL (.agg (mcells m.n m.g (.slice A1 N1 C1) (.slice A2 N2 C2) (.slice A3 N3 C3) (.slice A4 N4 C4) (.slice A5 N5 C5)).toArray))) true) j (D3 j hj).1
  have P4 := Sl.same p4 fun j hj => same (.row [(.int .i64 0), (.int .i64 0), (.slice none 0 0), (.slice none 0 0), (.slice none 0 0), (.slice none 0 0), (.slice none 0 0)] true) (.row (spliceL [(.int .i64 0), (.int .i64 0), (.slice none 0 0), (.slice none 0 0), (.slice none 0 0), (.slice none 0 0), (.slice none 0 0)] 0 (cellsL (.agg (mcells m.n m.g (.slice A1 N1 C1) (.slice A2 N2 C2) (.slice A3 N3 C3) (.slice A4 N4 C4) (.slice A5 N5 C5)).toArray))) true) j (D4 j hj).1
  have P5 := Sl.same q5 fun j hj => same (.row [(.int .i64 0), (.int .i64 0), (.slice none 0 0), (.slice none 0 0), (.slice none 0 0), (.slice none 0 0), (.slice none 0 0)] true) (.row (spliceL [(.int .i64 0), (.int .i64 0), (.slice none 0 0), (.slice none 0 0), (.slice none 0 0), (.slice none 0 0), (.slice none 0 0)] 0 (cellsL (.agg (mcells m.n m.g (.slice A1 N1 C1) (.slice A2 N2 C2) (.slice A3 N3 C3) (.slice A4 N4 C4) (.slice A5 N5 C5)).toArray))) true) j (D5 j hj).1
  have X8 := x8 (.row [(.int .i64 0), (.int .i64 0), (.slice none 0 0), (.slice none 0 0), (.slice none 0 0), (.slice none 0 0), (.slice none 0 0)] true) (.row (spliceL [(.int .i64 0), (.int .i64 0), (.slice none 0 0), (.slice none 0 0), (.slice none 0 0), (.slice none 0 0), (.slice none 0 0)] 0 (cellsL (.agg (mcells m.n m.g (.slice A1 N1 C1) (.slice A2 N2 C2) (.slice A3 N3 C3) (.slice A4 N4 C4) (.slice A5 N5 C5)).toArray))) true)
  have L8 := l8 (.row [(.int .i64 0), (.int .i64 0), (.slice none 0 0), (.slice none 0 0), (.slice none 0 0), (.slice none 0 0), (.slice none 0 0)] true) (.row (spliceL [(.int .i64 0), (.int .i64 0), (.slice none 0 0), (.slice none 0 0), (.slice none 0 0), (.slice none 0 0), (.slice none 0 0)] 0 (cellsL (.agg (mcells m.n m.g (.slice A1 N1 C1) (.slice A2 N2 C2) (.slice A3 N3 C3) (.slice A4 N4 C4) (.slice A5 N5 C5)).toArray))) true)
  refine begin44 (h := (h6.set h1.length (.row [(.int .i64 0), (.int .i64 0), (.slice none 0 0), (.slice none 0 0), (.slice none 0 0), (.slice none 0 0), (.slice none 0 0)] true)).set h1.length (.row (spliceL [(.int .i64 0), (.int .i64 0), (.slice none 0 0), (.slice none 0 0), (.slice none 0 0), (.slice none 0 0), (.slice none 0 0)] 0 (cellsL (.agg (mcells m.n m.g (.slice A1 N1 C1) (.slice A2 N2 C2) (.slice A3 N3 C3) (.slice A4 N4 C4) (.slice A5 N5 C5)).toArray))) true)) P1 b1 ⟨_, _, _, rfl⟩ ⟨_, _, _, rfl⟩ ⟨_, _, _, rfl⟩ ⟨_, _, _, rfl⟩ fun h9 i x9 hi9 hs9 => ?_
  generalize ((h6.set h1.length (.row [(.int .i64 0), (.int .i64 0), (.slice none 0 0), (.slice none 0 0), (.slice none 0 0), (.slice none 0 0), (.slice none 0 0)] true)).set h1.length (.row (spliceL [(.int .i64 0), (.int .i64 0), (.slice none 0 0), (.slice none 0 0), (.slice none 0 0), (.slice none 0 0), (.slice none 0 0)] 0 (cellsL (.agg (mcells m.n m.g (.slice A1 N1 C1) (.slice A2 N2 C2) (.slice A3 N3 C3) (.slice A4 N4 C4) (.slice A5 N5 C5)).toArray))) true)) = h8 at *
  refine clone45 _ _ _ _ _ (hl.ex (X8.trans x9)) bl fun w6 h10 y10 q10 d10 => ?_
  obtain ⟨A6, N6, C6, E6⟩ := Sl.isSl q10
  subst E6
  refine w_some rfl ?_
  refine n_boxv rfl fun h11 x11 l11 g11 => ?_
  have k9 := x9.len; have k10 := y10.len
  have hlt9 := hs9.lt
  have zx : Ex h8 h11 := (x9.trans y10).trans x11
  have rlt : ∀ j, rIds ⟨.slice A1 N1 C1, .slice A2 N2 C2, .slice A3 N3 C3, .slice A4 N4 C4, .slice A5 N5 C5, i, .slice none 0 0, .slice none 0 0, .slice A6 N6 C6, .slice none 0 0, []⟩ j → h.length ≤ j ∧ j < h10.length := by
    intro j hj
    rcases hj with hj | hj | hj | hj | hj | hj | hj | hj
    · have := D1 j hj; omega
    · have := D2 j hj; omega
    · have := D3 j hj; omega
    · have := D4 j hj; omega
    · have := D5 j hj; omega
    · have := d10 j hj; omega
    · have : j = i := hj
      omega
    · cases hj
  have wf : ∀ j, wIds h10.length ⟨.slice A1 N1 C1, .slice A2 N2 C2, .slice A3 N3 C3, .slice A4 N4 C4, .slice A5 N5 C5, i, .slice none 0 0, .slice none 0 0, .slice A6 N6 C6, .slice none 0 0, []⟩ j → j = h10.length := by
    intro j hj
    rcases hj with hj | hj | hj | hj
    · exact hj
    · exact hj.elim
    · exact hj.elim
    · exact hj.elim
  refine k h11 h10.length (fun j => h.length ≤ j ∧ j < h11.length) ((X8.trans x9).trans (y10.trans x11)) ⟨⟨.slice A1 N1 C1, .slice A2 N2 C2, .slice A3 N3 C3, .slice A4 N4 C4, .slice A5 N5 C5, i, .slice none 0 0, .slice none 0 0, .slice A6 N6 C6, .slice none 0 0, []⟩, g11, ?_⟩ fun j hj => hj.1
  exact {
    init := Sl.ex P1 zx
    final := Sl.ex P2 zx
    opens := Sl.ex P3 zx
    closes := Sl.ex P4 zx
    inners := Sl.ex P5 zx
    now := hs9.ex (y10.trans x11)
    under := OwnG.nil _ _ _
    lvs := trivial
    s := OwnG.nil _ _ _
    l := Sl.ex q10 x11
    word := OwnG.nil _ _ _
    ff := ⟨by have := X8.len; omega, by omega⟩
    rF := fun j hj => ⟨(rlt j hj).1, by have := (rlt j hj).2; omega⟩
    lt := fun j hj => hj.2
    sep := fun j hw hj => by have := wf j hw; have := (rlt j hj).2; omega
    sf := ⟨fun h => h, fun h => h, fun h => h⟩
    sw := fun j hj => hj.elim
    wu := fun j hj => hj.elim }

theorem w_strB {s : List UInt8} {h : AH} {K : Value → AH → Prop} (hn : s.length < room40) (k : ∀ v h', Ex h h' → h'.length = h.length + 1 → SlT 1 eB h' v s → (∀ j, onId v j → j = h.length) → K v h') : strB (.string (bs s)) none h K := by
  refine ⟨hn, ?_⟩
  refine k _ _ (.app _ _) (by simp) ?_ fun j hj => ?_
  · have hb : bytesL (bs s) = flat eB s := by
      unfold bytesL flat
      rw [bs_data]
      clear k hn
      induction s with
      | nil => rfl
      | cons c s ih => rw [List.map_cons, ih]; rfl
    refine ⟨flat_length eB_len s, .inr ⟨h.length, 0, _, rfl, .inr rfl, .inr ⟨_, true, get_new _ _, ?_, ?_⟩⟩⟩
    · rw [hb, flat_length eB_len]; omega
    · rw [hb, List.drop_zero, ← flat_length eB_len s, List.take_length]
  · exact (show h.length = j from hj).symm

/-- a machine of nothing -/
def m0 : Mach := ⟨0, 0, [], [], [], [], []⟩
def tokSt (l : List Sy) (s : List UInt8) : FS := FeedM.shut (FeedM.write (FeedM.new l m0 9223372036854775807) s)

theorem SlT.nil {α : Type} {s : Nat} {enc : α → List Value} {h : AH} : SlT s enc h (.slice none 0 0) ([] : List α) := ⟨by simp [flat], .inl ⟨rfl, rfl⟩⟩

theorem write_closed (st : FS) : ∀ (bs : List UInt8), (FeedM.write st bs).closed = st.closed
  | [] => rfl
  | c :: bs => by
    unfold FeedM.write
    split
    · rfl
    · rw [write_closed _ bs, step_closed]

theorem tokens28 {h : AH} {v0 : Value} {l : List Sy} {s : List UInt8} {K : Value → AH → Prop} (hl : Syms h v0 l) (bl : l.length < room40) (hs : 5 * s.length + 10 < room40)
    (k1 : ∀ h', Ex h h' → (tokSt l s).e ≠ 0 → K (.tuple #[.slice none 0 0, .int .i64 (tokSt l s).place, .int .i64 (tokSt l s).e]) h')
    (k2 : ∀ h' v, Ex h h' → (tokSt l s).e = 0 → Ints h' v (tokSt l s).word → K (.tuple #[v, .int .i64 0, .int .i64 0]) h') :
    callW Try.prog 28 [v0, .string (bs s)] h K := by
  refine c28 ?_
  unfold s28
  refine w_some rfl ?_
  have r0 : (0 : Nat) < room40 := by decide
  refine new22 (m := m0) hl SlT.nil SlT.nil SlT.nil SlT.nil SlT.nil bl r0 r0 r0 r0 r0 fun h1 f F1 x1 r1 low1 => ?_
  refine w_strB (by omega) fun v2 h2 x2 l2 sv2 id2 => ?_
  have r2 := r1.ex x2
  have t2 : Fit (FeedM.new l m0 9223372036854775807) (5 * s.length + 10) := Fit.new (by decide) (by decide) bl hs
  have lt1 : ∀ j, F1 j → j < h1.length := by obtain ⟨V, _, b⟩ := r1; exact b.lt
  refine write23 r2 t2 rfl sv2 (fun j hj hF => by have := id2 j hj; have := lt1 j hF; omega) fun h3 F3 r3 c3 => ?_
  have t3 : Fit (FeedM.write (FeedM.new l m0 9223372036854775807) s) 10 := Fit.write t2
  refine close24 r3 (t3.mono (c := 0 + 2) (by omega)) (by rw [write_closed]; rfl) fun h4 F4 c r4 c4 hc => ?_
  have x4 : Ex h h4 := (c3.trans c4).toEx (x1.trans x2) low1
  refine w_some rfl (w_some rfl (w_some rfl (w_neq ?_)))
  refine c_dec (fun q => ?_) (fun q => ?_)
  · exact k1 h4 x4 q
  · have q : (tokSt l s).e = 0 := by
      refine Classical.byContradiction fun h => q h
    obtain ⟨V4, hr4, b4⟩ := r4
    refine w_nilc (w_offP (w_rdP hr4 (v := V4.vw) rfl ?_))
    have t4 : (tokSt l s).word.length < room40 := by
      have t : Fit (tokSt l s) 0 := by
        have a : Fit (FeedM.shut1 (FeedM.write (FeedM.new l m0 9223372036854775807) s)) 0 := by
          unfold FeedM.shut1
          split
          · exact (t3.mono (c := 0 + 2) (by omega)).ended
          · exact t3.mono (by omega)
        have b : Fit (FeedM.shut2 (FeedM.shut1 (FeedM.write (FeedM.new l m0 9223372036854775807) s))) 0 := by
          unfold FeedM.shut2
          split
          · exact a
          · exact a.wrong
        exact ⟨b.u, b.fin, b.l, b.now, b.und, b.ub, b.sb, b.wb, b.rd⟩
      exact t.wb
    refine clone40 _ _ _ _ _ b4.word.sl t4 fun w h5 x5 q5 _ => ?_
    exact k2 h5 w (x4.trans x5) q q5
end Go.Proofs.Ytebbjimmgblcpaa.W
