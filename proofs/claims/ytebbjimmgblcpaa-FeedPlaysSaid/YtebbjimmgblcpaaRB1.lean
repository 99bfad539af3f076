/- Parts of a proof, joined by a program. Conditions: none. -/
import Derived.Test.YtebbjimmgblcpaaRB0
import Derived.Test.YtebbjimmgblcpaaRA2
import Derived.Test.YtebbjimmgblcpaaRS0

section
/- The feed's other fields that grow; whether it may be at an end that is final: the walks. Conditions: none. -/
namespace Go.Proofs.Ytebbjimmgblcpaa.W
open Go Go.AM FeedM
set_option linter.unusedVariables false
set_option maxRecDepth 100000

theorem FRB.ex {h h' : AH} {f : Nat} {V : FV} {st : FS} {F : Nat → Prop} (b : FRB h f V st F) (x : Ex h h') : FRB h' f V st F :=
  b.same x.len (fun j hj => x.get j (b.lt j (b.rF j hj))) (fun j hj => x.get j (b.lt j (by
    rcases hj with h | h | h
    · exact (b.s.on h).1
    · exact (b.word.on h).1
    · exact (b.under.on h).1)))
theorem FR.ex {h h' : AH} {f : Nat} {st : FS} {F : Nat → Prop} (r : FR h f st F) (x : Ex h h') : FR h' f st F := by
  obtain ⟨V, h1, b⟩ := r
  exact ⟨V, x.some h1, b.ex x⟩
theorem Chg.ex {h h' : AH} {F : Nat → Prop} (x : Ex h h') : Chg F h F h' := ⟨x.len, fun j hj _ => x.get j hj, fun _ hj => .inl hj⟩

theorem newword {h h' : AH} {f : Nat} {V : FV} {st : FS} {F F' : Nat → Prop} {v' : Value} {w' : List Int} (b : FRB h f V st F) (hl : h.length ≤ h'.length) (hr : ∀ j, F j → ¬ onId V.vw j → h'[j]? = h[j]?)
    (ou : OwnG 1 F' h' v' w'.length (flat eI w')) (hid : ∀ j, onId v' j → onId V.vw j ∨ h.length ≤ j) (hF : ∀ j, F j → F' j) (hlt : ∀ j, F' j → j < h'.length) :
    FRB h' f { V with vw := v' } { st with word := w' } F' := by
  have nr : ∀ j, rIds V j → h'[j]? = h[j]? := fun j hj => hr j (b.rF j hj) fun hu => b.sep j (.inr (.inr (.inl hu))) hj
  have ns : ∀ j, onId V.vs j → h'[j]? = h[j]? := fun j hj => hr j (b.s.on hj).1 (b.sw j hj).1
  have nu : ∀ j, onId V.vu j → h'[j]? = h[j]? := fun j hj => hr j (b.under.on hj).1 fun h => b.wu j h hj
  exact {
    init := Sl.same b.init fun j hj => nr j (.inl hj)
    final := Sl.same b.final fun j hj => nr j (.inr (.inl hj))
    opens := Sl.same b.opens fun j hj => nr j (.inr (.inr (.inl hj)))
    closes := Sl.same b.closes fun j hj => nr j (.inr (.inr (.inr (.inl hj))))
    inners := Sl.same b.inners fun j hj => nr j (.inr (.inr (.inr (.inr (.inl hj)))))
    now := b.now.same (nr _ (.inr (.inr (.inr (.inr (.inr (.inr (.inl rfl))))))))
    under := b.under.mono (fun j _ h => hF j h) fun j hj _ => nu j hj
    lvs := b.lvs.same fun j hj => nr j (.inr (.inr (.inr (.inr (.inr (.inr (.inr hj)))))))
    s := b.s.mono (fun j _ h => hF j h) fun j hj _ => ns j hj
    l := Sl.same b.l fun j hj => nr j (.inr (.inr (.inr (.inr (.inr (.inl hj))))))
    word := ou
    ff := hF _ b.ff
    rF := fun j hj => hF j (b.rF j hj)
    lt := hlt
    sep := fun j hw hj => by
      have hjF := b.rF j hj
      have hjl := b.lt j hjF
      refine b.sep j ?_ hj
      rcases hw with h | h | h | h
      · exact .inl h
      · exact .inr (.inl h)
      · rcases hid j h with h | h
        · exact .inr (.inr (.inl h))
        · omega
      · exact .inr (.inr (.inr h))
    sf := ⟨b.sf.1, fun h => (hid f h).elim b.sf.2.1 fun h => by have := b.lt f b.ff; omega, b.sf.2.2⟩
    sw := fun j hj => ⟨fun h => (hid j h).elim (b.sw j hj).1 fun h => by have := b.lt j (b.s.on hj).1; omega, (b.sw j hj).2⟩
    wu := fun j hj h => (hid j hj).elim (fun hj => b.wu j hj h) fun hj => by have := b.lt j (b.under.on h).1; omega }

theorem newtok {h h' : AH} {f : Nat} {V : FV} {st : FS} {F F' : Nat → Prop} {v' : Value} {s' : List UInt8} {a' : Int} (b : FRB h f V st F) (hl : h.length ≤ h'.length) (hr : ∀ j, F j → ¬ onId V.vs j → h'[j]? = h[j]?)
    (ou : OwnG 1 F' h' v' s'.length (flat eB s')) (hid : ∀ j, onId v' j → onId V.vs j ∨ h.length ≤ j) (hF : ∀ j, F j → F' j) (hlt : ∀ j, F' j → j < h'.length) :
    FRB h' f { V with vs := v' } { st with s := s', at_ := a' } F' := by
  have nr : ∀ j, rIds V j → h'[j]? = h[j]? := fun j hj => hr j (b.rF j hj) fun hu => b.sep j (.inr (.inl hu)) hj
  have nw : ∀ j, onId V.vw j → h'[j]? = h[j]? := fun j hj => hr j (b.word.on hj).1 fun h => (b.sw j h).1 hj
  have nu : ∀ j, onId V.vu j → h'[j]? = h[j]? := fun j hj => hr j (b.under.on hj).1 fun h => (b.sw j h).2 hj
  exact {
    init := Sl.same b.init fun j hj => nr j (.inl hj)
    final := Sl.same b.final fun j hj => nr j (.inr (.inl hj))
    opens := Sl.same b.opens fun j hj => nr j (.inr (.inr (.inl hj)))
    closes := Sl.same b.closes fun j hj => nr j (.inr (.inr (.inr (.inl hj))))
    inners := Sl.same b.inners fun j hj => nr j (.inr (.inr (.inr (.inr (.inl hj)))))
    now := b.now.same (nr _ (.inr (.inr (.inr (.inr (.inr (.inr (.inl rfl))))))))
    under := b.under.mono (fun j _ h => hF j h) fun j hj _ => nu j hj
    lvs := b.lvs.same fun j hj => nr j (.inr (.inr (.inr (.inr (.inr (.inr (.inr hj)))))))
    s := ou
    l := Sl.same b.l fun j hj => nr j (.inr (.inr (.inr (.inr (.inr (.inl hj))))))
    word := b.word.mono (fun j _ h => hF j h) fun j hj _ => nw j hj
    ff := hF _ b.ff
    rF := fun j hj => hF j (b.rF j hj)
    lt := hlt
    sep := fun j hw hj => by
      have hjF := b.rF j hj
      have hjl := b.lt j hjF
      refine b.sep j ?_ hj
      rcases hw with h | h | h | h
      · exact .inl h
      · rcases hid j h with h | h
        · exact .inr (.inl h)
        · omega
      · exact .inr (.inr (.inl h))
      · exact .inr (.inr (.inr h))
    sf := ⟨fun h => (hid f h).elim b.sf.1 fun h => by have := b.lt f b.ff; omega, b.sf.2.1, b.sf.2.2⟩
    sw := fun j hj => ⟨fun h => (hid j hj).elim (fun hj => (b.sw j hj).1 h) fun hj => by have := b.lt j (b.word.on h).1; omega, fun h => (hid j hj).elim (fun hj => (b.sw j hj).2 h) fun hj => by have := b.lt j (b.under.on h).1; omega⟩
    wu := b.wu }

theorem wordtail {h : AH} {f : Nat} {st : FS} {F : Nat → Prop} {k : Int} {K : Value → AH → Prop} (r : FR h f st F) (hw : st.word.length + 1 < room40)
    (kk : ∀ h' F', FR h' f { st with word := st.word ++ [k] } F' → Chg F h F' h' → K (.tuple #[]) h') :
    optW (pNilCheck (.pointer (some ⟨f, 0, none⟩))) fun v79 => optW (pOff 15 v79) fun v80 => optW (rdRow false 1 v80 h) fun v81 => optW (bldSl 1 [(.int .i64 0)] 1 [(0, .int .i64 k)]) fun c =>
      newW none (.row c true) h fun i h1 => appSl 1 v81 (.slice (some ⟨i, 0, none⟩) 1 1) h1 fun v84 h2 => optW (pNilCheck (.pointer (some ⟨f, 0, none⟩))) fun v85 => optW (pOff 15 v85) fun v86 =>
      optW (pStore 1 v86 v84 h2) fun h3 => K (.tuple #[]) h3 := by
  obtain ⟨V, hr, b⟩ := r
  have hlt := lt_of_get hr
  refine w_nilc (w_offP (w_rdP hr (v := V.vw) rfl ?_))
  refine w_some (bldSl_one rfl (by decide) rfl rfl) ?_
  refine n_new ?_
  have hlast : (h ++ [AObj.row (cellsL (.int .i64 k)) true])[h.length]? = some (.row (eI k) true) := get_new _ _
  have x1 : Ex h (h ++ [AObj.row (cellsL (.int .i64 k)) true]) := .app _ _
  have l1 : (h ++ [AObj.row (cellsL (.int .i64 k)) true]).length = h.length + 1 := by simp
  generalize h ++ [AObj.row (cellsL (.int .i64 k)) true] = h1 at *
  have b1 := b.ex x1
  refine appSl_of (app_g (by decide) b1.word (srcL_new hlast (by decide) rfl) rfl hw ?_)
  intro v' h2 o1 o2 o3 o4
  have hf2 : h2[f]? = some (.row (rowOf V st) true) := (o3 _ (x1.lt hlt) b1.sf.2.1).trans (x1.some hr)
  refine w_nilc (w_offP ?_)
  obtain ⟨va, vcap, rfl⟩ := o1.sl.shape
  refine w_stP hf2 (by simp [rowOf]) rfl rfl ?_
  have hfl := lt_of_get hf2
  have bb := newword (w' := st.word ++ [k]) (F' := fun j => (F j ∨ j = h1.length) ∧ j < h2.length) b1 o2 (fun j hj hn => o3 j (b1.lt j hj) hn)
    (by
      have e1 : (st.word ++ [k]).length = st.word.length + 1 := by simp
      have e2 : flat eI (st.word ++ [k]) = flat eI st.word ++ eI k := by rw [flat_append]; simp [flat]
      rw [e1, e2]
      exact o1.mono (fun j hj hF => ⟨hF, (o1.on hj).2⟩) fun _ _ _ => rfl)
    (fun j hj => (o4 j hj).imp id fun e => Nat.le_of_eq e.symm) (fun j hj => ⟨.inl hj, by have := b1.lt j hj; omega⟩) (fun j hj => hj.2)
  refine kk _ _ ⟨_, ?_, bb.setf _⟩ ⟨by simp; omega, fun j hj hF => ?_, fun j hj => ?_⟩
  · rw [get_set _ hfl]
    rfl
  · have hjf : f ≠ j := fun e => hF (by rw [← e]; exact b.ff)
    rw [get_ne hjf, o3 j (by omega) fun hh => hF (b.word.on hh).1]
    exact x1.get j hj
  · rcases hj.1 with h | rfl
    · exact .inl h
    · exact .inr (by omega)

theorem final49 {h : AH} {f : Nat} {st : FS} {F : Nat → Prop} {K : Value → AH → Prop} (r : FR h f st F) (hb : st.m.final.length < room40)
    (k : ∀ h' b, Ex h h' → (b = true ↔ isFinal st) → K (.bool b) h') : callW Try.prog 49 [.pointer (some ⟨f, 0, none⟩)] h K := by
  obtain ⟨V, hr, b⟩ := r
  refine c49 ?_
  unfold s49
  refine w_nilc (w_offP (w_offP (w_rdP hr (v := .map (some V.mi)) rfl ?_)))
  refine range_set Try.underlying88 b.now fun o m0 hi => ?_
  have x3 : Ex h (h ++ [o]) := .app _ _
  have l3 : (h ++ [o]).length = h.length + 1 := by simp
  generalize h ++ [o] = h3 at *
  refine loopE_intro (fun m e h' => ∃ D : Row, e 0 = .pointer (some ⟨f, 0, none⟩) ∧ e 9 = .pointer (some ⟨h.length, 0, none⟩) ∧ Ex h h' ∧ h.length < h'.length ∧
    IterM eP one1 h' h.length V.mi st.now.row D m ∧ ∀ p, D p → p.2 ∉ st.m.final) m0 ⟨fun _ => False, rfl, rfl, x3, by omega, hi, fun _ h => h.elim⟩ ?_
  rintro I m e h4 ⟨D, e0, e9, hx, hrl, hit, hD⟩ hI
  rw [e0, e9]
  have hmi : V.mi < h.length := b.now.lt
  refine next_set hit (fun p o' m' hp hnd hm' hit' hent => ?_) (fun hall => ?_)
  · have y1 : Ex h (h4.set h.length o') := hx.set (by omega) _
    have yl : h.length < (h4.set h.length o').length := by simpa using hrl
    generalize h4.set h.length o' = h5 at *
    refine w_some rfl (c_t ?_)
    refine w_some hent (w_some rfl ?_)
    refine n_var rfl rfl rfl fun h6 x6 l6 g6 => ?_
    refine w_nilc (w_offP (w_offP (w_rdP (x6.some (y1.some hr)) (v := V.vf) rfl ?_)))
    refine w_offP (w_rdP g6 (v := .int .i64 p.2) rfl ?_)
    refine contains65 (b.ex (y1.trans x6)).final hb ?_
    refine c_dec (fun hc => ?_) (fun hc => ?_)
    · exact k _ true (y1.trans x6) ⟨fun _ => ⟨p.1, p.2, hp, hc⟩, fun _ => rfl⟩
    · refine hI m' _ _ hm' ⟨fun y => D y ∨ y = p, e0, e9, y1.trans x6, by omega, hit'.keep (x6.get _ (by have := y1.len; omega)) (x6.get _ yl), fun q hq => ?_⟩
      rcases hq with hq | rfl
      · exact hD q hq
      · exact hc
  · refine w_some rfl (c_f ?_)
    refine k _ false hx ⟨fun h => (by cases h), fun ⟨a, b, h1, h2⟩ => (hD (a, b) ((hall _).1 h1) h2).elim⟩
end Go.Proofs.Ytebbjimmgblcpaa.W
end

section
/- A token that is whole: the walk. Conditions: none. -/
namespace Go.Proofs.Ytebbjimmgblcpaa.W
open Go Go.AM FeedM
set_option linter.unusedVariables false
set_option maxRecDepth 100000

/-- where a machine can be at all. -/
def Uof (m : Mach) : List Int := m.init ++ (m.opens.map (·.2.2.1) ++ (m.inners.map (·.2.2) ++ m.closes.map (·.2.2.2)))
def LvIn (U : List Int) (R : Row) : Prop := ∀ p, R p → p.2 ∈ U

/-- all is small: so much more may come. -/
structure Fit (st : FS) (b : Nat) : Prop where
  u : (Uof st.m).length + 2 < room40
  fin : st.m.final.length < room40
  l : st.l.length < room40
  now : LvIn (Uof st.m) st.now.row
  und : ∀ v ∈ st.under, LvIn (Uof st.m) v.row
  ub : st.under.length + b < room40
  sb : st.s.length + b < room40
  wb : st.word.length + b < room40
  rd : 0 ≤ st.read ∧ st.read + b < room40

theorem Fit.opens {st : FS} {b : Nat} (t : Fit st b) : st.m.opens.length < room40 := by have := t.u; simp only [Uof, List.length_append, List.length_map] at this; omega
theorem Fit.inners {st : FS} {b : Nat} (t : Fit st b) : st.m.inners.length < room40 := by have := t.u; simp only [Uof, List.length_append, List.length_map] at this; omega
theorem Fit.closes {st : FS} {b : Nat} (t : Fit st b) : st.m.closes.length < room40 := by have := t.u; simp only [Uof, List.length_append, List.length_map] at this; omega
theorem Fit.mono {st : FS} {b c : Nat} (t : Fit st b) (h : c ≤ b) : Fit st c := ⟨t.u, t.fin, t.l, t.now, t.und, by have := t.ub; omega, by have := t.sb; omega, by have := t.wb; omega, by have := t.rd; omega⟩

theorem in_open {m : Mach} {R : Row} {k : Int} : LvIn (Uof m) (openRow m R k) := by
  rintro q ⟨h1, p, hp, o, ho, h2, h3, h4⟩
  simp only [Uof, List.mem_append, List.mem_map]
  exact .inr (.inl ⟨o, ho, by rw [h4, h1]⟩)
theorem in_inner {m : Mach} {R : Row} {k : Int} : LvIn (Uof m) (innerRow m R k) := by
  rintro q ⟨b, hp, o, ho, h2, h3, h4⟩
  simp only [Uof, List.mem_append, List.mem_map]
  exact .inr (.inr (.inl ⟨o, ho, h4⟩))
theorem in_low {m : Mach} {R : Row} {k : Int} : LvIn (Uof m) (lowRow m R k) := by
  rintro q ⟨b, hp, o, ho, h2, h3, h4, h5⟩
  simp only [Uof, List.mem_append, List.mem_map]
  exact .inr (.inr (.inr ⟨o, ho, h5⟩))
theorem in_close {m : Mach} {R S : Row} {y k : Int} : LvIn (Uof m) (closeRow m R S y k) := by
  rintro q ⟨b, hp, o, ho, h2, h3, c, hc, h4, h5, h6, h7⟩
  simp only [Uof, List.mem_append, List.mem_map]
  exact .inr (.inr (.inr ⟨c, hc, h7⟩))
theorem in_begin {m : Mach} : LvIn (Uof m) (FeedM.begin m).row := by
  rintro q ⟨h1, h2⟩
  simp only [Uof, List.mem_append]
  exact .inl (h1 ▸ h2)

theorem Fit.opened {st : FS} {b : Nat} {k : Int} (t : Fit st (b + 1)) : Fit (FeedM.opened st k) b :=
  ⟨t.u, t.fin, t.l, in_open, fun v hv => by
    rcases List.mem_append.1 hv with h | h
    · exact t.und v h
    · rw [List.mem_singleton.1 h]; exact t.now, by have := t.ub; simp only [FeedM.opened, List.length_append, List.length_singleton]; omega, (t.mono (Nat.le_succ b)).sb, (t.mono (Nat.le_succ b)).wb, (t.mono (Nat.le_succ b)).rd⟩
theorem Fit.innered {st : FS} {b : Nat} {k : Int} (t : Fit st b) : Fit (FeedM.innered st k) b := ⟨t.u, t.fin, t.l, in_inner, t.und, t.ub, t.sb, t.wb, t.rd⟩
theorem Fit.closedBy {st : FS} {b : Nat} {k : Int} (t : Fit st b) : Fit (FeedM.closedBy st k) b := by
  unfold FeedM.closedBy
  split
  · exact ⟨t.u, t.fin, t.l, in_low, t.und, t.ub, t.sb, t.wb, t.rd⟩
  · rename_i u hu
    exact ⟨t.u, t.fin, t.l, in_close, fun v hv => t.und v (List.dropLast_subset _ hv), by have := t.ub; simp only [List.length_dropLast]; omega, t.sb, t.wb, t.rd⟩
theorem Fit.wrong {st : FS} {b : Nat} {e p : Int} (t : Fit st b) : Fit (FeedM.wrong st e p) b := by
  unfold FeedM.wrong
  split
  · exact ⟨t.u, t.fin, t.l, t.now, t.und, t.ub, t.sb, t.wb, t.rd⟩
  · exact t
theorem Fit.cut {st : FS} {b : Nat} (t : Fit st b) : Fit { st with s := [] } b := ⟨t.u, t.fin, t.l, t.now, t.und, t.ub, by have := t.ub; simp only [List.length_nil]; omega, t.wb, t.rd⟩
theorem Fit.addw {st : FS} {b : Nat} {k : Int} (t : Fit st (b + 1)) : Fit { st with word := st.word ++ [k] } b :=
  ⟨t.u, t.fin, t.l, t.now, t.und, (t.mono (Nat.le_succ b)).ub, (t.mono (Nat.le_succ b)).sb, by have := t.wb; simp only [List.length_append, List.length_singleton]; omega, (t.mono (Nat.le_succ b)).rd⟩
theorem Fit.adds {st : FS} {b : Nat} {c : UInt8} {a : Int} (t : Fit st (b + 1)) : Fit { st with s := st.s ++ [c], at_ := a } b :=
  ⟨t.u, t.fin, t.l, t.now, t.und, (t.mono (Nat.le_succ b)).ub, by have := t.sb; simp only [List.length_append, List.length_singleton]; omega, (t.mono (Nat.le_succ b)).wb, (t.mono (Nat.le_succ b)).rd⟩

theorem Fit.sym {st : FS} {b : Nat} {n : List UInt8} {k : Int} (t : Fit st (b + 2)) : Fit (FeedM.sym st n k) b := by
  have t0 : Fit { st with s := [] } (b + 2) := t.cut
  unfold FeedM.sym
  split
  · exact (t0.mono (by omega)).wrong
  split
  · exact (t0.mono (by omega)).wrong
  dsimp only
  refine Fit.addw ?_
  split
  · exact t0.opened
  split
  · exact (t0.mono (by omega)).closedBy
  · exact (t0.mono (by omega)).innered

theorem sym64 {h : AH} {f : Nat} {st : FS} {F : Nat → Prop} {name : List UInt8} {kind : Int} {b : Nat} {K : Value → AH → Prop} (r : FR h f st F) (ft : Fit st (b + 2))
    (kk : ∀ h' F', FR h' f (FeedM.sym st name kind) F' → Chg F h F' h' → K (.tuple #[]) h') : callW Try.prog 64 [.pointer (some ⟨f, 0, none⟩), .string (bs name), .int .i64 kind] h K := by
  have r0 := r
  obtain ⟨V, hr, b⟩ := r
  have hul := lvs_length b.lvs
  refine c64 ?_
  unfold s64
  refine w_nilc (w_offP (w_rdP hr (v := V.vl) rfl ?_))
  refine w_some rfl ?_
  refine index69 (x := (name, kind)) b.l ft.l fun h1 x1 => ?_
  have b1 := b.ex x1
  have hr1 := x1.some hr
  have hlt := lt_of_get hr1
  refine w_nilc (w_offP (w_offP (w_rdP hr1 (v := .int .i64 st.at_) rfl ?_)))
  refine w_nilc (w_offP (w_offP (w_rdP hr1 (v := V.vs) rfl ?_)))
  refine cut_g (m := 0) b1.s (Nat.zero_le _) fun v' ov hid => ?_
  refine w_nilc (w_offP (w_offP ?_))
  obtain ⟨va, vcap, rfl⟩ := ov.sl.shape
  refine w_stP hr1 (by simp [rowOf]) rfl rfl ?_
  have r2 : FR (h1.set f (.row ((rowOf V st).set (0 + 10 + 0) (.slice va 0 vcap)) true)) f { st with s := [] } F :=
    ⟨_, by rw [get_set _ hlt]; rfl, (newtok (s' := []) (a' := st.at_) (F' := F) b1 (Nat.le_refl _) (fun _ _ _ => rfl) (by simpa [flat] using ov) (fun j hj => .inl (hid j hj)) (fun _ h => h) b1.lt).setf _⟩
  have c2 : Chg F h F (h1.set f (.row ((rowOf V st).set (0 + 10 + 0) (.slice va 0 vcap)) true)) := (Chg.ex x1).trans (Chg.setf b.ff _)
  generalize h1.set f (.row ((rowOf V st).set (0 + 10 + 0) (.slice va 0 vcap)) true) = h2 at *
  have t2 := ft.cut
  unfold FeedM.sym at kk
  refine w_lss ?_
  refine c_dec (fun hc => ?_) (fun hc => ?_)
  · rw [if_pos hc] at kk
    exact wrong48 r2 fun h3 r3 c3 => kk _ _ r3 (c2.trans c3)
  rw [if_neg hc] at kk
  refine w_eql ?_
  by_cases hk : kind = 1
  · refine gd_tt hk ?_
    refine gd_tt hk (w_nilc ?_)
    refine gd_tt hk (w_offP ?_)
    refine gd_tt hk (w_offP ?_)
    obtain ⟨V2, hr2, b2⟩ := r2
    refine gd_tt hk (hist_nil (w_rdP hr2 (v := V2.vu) rfl ?_))
    refine gd_tt hk (w_len b2.under.sl ?_)
    refine gd_tt hk ?_
    refine gd_tt hk (w_nilc ?_)
    refine gd_tt hk (w_offP ?_)
    refine gd_tt hk (hist_nil (w_rdP hr2 (v := .int .i64 st.deep) rfl ?_))
    refine gd_tt hk (w_geq ?_)
    refine pk_tt hk ?_
    have hul2 : V2.ul.length = st.under.length := lvs_length b2.lvs
    have r2 : FR h2 f { st with s := [] } F := ⟨V2, hr2, b2⟩
    refine c_dec (fun hd => ?_) (fun hd => ?_)
    · rw [if_pos ⟨hk, by rw [← hul2]; exact hd⟩] at kk
      exact wrong48 r2 fun h3 r3 c3 => kk _ _ r3 (c2.trans c3)
    rw [if_neg (fun h => hd (by rw [hul2]; exact h.2))] at kk
    dsimp only at kk
    refine w_eql ?_
    refine c_tt hk ?_
    refine w_nilc (w_offP ?_)
    rw [if_pos hk] at kk
    refine open70 r2 t2.opens (t2.mono (c := 1) (by omega)).ub fun h3 F3 r3 c3 => ?_
    refine wordtail r3 ((t2.opened (k := idxOf (name, kind) st.l)).mono (c := 1) (by omega)).wb fun h4 F4 r4 c4 => ?_
    exact kk _ _ r4 ((c2.trans c3).trans c4)
  · refine gd_tf hk ?_
    refine gd_tf hk ?_
    refine gd_tf hk ?_
    refine gd_tf hk ?_
    refine gd_tf hk ?_
    refine gd_tf hk ?_
    refine gd_tf hk ?_
    refine gd_tf hk ?_
    refine gd_tf hk ?_
    refine gd_tf hk ?_
    refine gd_tf hk ?_
    refine pk_ff hk (c_f ?_)
    rw [if_neg (fun h => hk h.1)] at kk
    dsimp only at kk
    refine w_eql ?_
    refine c_ff hk ?_
    rw [if_neg hk] at kk
    refine w_eql ?_
    refine c_dec (fun h2k => ?_) (fun h2k => ?_)
    · rw [if_pos h2k] at kk
      refine w_nilc (w_offP ?_)
      refine close71 r2 t2.opens t2.closes (by have := t2.ub; omega) t2.now t2.u fun h3 F3 r3 c3 => ?_
      refine wordtail r3 ((t2.closedBy (k := idxOf (name, kind) st.l)).mono (c := 1) (by omega)).wb fun h4 F4 r4 c4 => ?_
      exact kk _ _ r4 ((c2.trans c3).trans c4)
    · rw [if_neg h2k] at kk
      refine w_nilc (w_offP ?_)
      refine inner72 r2 t2.inners fun h3 F3 r3 c3 => ?_
      refine wordtail r3 ((t2.innered (k := idxOf (name, kind) st.l)).mono (c := 1) (by omega)).wb fun h4 F4 r4 c4 => ?_
      exact kk _ _ r4 ((c2.trans c3).trans c4)

theorem ended47 {h : AH} {f : Nat} {st : FS} {F : Nat → Prop} {b : Nat} {K : Value → AH → Prop} (r : FR h f st F) (ft : Fit st (b + 2))
    (kk : ∀ h' F', FR h' f (FeedM.ended st) F' → Chg F h F' h' → K (.tuple #[]) h') : callW Try.prog 47 [.pointer (some ⟨f, 0, none⟩)] h K := by
  have r0 := r
  obtain ⟨V, hr, b⟩ := r
  refine c47 ?_
  unfold s47
  refine w_nilc (w_offP (w_offP (w_rdP hr (v := V.vs) rfl ?_)))
  refine w_len b.s.sl ?_
  refine w_gtr ?_
  unfold FeedM.ended at kk
  cases hs : st.s with
  | nil =>
    rw [hs] at kk
    have hn : ¬ (0 : Int) < (([] : List UInt8).length : Nat) := by simp
    refine g_tf hn (g_tf hn (g_tf hn (g_tf hn (g_tf hn (g_tf hn (g_tf hn (g_tf hn ?_)))))))
    refine pk_ff hn (c_f ?_)
    exact kk _ _ r0 (Chg.refl _ _)
  | cons c s =>
    rw [hs] at kk
    have hn : (0 : Int) < ((c :: s).length : Nat) := by simp only [List.length_cons]; omega
    refine g_tt hn (g_tt hn (w_nilc (g_tt hn (w_offP (g_tt hn (w_offP (g_tt hn (w_rdP hr (v := V.vs) rfl (g_tt hn ?_)))))))))
    refine w_idxN (enc := eB) (i := 0) eB_len b.s.sl (by rw [hs]; rfl) fun p hp => ?_
    refine g_tt hn (w_rd1 hp rfl ?_)
    refine g_tt hn ?_
    refine letter61 ?_
    refine pk_tt hn ?_
    refine c_b (fun hc => ?_) (fun hc => ?_)
    · refine w_nilc (w_offP (w_offP (w_rdP hr (v := V.vs) rfl ?_)))
      dsimp only at kk
      rw [if_pos hc, ← hs] at kk
      refine w_bstr b.s.sl (by rw [hs]; simp) ?_
      refine sym64 r0 ft fun h1 F1 r1 c1 => ?_
      exact kk _ _ r1 c1
    · dsimp only at kk
      rw [hc] at kk
      exact kk _ _ r0 (Chg.refl _ _)
end Go.Proofs.Ytebbjimmgblcpaa.W
end

section
/- A byte is read: the walk. Conditions: none. -/
namespace Go.Proofs.Ytebbjimmgblcpaa.W
open Go Go.AM FeedM
set_option linter.unusedVariables false
set_option maxRecDepth 100000

theorem ceq {c d : UInt8} {n : Int} (hn : n = (d.toNat : Int)) : ((c.toNat : Int) = n) ↔ c = d := by
  subst hn
  exact ⟨fun h => UInt8.toNat_inj.1 (by omega), fun h => by rw [h]⟩

theorem first62 {h : AH} {f : Nat} {st : FS} {F : Nat → Prop} {c : UInt8} {b : Nat} {K : Value → AH → Prop} (r : FR h f st F) (ft : Fit st (b + 1))
    (kk : ∀ h' F', FR h' f (FeedM.first st c) F' → Chg F h F' h' → K (.tuple #[]) h') : callW Try.prog 62 [.pointer (some ⟨f, 0, none⟩), .int .u8 c.toNat] h K := by
  have e32 : ((c.toNat : Int) = 32) ↔ c = 32 := ceq rfl
  have e9 : ((c.toNat : Int) = 9) ↔ c = 9 := ceq rfl
  have e10 : ((c.toNat : Int) = 10) ↔ c = 10 := ceq rfl
  have e60 : ((c.toNat : Int) = 60) ↔ c = 60 := ceq rfl
  refine c62 ?_
  unfold s62
  unfold FeedM.first at kk
  refine w_eql ?_
  by_cases q1 : (c.toNat : Int) = 32
  · refine g_ft q1 (g_ft q1 (pk_tt q1 (gc_ft (gc_ft (pk_t (c_t ?_))))))
    rw [if_pos (.inl (e32.1 q1))] at kk
    exact kk _ _ r (Chg.refl _ _)
  refine g_ff q1 (g_ff q1 (w_eql (pk_ff q1 ?_)))
  by_cases q2 : (c.toNat : Int) = 9
  · refine g_ft q2 (g_ft q2 (pk_tt q2 (c_t ?_)))
    rw [if_pos (.inr (.inl (e9.1 q2)))] at kk
    exact kk _ _ r (Chg.refl _ _)
  refine g_ff q2 (g_ff q2 (w_eql (pk_ff q2 ?_)))
  refine c_dec (fun q3 => ?_) (fun q3 => ?_)
  · rw [if_pos (.inr (.inr (e10.1 q3)))] at kk
    exact kk _ _ r (Chg.refl _ _)
  rw [if_neg (fun h => h.elim (fun h => q1 (e32.2 h)) fun h => h.elim (fun h => q2 (e9.2 h)) fun h => q3 (e10.2 h))] at kk
  refine letter61 ?_
  have r0 := r
  obtain ⟨V, hr, b⟩ := r
  have hlt := lt_of_get hr
  have good : (letter c = true ∨ c = 60) →
    optW (pNilCheck (.pointer (some ⟨f, 0, none⟩))) fun v31 => optW (pOff 10 v31) fun v32 => optW (pOff 0 v32) fun v33 => optW (rdRow false 1 v33 (reserve 1 h)) fun v34 =>
      optW (bldSl 1 [(.int .u8 0)] 1 [(0, .int .u8 c.toNat)]) fun c => newW (some h.length) (.row c true) (reserve 1 h) fun i h_8 => appSl 1 v34 (.slice (some ⟨i, 0, none⟩) 1 1) h_8 fun v37 h_9 =>
      optW (pNilCheck (.pointer (some ⟨f, 0, none⟩))) fun v39 => optW (pOff 14 v39) fun v40 =>
      (∀ x ∈ (idOf v40), (h_8 : AH)[x]? = (h_9 : AH)[x]?) ∧ (∀ x ∈ (idOf v40), ((reserve 1 h) : AH)[x]? = (h_8 : AH)[x]?) ∧
      optW (rdRow false 1 v40 h_9) fun v41 => optW (pNilCheck (.pointer (some ⟨f, 0, none⟩))) fun v42 => optW (pOff 10 v42) fun v43 => optW (pOff 0 v43) fun v44 => optW (pStore 1 v44 v37 h_9) fun h_10 =>
      optW (pNilCheck (.pointer (some ⟨f, 0, none⟩))) fun v45 => optW (pOff 10 v45) fun v46 => optW (pOff 1 v46) fun v47 => optW (pStore 1 v47 v41 h_10) fun h_11 => K (.tuple #[]) h_11 := by
    intro hgood
    rw [if_pos hgood] at kk
    refine w_nilc (w_offP (w_offP (w_rdP ((Ex.res h).some hr) (v := V.vs) rfl ?_)))
    refine w_some (bldSl_one rfl (by decide) rfl rfl) ?_
    refine n_slot ?_
    rw [reserve_set]
    have hlast : (h ++ [AObj.row (cellsL (.int .u8 c.toNat)) true])[h.length]? = some (.row (eB c) true) := get_new _ _
    have x1 : Ex h (h ++ [AObj.row (cellsL (.int .u8 c.toNat)) true]) := .app _ _
    have l1 : (h ++ [AObj.row (cellsL (.int .u8 c.toNat)) true]).length = h.length + 1 := by simp
    generalize h ++ [AObj.row (cellsL (.int .u8 c.toNat)) true] = h1 at *
    have b1 := b.ex x1
    refine appSl_of (app_g (by decide) b1.s (srcL_new hlast (by decide) rfl) rfl (ft.mono (c := 1) (by omega)).sb ?_)
    intro v' h2 o1 o2 o3 o4
    have hff : h2[f]? = h1[f]? := o3 _ (x1.lt hlt) b1.sf.1
    have hf2 : h2[f]? = some (.row (rowOf V st) true) := hff.trans (x1.some hr)
    refine w_nilc (w_offP ?_)
    refine ⟨fun x hxx => ?_, fun x hxx => ?_, ?_⟩
    · have : x = f := by simpa [idOf] using hxx
      rw [this]; exact hff.symm
    · have : x = f := by simpa [idOf] using hxx
      rw [this, (Ex.res h).get _ hlt, x1.get _ hlt]
    refine w_rdP hf2 (v := .int .i64 st.read) rfl ?_
    refine w_nilc (w_offP (w_offP ?_))
    obtain ⟨va, vcap, rfl⟩ := o1.sl.shape
    refine w_stP hf2 (by simp [rowOf]) rfl rfl ?_
    have hfl := lt_of_get hf2
    refine w_nilc (w_offP (w_offP ?_))
    refine w_stP (get_set _ hfl _) (by simp [rowOf]) rfl rfl ?_
    have bb := newtok (s' := st.s ++ [c]) (a' := st.read) (F' := fun j => (F j ∨ j = h1.length) ∧ j < h2.length) b1 o2 (fun j hj hn => o3 j (b1.lt j hj) hn)
      (by
        have e1 : (st.s ++ [c]).length = st.s.length + 1 := by simp
        have e2 : flat eB (st.s ++ [c]) = flat eB st.s ++ eB c := by rw [flat_append]; simp [flat]
        rw [e1, e2]
        exact o1.mono (fun j hj hF => ⟨hF, (o1.on hj).2⟩) fun _ _ _ => rfl)
      (fun j hj => (o4 j hj).imp id fun e => Nat.le_of_eq e.symm) (fun j hj => ⟨.inl hj, by have := b1.lt j hj; omega⟩) (fun j hj => hj.2)
    refine kk _ _ ⟨_, ?_, (bb.setf _).setf _⟩ ⟨by simp; omega, fun j hj hF => ?_, fun j hj => ?_⟩
    · rw [get_set _ (by simpa using hfl)]
      rfl
    · have hjf : f ≠ j := fun e => hF (by rw [← e]; exact b.ff)
      rw [get_ne hjf, get_ne hjf, o3 j (by omega) fun hh => hF (b.s.on hh).1]
      exact x1.get j hj
    · rcases hj.1 with h | rfl
      · exact .inl h
      · exact .inr (by omega)
  cases hl : letter c with
  | true => exact gc_ft (gc_ft (pk_t (c_t (good (.inl hl)))))
  | false =>
    refine gc_ff (gc_ff (w_eql (pk_f ?_)))
    refine c_dec (fun q4 => ?_) (fun q4 => ?_)
    · exact good (.inr (e60.1 q4))
    · rw [if_neg (fun h => h.elim (fun h => by rw [hl] at h; cases h) fun h => q4 (e60.2 h))] at kk
      refine w_nilc (w_offP (w_rdP hr (v := .int .i64 st.read) rfl ?_))
      exact wrong48 r0 fun h3 r3 c3 => kk _ _ r3 c3

theorem toktail {h : AH} {f : Nat} {st : FS} {F : Nat → Prop} {c : UInt8} {K : Value → AH → Prop} (r : FR h f st F) (hw : st.s.length + 1 < room40)
    (kk : ∀ h' F', FR h' f { st with s := st.s ++ [c] } F' → Chg F h F' h' → K (.tuple #[]) h') :
    optW (pNilCheck (.pointer (some ⟨f, 0, none⟩))) fun v66 => optW (pOff 10 v66) fun v67 => optW (pOff 0 v67) fun v68 => optW (rdRow false 1 v68 h) fun v69 => optW (bldSl 1 [(.int .u8 0)] 1 [(0, .int .u8 c.toNat)]) fun c =>
      newW none (.row c true) h fun i h1 => appSl 1 v69 (.slice (some ⟨i, 0, none⟩) 1 1) h1 fun v72 h2 => optW (pNilCheck (.pointer (some ⟨f, 0, none⟩))) fun v73 => optW (pOff 10 v73) fun v74 => optW (pOff 0 v74) fun v75 =>
      optW (pStore 1 v75 v72 h2) fun h3 => K (.tuple #[]) h3 := by
  obtain ⟨V, hr, b⟩ := r
  have hlt := lt_of_get hr
  refine w_nilc (w_offP (w_offP (w_rdP hr (v := V.vs) rfl ?_)))
  refine w_some (bldSl_one rfl (by decide) rfl rfl) ?_
  refine n_new ?_
  have hlast : (h ++ [AObj.row (cellsL (.int .u8 c.toNat)) true])[h.length]? = some (.row (eB c) true) := get_new _ _
  have x1 : Ex h (h ++ [AObj.row (cellsL (.int .u8 c.toNat)) true]) := .app _ _
  have l1 : (h ++ [AObj.row (cellsL (.int .u8 c.toNat)) true]).length = h.length + 1 := by simp
  generalize h ++ [AObj.row (cellsL (.int .u8 c.toNat)) true] = h1 at *
  have b1 := b.ex x1
  refine appSl_of (app_g (by decide) b1.s (srcL_new hlast (by decide) rfl) rfl hw ?_)
  intro v' h2 o1 o2 o3 o4
  have hf2 : h2[f]? = some (.row (rowOf V st) true) := (o3 _ (x1.lt hlt) b1.sf.1).trans (x1.some hr)
  refine w_nilc (w_offP (w_offP ?_))
  obtain ⟨va, vcap, rfl⟩ := o1.sl.shape
  refine w_stP hf2 (by simp [rowOf]) rfl rfl ?_
  have hfl := lt_of_get hf2
  have bb := newtok (s' := st.s ++ [c]) (a' := st.at_) (F' := fun j => (F j ∨ j = h1.length) ∧ j < h2.length) b1 o2 (fun j hj hn => o3 j (b1.lt j hj) hn)
    (by
      have e1 : (st.s ++ [c]).length = st.s.length + 1 := by simp
      have e2 : flat eB (st.s ++ [c]) = flat eB st.s ++ eB c := by rw [flat_append]; simp [flat]
      rw [e1, e2]
      exact o1.mono (fun j hj hF => ⟨hF, (o1.on hj).2⟩) fun _ _ _ => rfl)
    (fun j hj => (o4 j hj).imp id fun e => Nat.le_of_eq e.symm) (fun j hj => ⟨.inl hj, by have := b1.lt j hj; omega⟩) (fun j hj => hj.2)
  refine kk _ _ ⟨_, ?_, bb.setf _⟩ ⟨by simp; omega, fun j hj hF => ?_, fun j hj => ?_⟩
  · rw [get_set _ hfl]
    rfl
  · have hjf : f ≠ j := fun e => hF (by rw [← e]; exact b.ff)
    rw [get_ne hjf, o3 j (by omega) fun hh => hF (b.s.on hh).1]
    exact x1.get j hj
  · rcases hj.1 with h | rfl
    · exact .inl h
    · exact .inr (by omega)
end Go.Proofs.Ytebbjimmgblcpaa.W
end

section
/- A byte of a token that is begun; a byte; bytes: the walks. Conditions: none. -/
namespace Go.Proofs.Ytebbjimmgblcpaa.W
open Go Go.AM FeedM
set_option linter.unusedVariables false
set_option maxRecDepth 100000

theorem fromKind_le (s : List UInt8) (hs : s ≠ []) : (fromKind s).1 ≤ s.length := by
  unfold fromKind
  split
  · split
    · rename_i h
      obtain ⟨h, _⟩ := List.getElem?_eq_some_iff.1 h
      show 2 ≤ s.length
      omega
    · cases s with
      | nil => exact (hs rfl).elim
      | cons _ _ => simp
  · exact Nat.zero_le _

theorem more_end {h : AH} {f : Nat} {st : FS} {F : Nat → Prop} {c : UInt8} {b : Nat} {K : Value → AH → Prop} (r : FR h f st F) (ft : Fit st (b + 2)) (hs : st.s ≠ [])
    (hno : ¬ ((letter c ∧ st.s.length - (fromKind st.s).1 < 8) ∨ (c = 47 ∧ (fromKind st.s).2 = 1 ∧ st.s.length - (fromKind st.s).1 = 0)))
    (kk : ∀ h' F', FR h' f (FeedM.more st c) F' → Chg F h F' h' → K (.tuple #[]) h') :
    optW (pBin Try.prog .eql 5 (.int .u8 c.toNat) (.int .u8 62)) fun v78 =>
    gopW (gB v78 true) (fun k_2 => k_2 (.int .i64 (fromKind st.s).2) h) h fun v80 h_8 =>
    gopW (gB v78 true) (fun k_3 => optW (pBin Try.prog .neq 3 v80 (.int .i64 3)) fun v81_1 => k_3 v81_1 h_8) h_8 fun v81 h_9 =>
    optW (pPick v78 v81 (.bool false)) fun v82 =>
    gopW (gB v82 true) (fun k_4 => k_4 (.int .i64 ((st.s.length - (fromKind st.s).1 : Nat) : Int)) h_9) h_9 fun v84 h_10 =>
    gopW (gB v82 true) (fun k_5 => optW (pBin Try.prog .gtr 3 v84 (.int .i64 0)) fun v85_1 => k_5 v85_1 h_10) h_10 fun v85 h_11 =>
    optW (pPick v82 v85 (.bool false)) fun v86 =>
    condW v86 (
      optW (pNilCheck (.pointer (some ⟨f, 0, none⟩))) fun v89 => optW (pOff 10 v89) fun v90 => optW (pOff 0 v90) fun v91 => optW (rdRow false 1 v91 h_11) fun v92 =>
      optW (pSliceSl 1 v92 (some (.int .i64 ((fromKind st.s).1 : Nat))) none none) fun v94 =>
      optW (pBytesStr v94 h_11) fun v95 =>
      callW Try.prog 64 [(.pointer (some ⟨f, 0, none⟩)), v95, (.int .i64 (fromKind st.s).2)] h_11 fun v97 h_12 => K (.tuple #[]) h_12
    ) (
      optW (pNilCheck (.pointer (some ⟨f, 0, none⟩))) fun v42 => optW (pOff 10 v42) fun v43 => optW (pOff 1 v43) fun v44 => optW (rdRow false 1 v44 h_11) fun v45 =>
      callW Try.prog 48 [(.pointer (some ⟨f, 0, none⟩)), (.int .i64 12), v45] h_11 fun v46 h_13 => K (.tuple #[]) h_13) := by
  have e62 : ((c.toNat : Int) = 62) ↔ c = 62 := ceq rfl
  have hle := fromKind_le st.s hs
  unfold FeedM.more at kk
  dsimp only at kk
  rw [if_neg hno] at kk
  have bad : ¬ (c = 62 ∧ (fromKind st.s).2 ≠ 3 ∧ 0 < st.s.length - (fromKind st.s).1) →
      optW (pNilCheck (.pointer (some ⟨f, 0, none⟩))) fun v42 => optW (pOff 10 v42) fun v43 => optW (pOff 1 v43) fun v44 => optW (rdRow false 1 v44 h) fun v45 =>
      callW Try.prog 48 [(.pointer (some ⟨f, 0, none⟩)), (.int .i64 12), v45] h fun v46 h_13 => K (.tuple #[]) h_13 := by
    intro hb
    rw [if_neg hb] at kk
    have r0 := r
    obtain ⟨V, hr, b⟩ := r
    refine w_nilc (w_offP (w_offP (w_rdP hr (v := .int .i64 st.at_) rfl ?_)))
    exact wrong48 r0 fun h3 r3 c3 => kk _ _ r3 c3
  refine w_eql ?_
  by_cases q1 : (c.toNat : Int) = 62
  · refine g_tt q1 (g_tt q1 (w_neq (pk_tt q1 ?_)))
    by_cases q2 : (fromKind st.s).2 = 3
    · have q2' : ¬ ¬ (fromKind st.s).2 = 3 := fun h => h q2
      refine g_tf q2' (g_tf q2' (pk_ff q2' (c_f (bad fun h => h.2.1 q2))))
    · refine g_tt q2 (g_tt q2 (w_gtr (pk_tt q2 ?_)))
      refine c_dec (fun q3 => ?_) (fun q3 => bad fun h => q3 (by have := h.2.2; omega))
      rw [if_pos ⟨e62.1 q1, q2, by omega⟩] at kk
      have r0 := r
      obtain ⟨V, hr, b⟩ := r
      refine w_nilc (w_offP (w_offP (w_rdP hr (v := V.vs) rfl ?_)))
      refine w_sliceT (enc := eB) (l := st.s) (i := (fromKind st.s).1) (j := st.s.length) eB_len b.s.sl hle (Nat.le_refl _) (.inr ⟨_, rfl⟩) (.inl ⟨rfl, rfl⟩) fun v' hv' _ => ?_
      have he : (st.s.drop (fromKind st.s).1).take (st.s.length - (fromKind st.s).1) = st.s.drop (fromKind st.s).1 := List.take_of_length_le (by simp)
      rw [he] at hv'
      refine w_bstr hv' (by rw [List.length_drop]; omega) ?_
      exact sym64 r0 ft fun h1 F1 r1 c1 => kk _ _ r1 c1
  · refine g_tf q1 (g_tf q1 (pk_ff q1 (gc_tf (gc_tf (pk_f (c_f (bad fun h => q1 (e62.2 h.1))))))))

theorem more63 {h : AH} {f : Nat} {st : FS} {F : Nat → Prop} {c : UInt8} {b : Nat} {K : Value → AH → Prop} (r : FR h f st F) (ft : Fit st (b + 2)) (hs : st.s ≠ [])
    (kk : ∀ h' F', FR h' f (FeedM.more st c) F' → Chg F h F' h' → K (.tuple #[]) h') : callW Try.prog 63 [.pointer (some ⟨f, 0, none⟩), .int .u8 c.toNat] h K := by
  have r0 := r
  obtain ⟨V, hr, b⟩ := r
  refine c63 ?_
  unfold s63
  refine joinE_intro (fun e h' => e 0 = .pointer (some ⟨f, 0, none⟩) ∧ e 1 = .int .u8 c.toNat ∧ e 4 = .int .i64 ((fromKind st.s).1 : Nat) ∧ e 5 = .int .i64 (fromKind st.s).2 ∧ h' = h) ?_ ?_
  · rintro e h' ⟨e0, e1, e4, e5, rfl⟩
    rw [e0, e1, e4, e5]
    have hle := fromKind_le st.s hs
    have hsl := ft.sb
    unfold room40 at hsl
    have e47 : ((c.toNat : Int) = 47) ↔ c = 47 := ceq rfl
    refine w_nilc (w_offP (w_offP (w_rdP hr (v := V.vs) rfl ?_)))
    refine w_len b.s.sl ?_
    refine w_sub (by omega) (by omega) ?_
    have en : ((st.s.length : Nat) : Int) - (((fromKind st.s).1 : Nat) : Int) = ((st.s.length - (fromKind st.s).1 : Nat) : Int) := by omega
    rw [en]
    have good : ((letter c ∧ st.s.length - (fromKind st.s).1 < 8) ∨ (c = 47 ∧ (fromKind st.s).2 = 1 ∧ st.s.length - (fromKind st.s).1 = 0)) →
        ∀ h2 F', FR h2 f { st with s := st.s ++ [c] } F' → Chg F h' F' h2 → K (.tuple #[]) h2 := by
      intro hg h2 F' r2 c2
      unfold FeedM.more at kk
      dsimp only at kk
      rw [if_pos hg] at kk
      exact kk _ _ r2 c2
    refine letter61 ?_
    cases hl : letter c with
    | true =>
      refine gc_tt (gc_tt (w_lss (pk_t ?_)))
      refine c_dec (fun q => ?_) (fun q => ?_)
      · refine c_tt q ?_
        exact toktail r0 (ft.mono (c := 1) (by omega)).sb (good (.inl ⟨hl, by omega⟩))
      · have hn47 : ¬ (c.toNat : Int) = 47 := fun h => by rw [e47.1 h] at hl; exact absurd hl (by decide)
        refine w_eql (g_tf hn47 (g_tf hn47 (pk_ff hn47 (gc_tf (gc_tf (pk_f (c_f ?_)))))))
        exact more_end r0 ft hs (fun h => h.elim (fun h => q (by have := h.2; omega)) fun h => hn47 (e47.2 h.1)) kk
    | false =>
      refine gc_tf (gc_tf (pk_f (c_f ?_)))
      refine w_eql ?_
      by_cases q1 : (c.toNat : Int) = 47
      · refine g_tt q1 (g_tt q1 (w_eql (pk_tt q1 ?_)))
        by_cases q2 : (fromKind st.s).2 = 1
        · refine g_tt q2 (g_tt q2 (w_eql (pk_tt q2 ?_)))
          refine c_dec (fun q3 => ?_) (fun q3 => ?_)
          · exact toktail r0 (ft.mono (c := 1) (by omega)).sb (good (.inr ⟨e47.1 q1, q2, by omega⟩))
          · exact more_end r0 ft hs (fun h => h.elim (fun h => by rw [hl] at h; cases h.1) fun h => q3 (by have := h.2.2; omega)) kk
        · refine g_tf q2 (g_tf q2 (pk_ff q2 (c_f ?_)))
          exact more_end r0 ft hs (fun h => h.elim (fun h => by rw [hl] at h; cases h.1) fun h => q2 h.2.1) kk
      · refine g_tf q1 (g_tf q1 (pk_ff q1 (gc_tf (gc_tf (pk_f (c_f ?_))))))
        exact more_end r0 ft hs (fun h => h.elim (fun h => by rw [hl] at h; cases h.1) fun h => q1 (e47.2 h.1)) kk
  · intro J hJ
    have hpos : 0 < st.s.length := List.length_pos_iff.2 hs
    obtain ⟨x, hx⟩ := getElem?_of_lt hpos
    have hh : st.s.head? = some x := by rw [List.head?_eq_getElem?]; exact hx
    have e60 : ((x.toNat : Int) = 60) ↔ x = 60 := ceq rfl
    refine w_nilc (w_offP (w_offP (w_rdP hr (v := V.vs) rfl ?_)))
    refine w_idxN (enc := eB) (i := 0) eB_len b.s.sl hx fun p hp => ?_
    refine w_rd1 hp rfl (w_eql ?_)
    refine c_dec (fun q1 => ?_) (fun q1 => ?_)
    · refine w_nilc (w_offP (w_offP (w_rdP hr (v := V.vs) rfl ?_)))
      refine w_len b.s.sl (w_gtr ?_)
      by_cases q2 : (1 : Int) < (st.s.length : Nat)
      · obtain ⟨y, hy⟩ := getElem?_of_lt (l := st.s) (i := 1) (by omega)
        have e47 : ((y.toNat : Int) = 47) ↔ y = 47 := ceq rfl
        refine g_tt q2 (g_tt q2 (w_nilc (g_tt q2 (w_offP (g_tt q2 (w_offP (g_tt q2 (w_rdP hr (v := V.vs) rfl (g_tt q2 ?_)))))))))
        refine w_idxN (enc := eB) (i := 1) eB_len b.s.sl hy fun p hp => ?_
        refine g_tt q2 (w_rd1 hp rfl (g_tt q2 (w_eql ?_)))
        refine pk_tt q2 ?_
        refine c_dec (fun q3 => ?_) (fun q3 => ?_)
        · have : fromKind st.s = (2, 2) := by unfold fromKind; rw [if_pos (by rw [hh, e60.1 q1]), if_pos (by rw [hy, e47.1 q3])]
          exact hJ _ _ ⟨rfl, rfl, by rw [this]; rfl, by rw [this]; rfl, rfl⟩
        · have : fromKind st.s = (1, 1) := by unfold fromKind; rw [if_pos (by rw [hh, e60.1 q1]), if_neg (by rw [hy]; intro h; exact q3 (e47.2 (Option.some.inj h)))]
          exact hJ _ _ ⟨rfl, rfl, by rw [this]; rfl, by rw [this]; rfl, rfl⟩
      · refine g_tf q2 (g_tf q2 (g_tf q2 (g_tf q2 (g_tf q2 (g_tf q2 (g_tf q2 (g_tf q2 (pk_ff q2 (c_f ?_)))))))))
        have hn : st.s[1]? = none := List.getElem?_eq_none (by omega)
        have : fromKind st.s = (1, 1) := by unfold fromKind; rw [if_pos (by rw [hh, e60.1 q1]), if_neg (by rw [hn]; intro h; cases h)]
        exact hJ _ _ ⟨rfl, rfl, by rw [this]; rfl, by rw [this]; rfl, rfl⟩
    · have : fromKind st.s = (0, 3) := by unfold fromKind; rw [if_neg (by rw [hh]; intro h; exact q1 (e60.2 (Option.some.inj h)))]
      exact hJ _ _ ⟨rfl, rfl, by rw [this]; rfl, by rw [this]; rfl, rfl⟩

theorem Fit.first {st : FS} {c : UInt8} {b : Nat} (t : Fit st (b + 1)) : Fit (FeedM.first st c) b := by
  unfold FeedM.first
  split
  · exact t.mono (by omega)
  split
  · exact t.adds
  · exact (t.mono (by omega)).wrong
theorem Fit.more {st : FS} {c : UInt8} {b : Nat} (t : Fit st (b + 2)) : Fit (FeedM.more st c) b := by
  unfold FeedM.more
  dsimp only
  split
  · exact (t.mono (c := b + 1) (by omega)).adds (a := st.at_)
  split
  · exact t.sym
  · exact (t.mono (by omega)).wrong
theorem Fit.ended {st : FS} {b : Nat} (t : Fit st (b + 2)) : Fit (FeedM.ended st) b := by
  unfold FeedM.ended
  split
  · exact t.mono (by omega)
  split
  · exact t.sym
  · exact t.mono (by omega)
theorem Fit.step1 {st : FS} {c : UInt8} {b : Nat} (t : Fit st (b + 2)) : Fit (FeedM.step1 st c) b := by
  unfold FeedM.step1
  split
  · exact t.mono (by omega)
  split
  · exact (t.mono (c := b + 1) (by omega)).first
  · exact t.more
theorem Fit.step {st : FS} {c : UInt8} {b : Nat} (t : Fit st (b + 5)) : Fit (FeedM.step st c) b := by
  unfold FeedM.step
  have : Fit (FeedM.step1 (if letter c = true then st else FeedM.ended st) c) (b + 1) := by
    refine Fit.step1 ?_
    split
    · exact t.mono (by omega)
    · exact t.ended
  exact ⟨this.u, this.fin, this.l, this.now, this.und, (this.mono (Nat.le_succ b)).ub, (this.mono (Nat.le_succ b)).sb, (this.mono (Nat.le_succ b)).wb, by have := this.rd; dsimp only; omega⟩

theorem readtail {h : AH} {f : Nat} {st : FS} {F : Nat → Prop} {K : Value → AH → Prop} (r : FR h f st F) (hw : 0 ≤ st.read ∧ st.read + 1 < room40)
    (kk : ∀ h' F', FR h' f { st with read := st.read + 1 } F' → Chg F h F' h' → K (.tuple #[]) h') :
    optW (pNilCheck (.pointer (some ⟨f, 0, none⟩))) fun v30 => optW (pOff 14 v30) fun v31 => optW (rdRow false 1 v31 h) fun v32 => optW (pBin Try.prog .add 3 v32 (.int .i64 1)) fun v33 =>
      optW (pNilCheck (.pointer (some ⟨f, 0, none⟩))) fun v34 => optW (pOff 14 v34) fun v35 => optW (pStore 1 v35 v33 h) fun h3 => K (.tuple #[]) h3 := by
  obtain ⟨V, hr, b⟩ := r
  have hlt := lt_of_get hr
  unfold room40 at hw
  refine w_nilc (w_offP (w_rdP hr (v := .int .i64 st.read) rfl ?_))
  refine w_add (by omega) (by omega) ?_
  refine w_nilc (w_offP ?_)
  refine w_stP hr (by simp [rowOf]) rfl rfl ?_
  exact kk _ F ⟨V, by rw [get_set _ hlt]; rfl, (b.setf _).to rfl rfl rfl rfl rfl rfl⟩ (Chg.setf b.ff _)

theorem step46 {h : AH} {f : Nat} {st : FS} {F : Nat → Prop} {c : UInt8} {b : Nat} {K : Value → AH → Prop} (r : FR h f st F) (ft : Fit st (b + 5))
    (kk : ∀ h' F', FR h' f (FeedM.step st c) F' → Chg F h F' h' → K (.tuple #[]) h') : callW Try.prog 46 [.pointer (some ⟨f, 0, none⟩), .int .u8 c.toNat] h K := by
  refine c46 ?_
  unfold s46
  refine letter61 (w_notb ?_)
  have main : ∀ h1 F1 st1, FR h1 f st1 F1 → Fit st1 (b + 3) → Chg F h F1 h1 → (st1 = if letter c = true then st else FeedM.ended st) →
      optW (pNilCheck (.pointer (some ⟨f, 0, none⟩))) fun v14 => optW (pOff 16 v14) fun v15 => optW (rdRow false 1 v15 h1) fun v16 => optW (pBin Try.prog .neq 42 v16 (.int .i64 0)) fun v17 =>
      condW v17 (
        optW (pNilCheck (.pointer (some ⟨f, 0, none⟩))) fun v30 => optW (pOff 14 v30) fun v31 => optW (rdRow false 1 v31 h1) fun v32 => optW (pBin Try.prog .add 3 v32 (.int .i64 1)) fun v33 =>
        optW (pNilCheck (.pointer (some ⟨f, 0, none⟩))) fun v34 => optW (pOff 14 v34) fun v35 => optW (pStore 1 v35 v33 h1) fun h3 => K (.tuple #[]) h3
      ) (
        optW (pNilCheck (.pointer (some ⟨f, 0, none⟩))) fun v20 => optW (pOff 10 v20) fun v21 => optW (pOff 0 v21) fun v22 => optW (rdRow false 1 v22 h1) fun v23 => optW (lenSl v23) fun v24 =>
        optW (pBin Try.prog .eql 3 v24 (.int .i64 0)) fun v25 =>
        condW v25 (
          callW Try.prog 62 [(.pointer (some ⟨f, 0, none⟩)), .int .u8 c.toNat] h1 fun v28 h_4 =>
          optW (pNilCheck (.pointer (some ⟨f, 0, none⟩))) fun v30 => optW (pOff 14 v30) fun v31 => optW (rdRow false 1 v31 h_4) fun v32 => optW (pBin Try.prog .add 3 v32 (.int .i64 1)) fun v33 =>
          optW (pNilCheck (.pointer (some ⟨f, 0, none⟩))) fun v34 => optW (pOff 14 v34) fun v35 => optW (pStore 1 v35 v33 h_4) fun h3 => K (.tuple #[]) h3
        ) (
          callW Try.prog 63 [(.pointer (some ⟨f, 0, none⟩)), .int .u8 c.toNat] h1 fun v11 h_6 =>
          optW (pNilCheck (.pointer (some ⟨f, 0, none⟩))) fun v30 => optW (pOff 14 v30) fun v31 => optW (rdRow false 1 v31 h_6) fun v32 => optW (pBin Try.prog .add 3 v32 (.int .i64 1)) fun v33 =>
          optW (pNilCheck (.pointer (some ⟨f, 0, none⟩))) fun v34 => optW (pOff 14 v34) fun v35 => optW (pStore 1 v35 v33 h_6) fun h3 => K (.tuple #[]) h3)) := by
    intro h1 F1 st1 r1 t1 c1 hst
    unfold FeedM.step at kk
    rw [← hst] at kk
    dsimp only at kk
    have t2 : Fit (FeedM.step1 st1 c) (b + 1) := Fit.step1 t1
    have hrd : 0 ≤ (FeedM.step1 st1 c).read ∧ (FeedM.step1 st1 c).read + 1 < room40 := by have := t2.rd; omega
    unfold FeedM.step1 at kk hrd
    have r10 := r1
    obtain ⟨V, hr, bb⟩ := r1
    refine w_nilc (w_offP (w_rdP hr (v := .int .i64 st1.e) rfl (w_neq ?_)))
    refine c_dec (fun q1 => ?_) (fun q1 => ?_)
    · rw [if_pos q1] at kk hrd
      exact readtail r10 hrd fun h2 F2 r2 c2 => kk _ _ r2 (c1.trans c2)
    rw [if_neg q1] at kk hrd
    refine w_nilc (w_offP (w_offP (w_rdP hr (v := V.vs) rfl ?_)))
    refine w_len bb.s.sl (w_eql ?_)
    cases hs : st1.s with
    | nil =>
      rw [hs] at kk hrd
      refine c_tt (by simp) ?_
      refine first62 r10 (t1.mono (c := b + 1 + 1) (by omega)) fun h2 F2 r2 c2 => ?_
      exact readtail r2 hrd fun h3 F3 r3 c3 => kk _ _ r3 ((c1.trans c2).trans c3)
    | cons x s =>
      rw [hs] at kk hrd
      refine c_ff (by simp; omega) ?_
      refine more63 r10 (t1.mono (c := b + 1 + 2) (by omega)) (by rw [hs]; simp) fun h2 F2 r2 c2 => ?_
      exact readtail r2 hrd fun h3 F3 r3 c3 => kk _ _ r3 ((c1.trans c2).trans c3)
  cases hl : letter c with
  | true => exact c_f (main h F st r (ft.mono (by omega)) (Chg.refl _ _) (by rw [hl, if_pos rfl]))
  | false =>
    refine c_t ?_
    refine ended47 r ft fun h1 F1 r1 c1 => ?_
    exact main h1 F1 _ r1 ft.ended c1 (by rw [hl, if_neg (by decide)])

theorem Sl.same' {s : Nat} {h h' : AH} {v : Value} {n : Nat} {cs : List Value} (hv : Sl s h v n cs) (hh : ∀ j, onId v j → j < h.length → h'[j]? = h[j]?) : Sl s h' v n cs := by
  refine ⟨hv.1, ?_⟩
  rcases hv.2 with h1 | ⟨id, off, cap, rfl, h2, h3⟩
  · exact .inl h1
  · refine .inr ⟨id, off, cap, rfl, h2, ?_⟩
    rcases h3 with h3 | ⟨c, w, h3, h4⟩
    · exact .inl h3
    · exact .inr ⟨c, w, (hh id rfl (lt_of_get h3)).trans h3, h4⟩

theorem wrong_closed (st : FS) (e p : Int) : (FeedM.wrong st e p).closed = st.closed := by unfold FeedM.wrong; split <;> rfl
theorem closedBy_closed (st : FS) (k : Int) : (FeedM.closedBy st k).closed = st.closed := by unfold FeedM.closedBy; split <;> rfl
theorem sym_closed (st : FS) (n : List UInt8) (k : Int) : (FeedM.sym st n k).closed = st.closed := by
  unfold FeedM.sym
  split
  · rw [wrong_closed]
  split
  · rw [wrong_closed]
  dsimp only
  split
  · rfl
  split
  · rw [closedBy_closed]
  · rfl
theorem ended_closed (st : FS) : (FeedM.ended st).closed = st.closed := by
  unfold FeedM.ended
  split
  · rfl
  split
  · rw [sym_closed]
  · rfl
theorem step_closed (st : FS) (c : UInt8) : (FeedM.step st c).closed = st.closed := by
  have h1 : ∀ s : FS, (FeedM.step1 s c).closed = s.closed := by
    intro s
    unfold FeedM.step1
    split
    · rfl
    split
    · unfold FeedM.first
      split
      · rfl
      split
      · rfl
      · rw [wrong_closed]
    · unfold FeedM.more
      dsimp only
      split
      · rfl
      split
      · rw [sym_closed]
      · rw [wrong_closed]
  unfold FeedM.step
  dsimp only
  rw [h1]
  split
  · rfl
  · rw [ended_closed]

theorem write23 {h : AH} {f : Nat} {st : FS} {F : Nat → Prop} {v : Value} {bs : List UInt8} {b : Nat} {K : Value → AH → Prop} (r : FR h f st F) (ft : Fit st (5 * bs.length + b)) (hcl : st.closed = false)
    (hv : SlT 1 eB h v bs) (hn : ∀ j, onId v j → ¬ F j)
    (kk : ∀ h' F', FR h' f (FeedM.write st bs) F' → Chg F h F' h' → K (.tuple #[.int .i64 (FeedM.write st bs).place, .int .i64 (FeedM.write st bs).e]) h') :
    callW Try.prog 23 [.pointer (some ⟨f, 0, none⟩), v] h K := by
  have r0 := r
  obtain ⟨V, hr, bb⟩ := r
  have hsb := ft.sb
  unfold room40 at hsb
  refine c23 ?_
  unfold s23
  refine w_nilc (w_offP (w_rdP hr (v := .bool st.closed) rfl ?_))
  rw [hcl]
  refine c_f ?_
  refine w_len hv ?_
  refine loopE_intro (fun m e h' => ∃ (i : Nat) (st' : FS) (F' : Nat → Prop), i ≤ bs.length ∧ m = bs.length - i ∧ e 0 = .pointer (some ⟨f, 0, none⟩) ∧ e 12 = v ∧ e 13 = .int .i64 bs.length ∧ e 14 = .int .i64 i ∧
    FR h' f st' F' ∧ Chg F h F' h' ∧ Fit st' (5 * (bs.length - i) + b) ∧ FeedM.write st bs = FeedM.write st' (bs.drop i)) bs.length
    ⟨0, st, F, Nat.zero_le _, rfl, rfl, rfl, rfl, rfl, r0, Chg.refl _ _, ft, rfl⟩ ?_
  rintro I m e h' ⟨i, st', F', hi, hm, e0, e12, e13, e14, r', c', t', hw⟩ hI
  rw [e0, e12, e13, e14]
  have hv' : SlT 1 eB h' v bs := Sl.same' hv fun j hj hjl => c'.get j hjl (hn j hj)
  have r'0 := r'
  obtain ⟨V', hr', b'⟩ := r'
  refine w_lss ?_
  refine c_dec (fun q => ?_) (fun q => ?_)
  · obtain ⟨c, hc⟩ := getElem?_of_lt (l := bs) (i := i) (by omega)
    have hd : bs.drop i = c :: bs.drop (i + 1) := by
      rw [List.drop_eq_getElem_cons (by omega)]
      congr 1
      exact (List.getElem?_eq_some_iff.1 hc).2
    rw [hd] at hw
    refine w_idxN eB_len hv' hc fun p hp => ?_
    refine w_rd1 hp rfl ?_
    refine w_nilc (w_offP (w_rdP hr' (v := .int .i64 st'.e) rfl (w_neq ?_)))
    refine c_dec (fun q1 => ?_) (fun q1 => ?_)
    · have hw2 : FeedM.write st bs = st' := by rw [hw]; unfold FeedM.write; rw [if_pos q1]
      rw [hw2] at kk
      refine w_nilc (w_offP (w_rdP hr' (v := .int .i64 st'.place) rfl ?_))
      refine w_nilc (w_offP (w_rdP hr' (v := .int .i64 st'.e) rfl ?_))
      exact kk _ _ r'0 c'
    · refine step46 r'0 (t'.mono (c := (5 * (bs.length - (i + 1)) + b) + 5) (by omega)) fun h2 F2 r2 c2 => ?_
      refine w_add (by omega) (by omega) ?_
      refine hI (m - 1) _ _ (by omega) ⟨i + 1, FeedM.step st' c, F2, by omega, by omega, e0, e12, e13, rfl, r2, c'.trans c2, (t'.mono (c := (5 * (bs.length - (i + 1)) + b) + 5) (by omega)).step, ?_⟩
      rw [hw]
      conv => lhs; unfold FeedM.write
      rw [if_neg q1]
  · have hw2 : FeedM.write st bs = st' := by rw [hw, List.drop_of_length_le (by omega)]; rfl
    rw [hw2] at kk
    refine w_nilc (w_offP (w_rdP hr' (v := .int .i64 st'.place) rfl ?_))
    refine w_nilc (w_offP (w_rdP hr' (v := .int .i64 st'.e) rfl ?_))
    exact kk _ _ r'0 c'

theorem write23c {h : AH} {f : Nat} {st : FS} {F : Nat → Prop} {v : Value} {K : Value → AH → Prop} (r : FR h f st F) (hcl : st.closed = true)
    (kk : K (.tuple #[.int .i64 0, .int .i64 14]) h) : callW Try.prog 23 [.pointer (some ⟨f, 0, none⟩), v] h K := by
  obtain ⟨V, hr, bb⟩ := r
  refine c23 ?_
  unfold s23
  refine w_nilc (w_offP (w_rdP hr (v := .bool st.closed) rfl ?_))
  rw [hcl]
  exact c_t kk
end Go.Proofs.Ytebbjimmgblcpaa.W
end

section
/- A new feed; a feed is closed: the walks. Conditions: none. -/
namespace Go.Proofs.Ytebbjimmgblcpaa.W
open Go Go.AM FeedM
set_option linter.unusedVariables false
set_option maxRecDepth 100000

theorem hist_all {b : Array Nat} {j : Nat} {xs : List Nat} {K : Prop} (k : K) : ∀ {H : HT}, (∀ t ∈ H, ∀ x ∈ xs, t.2.1[x]? = t.2.2[x]?) → histC b j xs H K
  | [], _ => k
  | t :: H, hall => by
    unfold histC
    split
    · exact ⟨hall t (by simp), hist_all k fun u hu => hall u (by simp [hu])⟩
    · exact hist_all k fun u hu => hall u (by simp [hu])
theorem read_all {b : Array Nat} {j : Nat} {hb ha : AH} {K : Prop} (k : K) : ∀ {S : ST}, (∀ t ∈ S, ∀ x ∈ t.2, hb[x]? = ha[x]?) → readC b j hb ha S K
  | [], _ => k
  | t :: S, hall => by
    unfold readC
    split
    · exact ⟨hall t (by simp), read_all k fun u hu => hall u (by simp [hu])⟩
    · exact read_all k fun u hu => hall u (by simp [hu])

theorem shuttail {h : AH} {f : Nat} {st : FS} {F : Nat → Prop} {b1 b2 : Array Nat} {b3 : Array Nat} {K : Value → AH → Prop} (r : FR h f st F) (hb : st.m.final.length < room40)
    (kk : ∀ h' b, FR h' f { st with closed := true } F → Chg F h F h' → (b = true ↔ st.e = 0 ∧ isFinal st) → K (.tuple #[.bool b, .int .i64 st.place, .int .i64 st.e]) h') :
    optW (pNilCheck (.pointer (some ⟨f, 0, none⟩))) fun v31 => optW (pOff 18 v31) fun v32 => optW (pStore 1 v32 (.bool true) h) fun h_3 =>
    optW (pNilCheck (.pointer (some ⟨f, 0, none⟩))) fun v34 => optW (pOff 16 v34) fun v35 => optW (rdRow false 1 v35 h_3) fun v36 => optW (pBin Try.prog .eql 42 v36 (.int .i64 0)) fun v37 =>
    gopD (gB v37 true) (fun k => k (.pointer (some ⟨f, 0, none⟩)) h_3 [] ((3, (idOf v35)) :: [])) h_3 [] ((3, (idOf v35)) :: []) fun v39 h_4 H S =>
    gopD (gB v37 true) (fun k_1 => optW (pNilCheck v39) fun v40_1 => k_1 v40_1 h_4 H S) h_4 H S fun v40 h_5 H_1 S_1 =>
    gopD (gB v37 true) (fun k_2 => optW (pOff 0 v40) fun v41_1 => k_2 v41_1 h_5 H_1 S_1) h_5 H_1 S_1 fun v41 h_6 H_2 S_2 =>
    gopD (gB v37 true) (fun k_3 => callW Try.prog 49 [v41] h_6 fun v42_1 h_8 => readC b1 9 h_6 h_8 S_2 (k_3 v42_1 h_8 ((9, h_6, h_8) :: H_2) S_2)) h_6 H_2 S_2 fun v42 h_7 H_3 S_3 =>
    optW (pPick v37 v42 (.bool false)) fun v43 =>
    optW (pNilCheck (.pointer (some ⟨f, 0, none⟩))) fun v45 => optW (pOff 17 v45) fun v46 =>
    histC b2 14 (idOf v46) H_3 (
      optW (rdRow false 1 v46 h_7) fun v47 =>
      optW (pNilCheck (.pointer (some ⟨f, 0, none⟩))) fun v49 => optW (pOff 16 v49) fun v50 =>
      histC b3 18 (idOf v50) H_3 (
        optW (rdRow false 1 v50 h_7) fun v51 => K (.tuple #[v43, v47, v51]) h_7)) := by
  obtain ⟨V, hr, bb⟩ := r
  have hlt := lt_of_get hr
  refine w_nilc (w_offP ?_)
  refine w_stP hr (by simp [rowOf]) rfl rfl ?_
  have r1 : FR (h.set f (.row ((rowOf V st).set (0 + 18) (.bool true)) true)) f { st with closed := true } F :=
    ⟨V, by rw [get_set _ hlt]; rfl, (bb.setf _).to rfl rfl rfl rfl rfl rfl⟩
  have c1 : Chg F h F (h.set f (.row ((rowOf V st).set (0 + 18) (.bool true)) true)) := Chg.setf bb.ff _
  generalize h.set f (.row ((rowOf V st).set (0 + 18) (.bool true)) true) = h1 at *
  have r10 := r1
  obtain ⟨V1, hr1, bb1⟩ := r1
  have hlt1 := lt_of_get hr1
  refine w_nilc (w_offP (w_rdP hr1 (v := .int .i64 st.e) rfl (w_eql ?_)))
  by_cases q : st.e = 0
  · refine gd_tt q (gd_tt q (w_nilc (gd_tt q (w_offP (gd_tt q ?_)))))
    refine final49 r10 hb fun h2 b x2 hbf => ?_
    refine read_all ?_ fun t ht x hx => ?_
    · refine pk_tt q ?_
      refine w_nilc (w_offP (hist_all ?_ fun t ht x hx => ?_))
      · refine w_rdP (x2.some hr1) (v := .int .i64 st.place) rfl ?_
        refine w_nilc (w_offP (hist_all ?_ fun t ht x hx => ?_))
        · refine w_rdP (x2.some hr1) (v := .int .i64 st.e) rfl ?_
          exact kk _ _ (r10.ex x2) (c1.trans (Chg.ex x2)) ⟨fun h => ⟨q, hbf.1 h⟩, fun h => hbf.2 h.2⟩
        · obtain rfl := List.mem_singleton.1 ht
          have : x = f := by simpa [idOf] using hx
          rw [this]
          exact (x2.get f hlt1).symm
      · obtain rfl := List.mem_singleton.1 ht
        have : x = f := by simpa [idOf] using hx
        rw [this]
        exact (x2.get f hlt1).symm
    · obtain rfl := List.mem_singleton.1 ht
      have : x = f := by simpa [idOf] using hx
      rw [this]
      exact (x2.get f hlt1).symm
  · refine gd_tf q (gd_tf q (gd_tf q (gd_tf q (pk_ff q ?_))))
    refine w_nilc (w_offP (hist_nil ?_))
    refine w_rdP hr1 (v := .int .i64 st.place) rfl ?_
    refine w_nilc (w_offP (hist_nil ?_))
    refine w_rdP hr1 (v := .int .i64 st.e) rfl ?_
    exact kk _ _ r10 c1 ⟨fun h => (by cases h), fun h => (q h.1).elim⟩

theorem close24 {h : AH} {f : Nat} {st : FS} {F : Nat → Prop} {b : Nat} {K : Value → AH → Prop} (r : FR h f st F) (ft : Fit st (b + 2)) (hcl : st.closed = false)
    (kk : ∀ h' F' c, FR h' f (FeedM.shut st) F' → Chg F h F' h' → (c = true ↔ (FeedM.shut st).e = 0 ∧ isFinal (FeedM.shut st)) → K (.tuple #[.bool c, .int .i64 (FeedM.shut st).place, .int .i64 (FeedM.shut st).e]) h') :
    callW Try.prog 24 [.pointer (some ⟨f, 0, none⟩)] h K := by
  have r0 := r
  obtain ⟨V, hr, bb⟩ := r
  refine c24 ?_
  unfold s24
  refine w_nilc (w_offP (w_rdP hr (v := .bool st.closed) rfl ?_))
  rw [hcl]
  refine c_f ?_
  refine w_nilc (w_offP (w_rdP hr (v := .int .i64 st.e) rfl (w_eql ?_)))
  have fin2 : ∀ h1 F1 st1, FR h1 f st1 F1 → Chg F h F1 h1 → Fit st1 b → FeedM.shut1 st = st1 → ∀ V1, h1[f]? = some (.row (rowOf V1 st1) true) → FRB h1 f V1 st1 F1 →
      (∀ h2, FR h2 f (FeedM.shut2 st1) F1 → Chg F h F1 h2 → (FeedM.shut2 st1).m.final.length < room40 ∧ ∀ h' c, FR h' f { FeedM.shut2 st1 with closed := true } F1 → Chg F1 h2 F1 h' → (c = true ↔ (FeedM.shut2 st1).e = 0 ∧ isFinal (FeedM.shut2 st1)) →
        K (.tuple #[.bool c, .int .i64 (FeedM.shut2 st1).place, .int .i64 (FeedM.shut2 st1).e]) h') := by
    intro h1 F1 st1 r1 c1 t1 hs1 V1 hr1 bb1 h2 r2 c2
    subst hs1
    have t2 : Fit (FeedM.shut2 (FeedM.shut1 st)) b := by
      unfold FeedM.shut2
      split
      · exact t1
      · exact t1.wrong
    refine ⟨t2.fin, fun h' c r' c' hc => kk _ _ _ r' (c2.trans c') hc⟩
  refine c_dec (fun q => ?_) (fun q => ?_)
  · refine ended47 r0 ft fun h1 F1 r1 c1 => ?_
    have hs1 : FeedM.shut1 st = FeedM.ended st := by unfold FeedM.shut1; rw [if_pos q]
    have r10 := r1
    obtain ⟨V1, hr1, bb1⟩ := r1
    have key := fin2 h1 F1 _ r10 c1 ft.ended hs1 V1 hr1 bb1
    refine w_nilc (w_offP (w_offP (w_rdP hr1 (v := V1.vs) rfl ?_)))
    refine w_len bb1.s.sl (w_gtr ?_)
    refine c_dec (fun q1 => ?_) (fun q1 => ?_)
    · refine w_nilc (w_offP (w_offP (w_rdP hr1 (v := .int .i64 (FeedM.ended st).at_) rfl ?_)))
      have e2 : FeedM.shut2 (FeedM.ended st) = FeedM.wrong (FeedM.ended st) 12 (FeedM.ended st).at_ := by
        unfold FeedM.shut2
        split
        · rename_i h; rw [h] at q1; simp at q1
        · rfl
      refine wrong48 r10 fun h2 r2 c2 => ?_
      rw [← e2] at r2
      obtain ⟨k1, k2⟩ := key h2 r2 (c1.trans c2)
      exact shuttail r2 k1 fun h' b r' c' hb => k2 _ _ r' c' hb
    · have e2 : FeedM.shut2 (FeedM.ended st) = FeedM.ended st := by
        unfold FeedM.shut2
        split
        · rfl
        · rename_i h; rw [h] at q1; simp only [List.length_cons] at q1; omega
      rw [e2] at key
      obtain ⟨k1, k2⟩ := key h1 r10 c1
      exact shuttail r10 k1 fun h' b r' c' hb => k2 _ _ r' c' hb
  · have hs1 : FeedM.shut1 st = st := by unfold FeedM.shut1; rw [if_neg q]
    have key := fin2 h F _ r0 (Chg.refl _ _) (ft.mono (by omega)) hs1 V hr bb
    refine w_nilc (w_offP (w_offP (w_rdP hr (v := V.vs) rfl ?_)))
    refine w_len bb.s.sl (w_gtr ?_)
    refine c_dec (fun q1 => ?_) (fun q1 => ?_)
    · refine w_nilc (w_offP (w_offP (w_rdP hr (v := .int .i64 st.at_) rfl ?_)))
      have e2 : FeedM.shut2 st = FeedM.wrong st 12 st.at_ := by
        unfold FeedM.shut2
        split
        · rename_i h; rw [h] at q1; simp at q1
        · rfl
      refine wrong48 r0 fun h2 r2 c2 => ?_
      rw [← e2] at r2
      obtain ⟨k1, k2⟩ := key h2 r2 c2
      exact shuttail r2 k1 fun h' b r' c' hb => k2 _ _ r' c' hb
    · have e2 : FeedM.shut2 st = st := by
        unfold FeedM.shut2
        split
        · rfl
        · rename_i h; rw [h] at q1; simp only [List.length_cons] at q1; omega
      rw [e2] at key
      obtain ⟨k1, k2⟩ := key h r0 (Chg.refl _ _)
      exact shuttail r0 k1 fun h' b r' c' hb => k2 _ _ r' c' hb

theorem close24c {h : AH} {f : Nat} {st : FS} {F : Nat → Prop} {K : Value → AH → Prop} (r : FR h f st F) (hcl : st.closed = true)
    (kk : K (.tuple #[.bool false, .int .i64 0, .int .i64 14]) h) : callW Try.prog 24 [.pointer (some ⟨f, 0, none⟩)] h K := by
  obtain ⟨V, hr, bb⟩ := r
  refine c24 ?_
  unfold s24
  refine w_nilc (w_offP (w_rdP hr (v := .bool st.closed) rfl ?_))
  rw [hcl]
  exact c_t kk
end Go.Proofs.Ytebbjimmgblcpaa.W
end

section
/- A new feed: the walk. Conditions: none. -/
namespace Go.Proofs.Ytebbjimmgblcpaa.W
open Go Go.AM FeedM
set_option linter.unusedVariables false
set_option maxRecDepth 100000

theorem res44 (e : Env) (h : AH) : resList Try.prog e h Try.f44.results.toList = (rdRow true 10 (e 2) h).map fun v => [v] := by
  have h1 : Try.f44.results.toList = [.cell 2 93] := by kernel_rfl
  have h2 : ∀ x, pLoad Try.prog 93 x h = rdRow true 10 x h := fun x => by kernel_rfl
  rw [h1]
  show (match pLoad Try.prog 93 (e 2) h with
    | some v => match resList Try.prog e h [] with
      | some vs => some (v :: vs)
      | none => none
    | none => none) = _
  rw [h2]
  cases rdRow true 10 (e 2) h <;> rfl

/-- the cells of a machine -/
def mcells (n g : Int) (vi vf vo vc vn : Value) : List Value := [.int .i64 n, .int .i64 g, vi, vf, vo, vc, vn]
def rcells (n g : Int) (vi vf vo vc vn : Value) (i : Nat) : List Value := [.int .i64 n, .int .i64 g, vi, vf, vo, vc, vn, .map (some i), .int .i64 0, .slice none 0 0]
def z10 : List Value := [(.int .i64 0), (.int .i64 0), (.slice none 0 0), (.slice none 0 0), (.slice none 0 0), (.slice none 0 0), (.slice none 0 0), (.map none), (.int .i64 0), (.slice none 0 0)]
def isSl (v : Value) : Prop := ∃ a n c, v = .slice a n c

theorem n_rowv {c : List Value} {h : AH} {K : Value → AH → Prop} (k : ∀ h', Ex h h' → h'.length = h.length + 1 → h'[h.length]? = some (.row c true) → K (.pointer (some ⟨h.length, 0, none⟩)) h') : newR none c h K :=
  n_row (k _ (.app _ _) (by simp) (get_new _ _))

theorem begin44 {h : AH} {n g : Int} {vi vf vo vc vn : Value} {m : Mach} {K : Value → AH → Prop} (hi : Ints h vi m.init) (hn : m.init.length < room40) (s2 : isSl vf) (s3 : isSl vo) (s4 : isSl vc) (s5 : isSl vn)
    (k : ∀ h' i, Ex h h' → h.length ≤ i → SetP h' i (FeedM.begin m).row → K (.agg (rcells n g vi vf vo vc vn i).toArray) h') :
    callW Try.prog 44 [.agg (mcells n g vi vf vo vc vn).toArray] h K := by
  have s1 : isSl vi := by obtain ⟨a, c, e⟩ := hi.shape; exact ⟨a, _, c, e⟩
  obtain ⟨a1, n1, c1, rfl⟩ := s1
  obtain ⟨a2, n2, c2, rfl⟩ := s2
  obtain ⟨a3, n3, c3, rfl⟩ := s3
  obtain ⟨a4, n4, c4, rfl⟩ := s4
  obtain ⟨a5, n5, c5, rfl⟩ := s5
  unfold room40 at hn
  refine c44 ?_
  unfold s44
  refine n_boxv rfl fun h1 x1 l1 g1 => ?_
  refine n_rowv (c := z10) fun h2 x2 l2 g2 => ?_
  refine w_rdPA (x2.some g1) (Nat.le_refl 7) ?_
  refine n_map0 fun h3 x3 l3 g3 => ?_
  refine w_some rfl ?_
  refine w_some rfl ?_
  refine n_var rfl rfl rfl fun h4 x4 l4 g4 => ?_
  refine w_offP (w_rdP (x4.some (x3.some (x2.some g1))) (v := .slice a1 n1 c1) rfl ?_)
  refine w_len hi ?_
  refine loopE_intro (fun m' e h' => ∃ i : Nat, i ≤ m.init.length ∧ m' = m.init.length - i ∧ e 2 = .pointer (some ⟨h1.length, 0, none⟩) ∧ e 3 = .pointer (some ⟨h3.length, 0, none⟩) ∧ e 11 = .slice a1 n1 c1 ∧ e 12 = .int .i64 m.init.length ∧ e 13 = .int .i64 i ∧
    Ex h h' ∧ h3.length < h'.length ∧ h'[h1.length]? = some (.row z10 true) ∧
    h'[h3.length]? = some (.row (rcells n g (.slice a1 n1 c1) (.slice a2 n2 c2) (.slice a3 n3 c3) (.slice a4 n4 c4) (.slice a5 n5 c5) h2.length) true) ∧
    SetP h' h2.length (fun p => p.1 = p.2 ∧ p.1 ∈ m.init.take i)) m.init.length
    ⟨0, Nat.zero_le _, rfl, rfl, rfl, rfl, rfl, rfl, ((x1.trans x2).trans x3).trans x4, by omega, x4.some (x3.some g2), g4, (((SetM.empty g3).ex x4).congr fun p => by simp)⟩ ?_
  rintro I m' e h' ⟨i, hi', hm, e2, e3, e11, e12, e13, hx, hl, f1, f2, hs⟩ hI
  rw [e11, e12, e13, e3, e2]
  refine w_lss ?_
  refine c_dec (fun q => ?_) (fun q => ?_)
  · obtain ⟨z, hz⟩ := getElem?_of_lt (l := m.init) (i := i) (by omega)
    refine w_idxN (enc := eI) eI_len (hi.ex hx) hz fun p hp => ?_
    refine w_rd1 hp rfl ?_
    refine w_offP (w_offP (w_rdP f2 (v := .map (some h2.length)) rfl ?_))
    refine w_some rfl ?_
    refine set_put (enc := eP) (one := one1) (x := (z, z)) Try.underlying88 keyP hs fun o hs' => ?_
    refine w_add (by omega) (by omega) ?_
    have hml : h2.length < h'.length := hs.lt
    refine hI (m' - 1) _ _ (by omega) ⟨i + 1, by omega, by omega, e2, e3, e11, e12, rfl, hx.set (by omega) _, by simpa using hl, by rw [get_ne (by omega)]; exact f1, by rw [get_ne (by omega)]; exact f2, hs'.congr fun p => ?_⟩
    rw [take_succ_get hz]
    obtain ⟨pa, pb⟩ := p
    simp only [List.mem_append, List.mem_singleton, Prod.mk.injEq]
    grind
  · have hie : i = m.init.length := by omega
    subst hie
    rw [List.take_length] at hs
    refine w_rdPA f2 (Nat.le_refl 10) ?_
    refine w_stPA f1 rfl (by decide) rfl ?_
    rw [res44]
    have hb : h1.length < h'.length := lt_of_get f1
    have hms : h2.length ≠ h1.length := by omega
    refine w_some (v := [.agg (rcells n g (.slice a1 n1 c1) (.slice a2 n2 c2) (.slice a3 n3 c3) (.slice a4 n4 c4) (.slice a5 n5 c5) h2.length).toArray]) ?_ ?_
    · show (rdRow true 10 (e 2) _).map _ = _
      rw [e2]
      have : rdRow true 10 (.pointer (some ⟨h1.length, 0, none⟩)) (h'.set h1.length (.row (spliceL z10 0 (cellsL (.agg (((rcells n g (.slice a1 n1 c1) (.slice a2 n2 c2) (.slice a3 n3 c3) (.slice a4 n4 c4) (.slice a5 n5 c5) h2.length).drop 0).take 10).toArray))) true)) = some (.agg (rcells n g (.slice a1 n1 c1) (.slice a2 n2 c2) (.slice a3 n3 c3) (.slice a4 n4 c4) (.slice a5 n5 c5) h2.length).toArray) := by
        have g : optW (rdRow true 10 (.pointer (some ⟨h1.length, 0, none⟩)) (h'.set h1.length (.row (spliceL z10 0 (cellsL (.agg (((rcells n g (.slice a1 n1 c1) (.slice a2 n2 c2) (.slice a3 n3 c3) (.slice a4 n4 c4) (.slice a5 n5 c5) h2.length).drop 0).take 10).toArray))) true))) (fun v => v = .agg (rcells n g (.slice a1 n1 c1) (.slice a2 n2 c2) (.slice a3 n3 c3) (.slice a4 n4 c4) (.slice a5 n5 c5) h2.length).toArray) := by
          refine w_rdPA (get_set _ hb _) (Nat.le_refl 10) ?_
          rfl
        revert g
        cases rdRow true 10 (.pointer (some ⟨h1.length, 0, none⟩)) (h'.set h1.length (.row (spliceL z10 0 (cellsL (.agg (((rcells n g (.slice a1 n1 c1) (.slice a2 n2 c2) (.slice a3 n3 c3) (.slice a4 n4 c4) (.slice a5 n5 c5) h2.length).drop 0).take 10).toArray))) true)) with
        | none => intro g; exact g.elim
        | some v => intro g; have g : v = _ := g; rw [g]
      rw [this]
      rfl
    · refine k _ h2.length (hx.set (by omega) _) (by omega) ((hs.same (get_ne (by omega) _)))
end Go.Proofs.Ytebbjimmgblcpaa.W
end

section
/- A new feed; the tokens of a text: the walks. Conditions: none. -/
namespace Go.Proofs.Ytebbjimmgblcpaa.W
open Go Go.AM FeedM
set_option linter.unusedVariables false
set_option maxRecDepth 100000

theorem idp {a b : AH} (x : Ex a b) {i off : Nat} (hi : i < a.length) : ∀ z ∈ idOf (.pointer (some ⟨i, off, none⟩)), a[z]? = b[z]? := by
  intro z hz
  have : z = i := by simpa [idOf] using hz
  rw [this]
  exact (x.get i hi).symm

theorem Sl.isSl {s : Nat} {h : AH} {v : Value} {n : Nat} {cs : List Value} (hv : Sl s h v n cs) : isSl v := by
  obtain ⟨a, c, e⟩ := hv.shape
  exact ⟨a, _, c, e⟩

theorem Fit.new {l : List Sy} {m : Mach} {deep : Int} {b : Nat} (hu : (Uof m).length + 2 < room40) (hf : m.final.length < room40) (hl : l.length < room40) (hb : b < room40) : Fit (FeedM.new l m deep) b :=
  ⟨hu, hf, hl, in_begin, fun v hv => by simp [FeedM.new] at hv, by simpa [FeedM.new] using hb, by simpa [FeedM.new] using hb, by simpa [FeedM.new] using hb, by show (0 : Int) ≤ 0 ∧ (0 : Int) + b < room40; omega⟩

theorem Fit.write {b : Nat} : ∀ {bs : List UInt8} {st : FS}, Fit st (5 * bs.length + b) → Fit (FeedM.write st bs) b
  | [], st, t => t.mono (by omega)
  | c :: bs, st, t => by
    unfold FeedM.write
    split
    · exact t.mono (by omega)
    · exact Fit.write ((t.mono (c := (5 * bs.length + b) + 5) (by simp only [List.length_cons]; omega)).step)

theorem Chg.toEx {h h1 h2 : AH} {F F' : Nat → Prop} (c : Chg F h1 F' h2) (x : Ex h h1) (hF : ∀ j, F j → h.length ≤ j) : Ex h h2 :=
  ⟨Nat.le_trans x.len c.len, fun j hj => (c.get j (x.lt hj) fun h => by have := hF j h; omega).trans (x.get j hj)⟩
theorem Chg.low {h h1 h2 : AH} {F F' : Nat → Prop} (c : Chg F h1 F' h2) (x : Ex h h1) (hF : ∀ j, F j → h.length ≤ j) : ∀ j, F' j → h.length ≤ j :=
  fun j hj => (c.dom j hj).elim (hF j) fun h => Nat.le_trans x.len h

set_option maxHeartbeats 4000000 in
theorem new22 {h : AH} {v0 vi vf vo vc vn : Value} {l : List Sy} {m : Mach} {deep : Int} {K : Value → AH → Prop} (hl : Syms h v0 l) (hi : Ints h vi m.init) (hf : Ints h vf m.final) (ho : SlT 4 e4 h vo m.opens) (hc : SlT 4 e4 h vc m.closes) (hn : SlT 3 e3 h vn m.inners)
    (bl : l.length < room40) (b1 : m.init.length < room40) (b2 : m.final.length < room40) (b3 : m.opens.length < room40) (b4 : m.closes.length < room40) (b5 : m.inners.length < room40)
    (k : ∀ h' f F', Ex h h' → FR h' f (FeedM.new l m deep) F' → (∀ j, F' j → h.length ≤ j) → K (.pointer (some ⟨f, 0, none⟩)) h') :
    callW Try.prog 22 [v0, .agg (mcells m.n m.g vi vf vo vc vn).toArray, .int .i64 deep] h K := by
  obtain ⟨a1, n1, c1, e1⟩ := Sl.isSl hi
  obtain ⟨a2, n2, c2, e2⟩ := Sl.isSl hf
  obtain ⟨a3, n3, c3, e3⟩ := Sl.isSl ho
  obtain ⟨a4, n4, c4, e4⟩ := Sl.isSl hc
  obtain ⟨a5, n5, c5, e5⟩ := Sl.isSl hn
  subst e1 e2 e3 e4 e5
  refine c22 ?_
  unfold s22
  refine n_boxv rfl fun h1 x1 l1 g1 => ?_
  have xr := Ex.res h1
  have lr : (reserve 1 h1).length = h1.length + 1 := by rw [reserve_one]; simp
  have gr := xr.some g1
  have hlr : h.length < (reserve 1 h1).length := by omega
  have xh : Ex h (reserve 1 h1) := x1.trans xr
  refine w_offP (w_rdP gr (v := .int .i64 m.n) rfl ?_)
  refine w_offP (w_rdP gr (v := .int .i64 m.g) rfl ?_)
  refine w_offP (w_rdP gr (v := .slice a1 n1 c1) rfl ?_)
  refine clone40 _ _ _ _ _ (hi.ex xh) b1 fun w1 h2 y1 q1 d1 => ?_
  have hl2 : h.length < h2.length := by have := y1.len; omega
  refine ⟨idp y1 hlr, idp y1 hlr, ?_⟩
  refine w_offP ⟨idp y1 hlr, ?_⟩
  refine w_rdP (y1.some gr) (v := .slice a2 n2 c2) rfl ?_
  refine clone40 _ _ _ _ _ (hf.ex (xh.trans y1)) b2 fun w2 h3 y2 q2 d2 => ?_
  have hl3 : h.length < h3.length := by have := y2.len; omega
  refine ⟨idp y2 hl2, idp y2 hl2, ?_⟩
  refine w_offP ⟨idp y2 hl2, idp y1 hlr, ?_⟩
  refine w_rdP (y2.some (y1.some gr)) (v := .slice a3 n3 c3) rfl ?_
  refine clone41 _ _ _ _ _ (ho.ex ((xh.trans y1).trans y2)) b3 fun w3 h4 y3 q3 d3 => ?_
  have hl4 : h.length < h4.length := by have := y3.len; omega
  refine ⟨idp y3 hl3, idp y3 hl3, ?_⟩
  refine w_offP ⟨idp y3 hl3, idp y2 hl2, idp y1 hlr, ?_⟩
  refine w_rdP (y3.some (y2.some (y1.some gr))) (v := .slice a4 n4 c4) rfl ?_
  refine clone42 _ _ _ _ _ (hc.ex (((xh.trans y1).trans y2).trans y3)) b4 fun w4 h5 y4 q4 d4 => ?_
  have hl5 : h.length < h5.length := by have := y4.len; omega
  refine ⟨idp y4 hl4, idp y4 hl4, ?_⟩
  refine w_offP ⟨idp y4 hl4, idp y3 hl3, idp y2 hl2, idp y1 hlr, ?_⟩
  refine w_rdP (y4.some (y3.some (y2.some (y1.some gr)))) (v := .slice a5 n5 c5) rfl ?_
  refine clone43 _ _ _ _ _ (hn.ex ((((xh.trans y1).trans y2).trans y3).trans y4)) b5 fun w5 h6 y5 q5 d5 => ?_
  refine ⟨idp y5 hl5, idp y5 hl5, ?_⟩
  have p1 : Sl 1 h6 w1 _ _ := q1.ex (((y2.trans y3).trans y4).trans y5)
  have p2 : Sl 1 h6 w2 _ _ := q2.ex ((y3.trans y4).trans y5)
  have p3 : Sl 4 h6 w3 _ _ := q3.ex (y4.trans y5)
  have p4 : Sl 4 h6 w4 _ _ := q4.ex y5
  have k1 := y1.len; have k2 := y2.len; have k3 := y3.len; have k4 := y4.len; have k5 := y5.len
  have x6 : Ex h h6 := ((((xh.trans y1).trans y2).trans y3).trans y4).trans y5
  have D1 : ∀ j, onId w1 j → h1.length < j ∧ j < h6.length := fun j hj => by have := d1 j hj; omega
  have D2 : ∀ j, onId w2 j → h1.length < j ∧ j < h6.length := fun j hj => by have := d2 j hj; omega
  have D3 : ∀ j, onId w3 j → h1.length < j ∧ j < h6.length := fun j hj => by have := d3 j hj; omega
  have D4 : ∀ j, onId w4 j → h1.length < j ∧ j < h6.length := fun j hj => by have := d4 j hj; omega
  have D5 : ∀ j, onId w5 j → h1.length < j ∧ j < h6.length := fun j hj => by have := d5 j hj; omega
  obtain ⟨A1, N1, C1, E1⟩ := Sl.isSl p1
  obtain ⟨A2, N2, C2, E2⟩ := Sl.isSl p2
  obtain ⟨A3, N3, C3, E3⟩ := Sl.isSl p3
  obtain ⟨A4, N4, C4, E4⟩ := Sl.isSl p4
  obtain ⟨A5, N5, C5, E5⟩ := Sl.isSl q5
  subst E1 E2 E3 E4 E5
  refine w_some rfl ?_
  refine n_slot ?_
  have hsl : h1.length < h6.length := by omega
  refine w_stPA (get_set _ hsl _) rfl (Nat.le_refl 7) rfl ?_
  refine w_rdPA (get_set _ (by simpa using hsl) _) (Nat.le_refl 7) ?_
  have x8 : ∀ o o', Ex h ((h6.set h1.length o).set h1.length o') := fun o o' => (x6.set (by omega) _).set (by omega) _
  have same : ∀ (o o' : AObj) (j : Nat), h1.length < j → ((h6.set h1.length o).set h1.length o')[j]? = h6[j]? := fun o o' j hj => by rw [get_ne (by omega), get_ne (by omega)]
  have l8 : ∀ o o', ((h6.set h1.length o).set h1.length o').length = h6.length := fun o o' => by simp
  have P1 := Sl.same p1 fun j hj => same (.row [(.int .i64 0), (.int .i64 0), (.slice none 0 0), (.slice none 0 0), (.slice none 0 0), (.slice none 0 0), (.slice none 0 0)] true) (.row (spliceL [(.int .i64 0), (.int .i64 0), (.slice none 0 0), (.slice none 0 0), (.slice none 0 0), (.slice none 0 0), (.slice none 0 0)] 0 (cellsL (.agg (mcells m.n m.g (.slice A1 N1 C1) (.slice A2 N2 C2) (.slice A3 N3 C3) (.slice A4 N4 C4) (.slice A5 N5 C5)).toArray))) true) j (D1 j hj).1
  have P2 := Sl.same p2 fun j hj => same (.row [(.int .i64 0), (.int .i64 0), (.slice none 0 0), (.slice none 0 0), (.slice none 0 0), (.slice none 0 0), (.slice none 0 0)] true) (.row (spliceL [(.int .i64 0), (.int .i64 0), (.slice none 0 0), (.slice none 0 0), (.slice none 0 0), (.slice none 0 0), (.slice none 0 0)] 0 (cellsL (.agg (mcells m.n m.g (.slice A1 N1 C1) (.slice A2 N2 C2) (.slice A3 N3 C3) (.slice A4 N4 C4) (.slice A5 N5 C5)).toArray))) true) j (D2 j hj).1
  have P3 := Sl.same p3 fun j hj => same (.row [(.int .i64 0), (.int .i64 0), (.slice none 0 0), (.slice none 0 0), (.slice none 0 0), (.slice none 0 0), (.slice none 0 0)] true) (.row (spliceL [(.int .i64 0), (.int .i64 0), (.slice none 0 0), (.slice none 0 0), (.slice none 0 0), (.slice none 0 0), (.slice none 0 0)] 0 (cellsL (.agg (mcells m.n m.g (.slice A1 N1 C1) (.slice A2 N2 C2) (.slice A3 N3 C3) (.slice A4 N4 C4) (.slice A5 N5 C5)).toArray))) true) j (D3 j hj).1
  have P4 := Sl.same p4 fun j hj => same (.row [(.int .i64 0), (.int .i64 0), (.slice none 0 0), (.slice none 0 0), (.slice none 0 0), (.slice none 0 0), (.slice none 0 0)] true) (.row (spliceL [(.int .i64 0), (.int .i64 0), (.slice none 0 0), (.slice none 0 0), (.slice none 0 0), (.slice none 0 0), (.slice none 0 0)] 0 (cellsL (.agg (mcells m.n m.g (.slice A1 N1 C1) (.slice A2 N2 C2) (.slice A3 N3 C3) (.slice A4 N4 C4) (.slice A5 N5 C5)).toArray))) true) j (D4 j hj).1
  have P5 := Sl.same q5 fun j hj => same (.row [(.int .i64 0), (.int .i64 0), (.slice none 0 0), (.slice none 0 0), (.slice none 0 0), (.slice none 0 0), (.slice none 0 0)] true) (.row (spliceL [(.int .i64 0), (.int .i64 0), (.slice none 0 0), (.slice none 0 0), (.slice none 0 0), (.slice none 0 0), (.slice none 0 0)] 0 (cellsL (.agg (mcells m.n m.g (.slice A1 N1 C1) (.slice A2 N2 C2) (.slice A3 N3 C3) (.slice A4 N4 C4) (.slice A5 N5 C5)).toArray))) true) j (D5 j hj).1
  have X8 := x8 (.row [(.int .i64 0), (.int .i64 0), (.slice none 0 0), (.slice none 0 0), (.slice none 0 0), (.slice none 0 0), (.slice none 0 0)] true) (.row (spliceL [(.int .i64 0), (.int .i64 0), (.slice none 0 0), (.slice none 0 0), (.slice none 0 0), (.slice none 0 0), (.slice none 0 0)] 0 (cellsL (.agg (mcells m.n m.g (.slice A1 N1 C1) (.slice A2 N2 C2) (.slice A3 N3 C3) (.slice A4 N4 C4) (.slice A5 N5 C5)).toArray))) true)
  have L8 := l8 (.row [(.int .i64 0), (.int .i64 0), (.slice none 0 0), (.slice none 0 0), (.slice none 0 0), (.slice none 0 0), (.slice none 0 0)] true) (.row (spliceL [(.int .i64 0), (.int .i64 0), (.slice none 0 0), (.slice none 0 0), (.slice none 0 0), (.slice none 0 0), (.slice none 0 0)] 0 (cellsL (.agg (mcells m.n m.g (.slice A1 N1 C1) (.slice A2 N2 C2) (.slice A3 N3 C3) (.slice A4 N4 C4) (.slice A5 N5 C5)).toArray))) true)
  refine begin44 (h := (h6.set h1.length (.row [(.int .i64 0), (.int .i64 0), (.slice none 0 0), (.slice none 0 0), (.slice none 0 0), (.slice none 0 0), (.slice none 0 0)] true)).set h1.length (.row (spliceL [(.int .i64 0), (.int .i64 0), (.slice none 0 0), (.slice none 0 0), (.slice none 0 0), (.slice none 0 0), (.slice none 0 0)] 0 (cellsL (.agg (mcells m.n m.g (.slice A1 N1 C1) (.slice A2 N2 C2) (.slice A3 N3 C3) (.slice A4 N4 C4) (.slice A5 N5 C5)).toArray))) true)) P1 b1 ⟨_, _, _, rfl⟩ ⟨_, _, _, rfl⟩ ⟨_, _, _, rfl⟩ ⟨_, _, _, rfl⟩ fun h9 i x9 hi9 hs9 => ?_
  generalize ((h6.set h1.length (.row [(.int .i64 0), (.int .i64 0), (.slice none 0 0), (.slice none 0 0), (.slice none 0 0), (.slice none 0 0), (.slice none 0 0)] true)).set h1.length (.row (spliceL [(.int .i64 0), (.int .i64 0), (.slice none 0 0), (.slice none 0 0), (.slice none 0 0), (.slice none 0 0), (.slice none 0 0)] 0 (cellsL (.agg (mcells m.n m.g (.slice A1 N1 C1) (.slice A2 N2 C2) (.slice A3 N3 C3) (.slice A4 N4 C4) (.slice A5 N5 C5)).toArray))) true)) = h8 at *
  refine clone45 _ _ _ _ _ (hl.ex (X8.trans x9)) bl fun w6 h10 y10 q10 d10 => ?_
  obtain ⟨A6, N6, C6, E6⟩ := Sl.isSl q10
  subst E6
  refine w_some rfl ?_
  refine n_boxv rfl fun h11 x11 l11 g11 => ?_
  have k9 := x9.len; have k10 := y10.len
  have hlt9 := hs9.lt
  have zx : Ex h8 h11 := (x9.trans y10).trans x11
  have rlt : ∀ j, rIds ⟨.slice A1 N1 C1, .slice A2 N2 C2, .slice A3 N3 C3, .slice A4 N4 C4, .slice A5 N5 C5, i, .slice none 0 0, .slice none 0 0, .slice A6 N6 C6, .slice none 0 0, []⟩ j → h.length ≤ j ∧ j < h10.length := by
    intro j hj
    rcases hj with hj | hj | hj | hj | hj | hj | hj | hj
    · have := D1 j hj; omega
    · have := D2 j hj; omega
    · have := D3 j hj; omega
    · have := D4 j hj; omega
    · have := D5 j hj; omega
    · have := d10 j hj; omega
    · have : j = i := hj
      omega
    · cases hj
  have wf : ∀ j, wIds h10.length ⟨.slice A1 N1 C1, .slice A2 N2 C2, .slice A3 N3 C3, .slice A4 N4 C4, .slice A5 N5 C5, i, .slice none 0 0, .slice none 0 0, .slice A6 N6 C6, .slice none 0 0, []⟩ j → j = h10.length := by
    intro j hj
    rcases hj with hj | hj | hj | hj
    · exact hj
    · exact hj.elim
    · exact hj.elim
    · exact hj.elim
  refine k h11 h10.length (fun j => h.length ≤ j ∧ j < h11.length) ((X8.trans x9).trans (y10.trans x11)) ⟨⟨.slice A1 N1 C1, .slice A2 N2 C2, .slice A3 N3 C3, .slice A4 N4 C4, .slice A5 N5 C5, i, .slice none 0 0, .slice none 0 0, .slice A6 N6 C6, .slice none 0 0, []⟩, g11, ?_⟩ fun j hj => hj.1
  exact {
    init := Sl.ex P1 zx
    final := Sl.ex P2 zx
    opens := Sl.ex P3 zx
    closes := Sl.ex P4 zx
    inners := Sl.ex P5 zx
    now := hs9.ex (y10.trans x11)
    under := OwnG.nil _ _ _
    lvs := trivial
    s := OwnG.nil _ _ _
    l := Sl.ex q10 x11
    word := OwnG.nil _ _ _
    ff := ⟨by have := X8.len; omega, by omega⟩
    rF := fun j hj => ⟨(rlt j hj).1, by have := (rlt j hj).2; omega⟩
    lt := fun j hj => hj.2
    sep := fun j hw hj => by have := wf j hw; have := (rlt j hj).2; omega
    sf := ⟨fun h => h, fun h => h, fun h => h⟩
    sw := fun j hj => hj.elim
    wu := fun j hj => hj.elim }

theorem w_strB {s : List UInt8} {h : AH} {K : Value → AH → Prop} (hn : s.length < room40) (k : ∀ v h', Ex h h' → h'.length = h.length + 1 → SlT 1 eB h' v s → (∀ j, onId v j → j = h.length) → K v h') : strB (.string (bs s)) none h K := by
  refine ⟨hn, ?_⟩
  refine k _ _ (.app _ _) (by simp) ?_ fun j hj => ?_
  · have hb : bytesL (bs s) = flat eB s := by
      unfold bytesL flat
      rw [bs_data]
      clear k hn
      induction s with
      | nil => rfl
      | cons c s ih => rw [List.map_cons, ih]; rfl
    refine ⟨flat_length eB_len s, .inr ⟨h.length, 0, _, rfl, .inr rfl, .inr ⟨_, true, get_new _ _, ?_, ?_⟩⟩⟩
    · rw [hb, flat_length eB_len]; omega
    · rw [hb, List.drop_zero, ← flat_length eB_len s, List.take_length]
  · exact (show h.length = j from hj).symm

/-- a machine of nothing -/
def m0 : Mach := ⟨0, 0, [], [], [], [], []⟩
def tokSt (l : List Sy) (s : List UInt8) : FS := FeedM.shut (FeedM.write (FeedM.new l m0 9223372036854775807) s)

theorem SlT.nil {α : Type} {s : Nat} {enc : α → List Value} {h : AH} : SlT s enc h (.slice none 0 0) ([] : List α) := ⟨by simp [flat], .inl ⟨rfl, rfl⟩⟩

theorem write_closed (st : FS) : ∀ (bs : List UInt8), (FeedM.write st bs).closed = st.closed
  | [] => rfl
  | c :: bs => by
    unfold FeedM.write
    split
    · rfl
    · rw [write_closed _ bs, step_closed]

theorem tokens28 {h : AH} {v0 : Value} {l : List Sy} {s : List UInt8} {K : Value → AH → Prop} (hl : Syms h v0 l) (bl : l.length < room40) (hs : 5 * s.length + 10 < room40)
    (k1 : ∀ h', Ex h h' → (tokSt l s).e ≠ 0 → K (.tuple #[.slice none 0 0, .int .i64 (tokSt l s).place, .int .i64 (tokSt l s).e]) h')
    (k2 : ∀ h' v, Ex h h' → (tokSt l s).e = 0 → Ints h' v (tokSt l s).word → K (.tuple #[v, .int .i64 0, .int .i64 0]) h') :
    callW Try.prog 28 [v0, .string (bs s)] h K := by
  refine c28 ?_
  unfold s28
  refine w_some rfl ?_
  have r0 : (0 : Nat) < room40 := by decide
  refine new22 (m := m0) hl SlT.nil SlT.nil SlT.nil SlT.nil SlT.nil bl r0 r0 r0 r0 r0 fun h1 f F1 x1 r1 low1 => ?_
  refine w_strB (by omega) fun v2 h2 x2 l2 sv2 id2 => ?_
  have r2 := r1.ex x2
  have t2 : Fit (FeedM.new l m0 9223372036854775807) (5 * s.length + 10) := Fit.new (by decide) (by decide) bl hs
  have lt1 : ∀ j, F1 j → j < h1.length := by obtain ⟨V, _, b⟩ := r1; exact b.lt
  refine write23 r2 t2 rfl sv2 (fun j hj hF => by have := id2 j hj; have := lt1 j hF; omega) fun h3 F3 r3 c3 => ?_
  have t3 : Fit (FeedM.write (FeedM.new l m0 9223372036854775807) s) 10 := Fit.write t2
  refine close24 r3 (t3.mono (c := 0 + 2) (by omega)) (by rw [write_closed]; rfl) fun h4 F4 c r4 c4 hc => ?_
  have x4 : Ex h h4 := (c3.trans c4).toEx (x1.trans x2) low1
  refine w_some rfl (w_some rfl (w_some rfl (w_neq ?_)))
  refine c_dec (fun q => ?_) (fun q => ?_)
  · exact k1 h4 x4 q
  · have q : (tokSt l s).e = 0 := by
      refine Classical.byContradiction fun h => q h
    obtain ⟨V4, hr4, b4⟩ := r4
    refine w_nilc (w_offP (w_rdP hr4 (v := V4.vw) rfl ?_))
    have t4 : (tokSt l s).word.length < room40 := by
      have t : Fit (tokSt l s) 0 := by
        have a : Fit (FeedM.shut1 (FeedM.write (FeedM.new l m0 9223372036854775807) s)) 0 := by
          unfold FeedM.shut1
          split
          · exact (t3.mono (c := 0 + 2) (by omega)).ended
          · exact t3.mono (by omega)
        have b : Fit (FeedM.shut2 (FeedM.shut1 (FeedM.write (FeedM.new l m0 9223372036854775807) s))) 0 := by
          unfold FeedM.shut2
          split
          · exact a
          · exact a.wrong
        exact ⟨b.u, b.fin, b.l, b.now, b.und, b.ub, b.sb, b.wb, b.rd⟩
      exact t.wb
    refine clone40 _ _ _ _ _ b4.word.sl t4 fun w h5 x5 q5 _ => ?_
    exact k2 h5 w (x4.trans x5) q q5
end Go.Proofs.Ytebbjimmgblcpaa.W
end

section
/- The laws' symbols: the walks of Syms, Sign. Conditions: none. -/
namespace Go.Proofs.Ytebbjimmgblcpaa.W
open Go Go.AM FeedM
set_option linter.unusedVariables false
set_option maxRecDepth 100000

def L7 : List Sy := [([97], 1), ([97], 2), ([98], 3), ([99], 1), ([99], 2), ([100], 3), ([120], 2)]
def symChoices : List (List Sy) := [L7.take 3, L7.take 4, L7.take 5, L7.take 6, L7.take 7, [([98], 3), ([97], 2), ([97], 1)], [([97], 1)], [([97], 2)], [([98], 3)], [([99], 1)], [([99], 2)], [([100], 3)], [([120], 2)]]

theorem syms_new {h : AH} {l : List Sy} {n : Nat} {c : List Value} (hc : c = flat eSy l) (hn : n = l.length) (hl : l.length < 100) : Syms (h ++ [.row c true]) (.slice (some ⟨h.length, 0, none⟩) n n) l := by
  subst hc hn
  refine ⟨flat_length eSy_len l, .inr ⟨h.length, 0, _, rfl, .inl ⟨?_, Nat.le_refl _⟩, .inr ⟨_, true, get_new _ _, ?_, ?_⟩⟩⟩
  · have : (100 : Nat) < openCap := by decide
    omega
  · rw [flat_length eSy_len]; omega
  · rw [List.drop_zero, ← flat_length eSy_len l, List.take_length]

theorem syms14 {h : AH} {a : Int} {v1 : Value} {ns : List Int} {K : Value → AH → Prop} (hns : Ints h v1 ns)
    (k : ∀ v h' l, Ex h h' → Syms h' v l → l ∈ symChoices → K v h') : callW Try.prog 14 [.int .i64 a, v1] h K := by
  refine c14 ?_
  unfold s14
  iterate 7 refine w_some rfl ?_
  refine w_some rfl ?_
  refine n_new ?_
  have hS : Syms (h ++ [AObj.row (flat eSy L7) true]) (.slice (some ⟨h.length, 0, none⟩) 7 7) L7 := syms_new rfl rfl (by decide)
  have x1 : Ex h (h ++ [AObj.row (flat eSy L7) true]) := .app _ _
  change callW Try.prog 34 _ (h ++ [AObj.row (flat eSy L7) true]) _
  generalize h ++ [AObj.row (flat eSy L7) true] = h1 at *
  generalize (Value.slice (some ⟨h.length, 0, none⟩) 7 7) = sv at *
  refine within34 _ _ _ _ (by decide) (by decide) ?_
  have q5 : 0 ≤ a % 5 ∧ a % 5 < 5 := ⟨Int.emod_nonneg _ (by decide), Int.emod_lt_of_pos _ (by decide)⟩
  refine w_add (by omega) (by omega) ?_
  refine within34 _ _ _ _ (by decide) (by decide) ?_
  refine w_eql ?_
  refine c_dec (fun q => ?_) (fun q => ?_)
  · have hR := hS.ex (Ex.res h1)
    refine w_idxN (enc := eSy) (i := 2) eSy_len hR rfl fun p hp => w_rdA hp rfl ?_
    refine w_idxN (enc := eSy) (i := 1) eSy_len hR rfl fun p hp => w_rdA hp rfl ?_
    refine w_idxN (enc := eSy) (i := 0) eSy_len hR rfl fun p hp => w_rdA hp rfl ?_
    refine w_some rfl ?_
    refine n_slot ?_
    rw [reserve_set]
    exact k _ _ [([98], 3), ([97], 2), ([97], 1)] (x1.trans (.app _ _)) (syms_new rfl rfl (by decide)) (by decide)
  · refine within34 _ _ _ _ (by decide) (by decide) ?_
    refine w_eql ?_
    have last : optW (pSliceSl 2 sv none (some (.int .i64 (3 + a % 5))) none) fun v49 => K v49 h1 := by
      have e : (3 + a % 5 : Int) = ((3 + (a % 5).toNat : Nat) : Int) := by omega
      rw [e]
      have hk : (a % 5).toNat < 5 := by omega
      refine w_sliceT (enc := eSy) (l := L7) (i := 0) (j := 3 + (a % 5).toNat) eSy_len hS (Nat.zero_le _) (by show 3 + (a % 5).toNat ≤ 7; omega) (.inl ⟨rfl, rfl⟩) (.inr ⟨_, rfl⟩) fun v' hv' _ => ?_
      refine k v' h1 _ x1 hv' ?_
      generalize (a % 5).toNat = z at *
      have : ∀ z, z < 5 → (L7.drop 0).take (3 + z - 0) ∈ symChoices := by decide
      exact this z hk
    by_cases q2 : a % 11 = 2
    · refine g_tt q2 (g_tt q2 (w_len hns (g_tt q2 (w_gtr (pk_tt q2 ?_)))))
      refine c_dec (fun q3 => ?_) (fun q3 => ?_)
      · obtain ⟨z, hz⟩ := getElem?_of_lt (l := ns) (i := 0) (by omega)
        refine w_idxN (enc := eI) (i := 0) eI_len (hns.ex x1) hz fun p hp => w_rd1 hp rfl ?_
        refine within34 _ _ _ _ (by decide) (by decide) ?_
        have q7 : 0 ≤ z % 7 ∧ z % 7 < 7 := ⟨Int.emod_nonneg _ (by decide), Int.emod_lt_of_pos _ (by decide)⟩
        obtain ⟨y, hy⟩ := getElem?_of_lt (l := L7) (i := (z % 7).toNat) (by show _ < 7; omega)
        refine w_idxT (enc := eSy) eSy_len hS q7.1 hy fun p hp => w_rdA hp rfl ?_
        refine w_some (bldSl_one rfl (by decide) rfl rfl) ?_
        refine n_new ?_
        refine k _ _ [y] (x1.trans (.app _ _)) (syms_new (by simp [flat, cellsL]) rfl (by simp)) ?_
        have hm := List.mem_of_getElem? hy
        have : ∀ y ∈ L7, [y] ∈ symChoices := by decide
        exact this y hm
      · exact last
    · refine g_tf q2 (g_tf q2 (g_tf q2 (pk_ff q2 (c_f ?_))))
      exact last

def signOf (s : Sy) : List UInt8 := if s.2 = 1 then 60 :: (s.1 ++ [62]) else if s.2 = 2 then 60 :: 47 :: (s.1 ++ [62]) else s.1

theorem sign33 {h : AH} {s : Sy} {K : Value → AH → Prop} (hn : s.1.length < 1000) (k : ∀ h', Ex h h' → K (.string (bs (signOf s))) h') : callW Try.prog 33 [.agg (eSy s).toArray] h K := by
  refine c33 ?_
  unfold s33
  refine n_boxv rfl fun h1 x1 l1 g1 => ?_
  refine w_offP (w_rdP g1 (v := .int .i64 s.2) rfl (w_eql ?_))
  unfold signOf at k
  refine c_dec (fun q => ?_) (fun q => ?_)
  · refine w_offP (w_rdP g1 (v := .string (bs s.1)) rfl ?_)
    refine w_cat (by simp; omega) (w_cat (by simp; omega) ?_)
    rw [if_pos q] at k
    exact k h1 x1
  · rw [if_neg q] at k
    refine w_eql ?_
    refine c_dec (fun q2 => ?_) (fun q2 => ?_)
    · refine w_offP (w_rdP g1 (v := .string (bs s.1)) rfl ?_)
      refine w_cat (by simp; omega) (w_cat (by simp; omega) ?_)
      rw [if_pos q2] at k
      exact k h1 x1
    · refine w_offP (w_rdP g1 (v := .string (bs s.1)) rfl ?_)
      rw [if_neg q2] at k
      exact k h1 x1
end Go.Proofs.Ytebbjimmgblcpaa.W
end

section
/- The laws' text of a word: the walk. Conditions: none. -/
namespace Go.Proofs.Ytebbjimmgblcpaa.W
open Go Go.AM FeedM
set_option linter.unusedVariables false
set_option maxRecDepth 100000

def blanks (s : List UInt8) : Prop := ∀ c ∈ s, c = 32 ∨ c = 9 ∨ c = 10
/-- a word's text: blanks between, some between two plain ones. -/
inductive TextOf (l : List Sy) : List Int → List UInt8 → Prop
  | nil : TextOf l [] []
  | snoc {w : List Int} {s sep : List UInt8} {k : Int} {x : Sy} : TextOf l w s → l[k.toNat]? = some x → 0 ≤ k → blanks sep → (∀ j y, w.getLast? = some j → l[j.toNat]? = some y → x.2 = 3 → y.2 = 3 → sep ≠ []) → TextOf l (w ++ [k]) (s ++ (sep ++ signOf x))

theorem g_un {b : Bool} {f : (Value → AH → Prop) → Prop} {h : AH} {K : Value → AH → Prop} (k : K undef h) : gopW (gB undef b) f h K := k

theorem w_addw {P : Program} {t : TypeId} {a b : Int} {K : Value → Prop} (k : K (.int .i64 (IntKind.i64.wrap (a + b)))) : optW (pBin P .add t (.int .i64 a) (.int .i64 b)) K := k

def seps5 : List (List UInt8) := [[32], [10], [9], [32, 32], [32, 10, 32]]

theorem text16 {h : AH} {v0 v1 : Value} {l : List Sy} {w : List Int} {gap : Int} {K : Value → AH → Prop} (hl : Syms h v0 l) (hnm : ∀ x ∈ l, x.1.length = 1) (hw : Ints h v1 w) (hin : ∀ k ∈ w, 0 ≤ k ∧ k < (l.length : Nat)) (hn : w.length ≤ 1000)
    (k : ∀ h' s, Ex h h' → TextOf l w s → s.length ≤ 7 * w.length → K (.string (bs s)) h') : callW Try.prog 16 [v0, v1, .int .i64 gap] h K := by
  refine c16 ?_
  unfold s16
  refine loopE_intro (fun m e h' => ∃ (i : Nat) (s : List UInt8), i ≤ w.length ∧ m = w.length - i ∧ e 0 = v0 ∧ e 1 = v1 ∧ e 2 = .int .i64 gap ∧ e 7 = .string (bs s) ∧ e 8 = .int .i64 i ∧ Ex h h' ∧ TextOf l (w.take i) s ∧ s.length ≤ 7 * i) w.length
    ⟨0, [], Nat.zero_le _, rfl, rfl, rfl, rfl, rfl, rfl, Ex.refl h, TextOf.nil, Nat.le_refl _⟩ ?_
  rintro I m e h' ⟨i, s, hi, hm, e0, e1, e2, e7, e8, hx, ht, hs⟩ hI
  rw [e0, e1, e2, e7, e8]
  refine w_len hw (w_lss ?_)
  refine c_dec (fun q => ?_) (fun q => ?_)
  · obtain ⟨z, hz⟩ := getElem?_of_lt (l := w) (i := i) (by omega)
    obtain ⟨z0, z1⟩ := hin z (List.mem_of_getElem? hz)
    obtain ⟨x, hxx⟩ := getElem?_of_lt (l := l) (i := z.toNat) (by omega)
    have hx1 := hnm x (List.mem_of_getElem? hxx)
    have hsg : (signOf x).length ≤ 4 := by
      unfold signOf
      split
      · simp [hx1]
      · split <;> simp [hx1]
    refine w_idxN eI_len (hw.ex hx) hz fun p hp => w_rd1 hp rfl ?_
    refine w_idxT (enc := eSy) eSy_len (hl.ex hx) z0 hxx fun p hp => w_rdA hp rfl ?_
    refine sign33 (by omega) fun h1 x1 => ?_
    have hx1' := hx.trans x1
    refine w_mul (by omega) (by omega) (w_addw ?_)
    refine within18 _ _ _ _ (by decide) (by decide) ?_
    generalize hg : IntKind.i64.wrap (gap + (i : Int) * 7) % 5 = g
    have g5 : 0 ≤ g ∧ g < 5 := by rw [← hg]; exact ⟨Int.emod_nonneg _ (by decide), Int.emod_lt_of_pos _ (by decide)⟩
    have next : ∀ (sep : List UInt8) (e' : Env) (h2 : AH), Ex h1 h2 → blanks sep → sep.length ≤ 3 → (∀ j y, (w.take i).getLast? = some j → l[j.toNat]? = some y → x.2 = 3 → y.2 = 3 → sep ≠ []) → e' 0 = v0 → e' 1 = v1 → e' 2 = .int .i64 gap → e' 7 = .string (bs (s ++ (sep ++ signOf x))) → e' 8 = .int .i64 ((i : Int) + 1) → I e' h2 := by
      intro sep e' h2 x2 hb hl3 hc f0 f1 f2 f7 f8
      refine hI (m - 1) _ _ (by omega) ⟨i + 1, s ++ (sep ++ signOf x), by omega, by omega, f0, f1, f2, f7, f8, hx1'.trans x2, ?_, ?_⟩
      · rw [take_succ_get hz]
        exact .snoc ht hxx z0 hb hc
      · simp only [List.length_append]; omega
    have nosep : (∀ j y, (w.take i).getLast? = some j → l[j.toNat]? = some y → x.2 = 3 → y.2 = 3 → ([] : List UInt8) ≠ []) → ∀ e' : Env, e' 0 = v0 → e' 1 = v1 → e' 2 = .int .i64 gap → e' 7 = .string (bs (s ++ signOf x)) → e' 8 = .int .i64 ((i : Int) + 1) → I e' h1 := by
      intro hc e' f0 f1 f2 f7 f8
      exact next [] e' h1 (Ex.refl _) (fun c hc => by cases hc) (by simp) hc f0 f1 f2 f7 f8
    have withsep : ∀ (Q : List Value → Nat → Value → Value → AH → Prop), (∀ c i v62 sep h2, Ex h1 h2 → blanks sep → sep ≠ [] → sep.length ≤ 3 → Q c i v62 (.string (bs sep)) h2) →
        optW (bldSl 1 [(.string (bs []))] 5 [(0, (.string (bs [32]))), (1, (.string (bs [10]))), (2, (.string (bs [9]))), (3, (.string (bs [32, 32]))), (4, (.string (bs [32, 10, 32])))]) fun c =>
        newW none (.row c true) h1 fun i h_29 => optW (pIdxS 1 (.slice (some ⟨i, 0, none⟩) 5 5) (.int .i64 g)) fun v62 => optW (rdRow false 1 v62 h_29) fun v63 => Q c i v62 v63 h_29 := by
      intro Q hQ
      refine w_some rfl ?_
      refine n_new ?_
      have hS : SlT 1 eS (h1 ++ [AObj.row (flat eS seps5) true]) (.slice (some ⟨h1.length, 0, none⟩) 5 5) seps5 :=
        ⟨rfl, .inr ⟨h1.length, 0, _, rfl, .inl ⟨by decide, by decide⟩, .inr ⟨_, true, get_new _ _, by decide, rfl⟩⟩⟩
      obtain ⟨y, hy⟩ := getElem?_of_lt (l := seps5) (i := g.toNat) (by show _ < 5; omega)
      have hm := List.mem_of_getElem? hy
      refine w_idxT (enc := eS) eS_len hS g5.1 hy fun p hp => w_rd1 hp rfl ?_
      refine hQ _ _ _ y _ (.app _ _) ?_ ?_ ?_
      · have : ∀ y ∈ seps5, ∀ c ∈ y, c = 32 ∨ c = 9 ∨ c = 10 := by decide
        exact this y hm
      · have : ∀ y ∈ seps5, y ≠ [] := by decide
        exact this y hm
      · have : ∀ y ∈ seps5, y.length ≤ 3 := by decide
        exact this y hm
    refine w_gtr ?_
    by_cases q1 : (0 : Int) < (i : Nat)
    · refine g_tt q1 (g_tt q1 (w_gtr (g_tt q1 ?_)))
      by_cases q2 : (1 : Int) < g
      · iterate 10 refine g_ft q2 ?_
        iterate 10 refine g_un ?_
        refine g_ft q2 (g_tt q1 (pk_tt q2 (pk_tt q1 (c_t ?_))))
        refine withsep _ fun c i' v62 sep h2 x2 hb hne hl3 => ?_
        refine w_cat (by omega) (w_cat (by simp only [List.length_append]; omega) ?_)
        rw [List.append_assoc]
        refine w_add (by omega) (by omega) ?_
        exact next sep _ _ x2 hb hl3 (fun _ _ _ _ _ _ => hne) e0 e1 e2 rfl rfl
      · refine g_ff q2 (g_ff q2 (g_ff q2 (g_ff q2 ?_)))
        refine w_idxN eI_len (hw.ex hx1') hz fun p hp => ?_
        refine g_ff q2 (w_rd1 hp rfl (g_ff q2 ?_))
        refine w_idxT (enc := eSy) eSy_len (hl.ex hx1') z0 hxx fun p hp => ?_
        refine g_ff q2 (w_off hp (by simp [eSy_len]) fun p hp => ?_)
        refine g_ff q2 (w_rd1 hp rfl (g_ff q2 (w_eql (g_ff q2 ?_))))
        by_cases q3 : x.2 = 3
        · obtain ⟨z', hz'⟩ := getElem?_of_lt (l := w) (i := i - 1) (by omega)
          obtain ⟨z0', z1'⟩ := hin z' (List.mem_of_getElem? hz')
          obtain ⟨y, hyy⟩ := getElem?_of_lt (l := l) (i := z'.toNat) (by omega)
          have hlast : (w.take i).getLast? = some z' := by
            rw [List.getLast?_eq_getElem?, List.length_take, Nat.min_eq_left hi, List.getElem?_take_of_lt (by omega)]
            exact hz'
          refine g_tt q3 (g_tt q3 (g_tt q3 (g_tt q3 (w_sub (by omega) (by omega) (g_tt q3 ?_)))))
          have ei : ((i : Nat) : Int) - 1 = ((i - 1 : Nat) : Int) := by omega
          rw [ei]
          refine w_idxN eI_len (hw.ex hx1') hz' fun p hp => ?_
          refine g_tt q3 (w_rd1 hp rfl (g_tt q3 ?_))
          refine w_idxT (enc := eSy) eSy_len (hl.ex hx1') z0' hyy fun p hp => ?_
          refine g_tt q3 (w_off hp (by simp [eSy_len]) fun p hp => ?_)
          refine g_tt q3 (w_rd1 hp rfl (g_tt q3 (w_eql ?_)))
          refine g_ff q2 (pk_tt q3 (g_tt q1 (pk_ff q2 (pk_tt q1 ?_))))
          refine c_dec (fun q4 => ?_) (fun q4 => ?_)
          · refine withsep _ fun c i' v62 sep h2 x2 hb hne hl3 => ?_
            refine w_cat (by omega) (w_cat (by simp only [List.length_append]; omega) ?_)
            rw [List.append_assoc]
            refine w_add (by omega) (by omega) ?_
            exact next sep _ _ x2 hb hl3 (fun _ _ _ _ _ _ => hne) e0 e1 e2 rfl rfl
          · refine w_cat (by omega) (w_add (by omega) (by omega) ?_)
            refine nosep (fun j y' hj hy' h3 h4 => ?_) _ e0 e1 e2 rfl rfl
            rw [hlast] at hj
            obtain rfl := Option.some.inj hj
            rw [hyy] at hy'
            obtain rfl := Option.some.inj hy'
            exact (q4 h4).elim
        · iterate 10 refine g_tf q3 ?_
          refine g_ff q2 (pk_ff q3 (g_tt q1 (pk_ff q2 (pk_tt q1 (c_f ?_)))))
          refine w_cat (by omega) (w_add (by omega) (by omega) ?_)
          exact nosep (fun j y' hj hy' h3 h4 => (q3 h3).elim) _ e0 e1 e2 rfl rfl
    · iterate 3 refine g_tf q1 ?_
      iterate 10 refine g_un ?_
      iterate 10 refine g_un ?_
      refine g_un (g_tf q1 (pk_ff q1 (c_f ?_)))
      refine w_cat (by omega) (w_add (by omega) (by omega) ?_)
      have hi0 : i = 0 := by omega
      exact nosep (fun j y' hj hy' h3 h4 => by rw [hi0] at hj; simp at hj) _ e0 e1 e2 rfl rfl
  · have : i = w.length := by omega
    subst this
    rw [List.take_length] at ht
    exact k h' s hx ht hs
end Go.Proofs.Ytebbjimmgblcpaa.W
end

section
/- The machine that takes all words: the walk of Each. Conditions: none. -/
namespace Go.Proofs.Ytebbjimmgblcpaa.W
open Go Go.AM FeedM
set_option linter.unusedVariables false
set_option maxRecDepth 100000

def kindAt (l : List Sy) (s : Nat) : Int := match l[s]? with
  | some x => x.2
  | none => 0
def eOp (l : List Sy) : Nat → List (Int × Int × Int × Int)
  | 0 => []
  | i + 1 => eOp l i ++ if kindAt l i = 1 then [(0, (i : Int), 0, 1)] else []
def eCl (l : List Sy) : Nat → List (Int × Int × Int × Int)
  | 0 => []
  | i + 1 => eCl l i ++ if kindAt l i = 1 then [] else if kindAt l i = 2 then [(0, (i : Int), 0, 0), (0, (i : Int), 1, 0)] else []
def eIn (l : List Sy) : Nat → List (Int × Int × Int)
  | 0 => []
  | i + 1 => eIn l i ++ if kindAt l i = 1 then [] else if kindAt l i = 2 then [] else [(0, (i : Int), 0)]
def eachM (l : List Sy) : Mach := ⟨1, 1, [0], [0], eOp l l.length, eCl l l.length, eIn l l.length⟩

theorem eOp_len (l : List Sy) : ∀ i, (eOp l i).length ≤ i
  | 0 => Nat.le_refl _
  | i + 1 => by have := eOp_len l i; unfold eOp; split <;> simp <;> omega
theorem eCl_len (l : List Sy) : ∀ i, (eCl l i).length ≤ 2 * i
  | 0 => Nat.le_refl _
  | i + 1 => by
    have := eCl_len l i
    unfold eCl
    split
    · simp; omega
    · split <;> simp <;> omega
theorem eIn_len (l : List Sy) : ∀ i, (eIn l i).length ≤ i
  | 0 => Nat.le_refl _
  | i + 1 => by
    have := eIn_len l i
    unfold eIn
    split
    · simp; omega
    · split <;> simp <;> omega

theorem res32 (e : Env) (h : AH) : resList Try.prog e h Try.f32.results.toList = (rdRow true 7 (e 2) h).map fun v => [v] := by
  have h1 : Try.f32.results.toList = [.cell 2 30] := by kernel_rfl
  have h2 : ∀ x, pLoad Try.prog 30 x h = rdRow true 7 x h := fun x => by kernel_rfl
  rw [h1]
  show (match pLoad Try.prog 30 (e 2) h with
    | some v => match resList Try.prog e h [] with
      | some vs => some (v :: vs)
      | none => none
    | none => none) = _
  rw [h2]
  cases rdRow true 7 (e 2) h <;> rfl

/-- the machine under way, at a place of its own. -/
structure EachR (h0 h : AH) (p3 : Nat) (vi vf vo vc vn : Value) (l : List Sy) (i : Nat) (F : Nat → Prop) : Prop where
  row : h[p3]? = some (.row (mcells 1 1 vi vf vo vc vn) true)
  init : Ints h vi [0]
  fin : Ints h vf [0]
  op : OwnG 4 F h vo (eOp l i).length (flat e4 (eOp l i))
  cl : OwnG 4 F h vc (eCl l i).length (flat e4 (eCl l i))
  inn : OwnG 3 F h vn (eIn l i).length (flat e3 (eIn l i))
  hF : ∀ j, F j → p3 < j
  ifF : ∀ j, (onId vi j ∨ onId vf j) → ¬ F j ∧ j ≠ p3
  oc : ∀ j, onId vo j → ¬ onId vc j ∧ ¬ onId vn j
  cn : ∀ j, onId vc j → ¬ onId vn j

theorem EachR.next {h0 h h' : AH} {p3 : Nat} {vi vf vo vc vn : Value} {l : List Sy} {i : Nat} {F F' : Nat → Prop} {vo' vc' vn' : Value} (r : EachR h0 h p3 vi vf vo vc vn l i F)
    (hrow : h'[p3]? = some (.row (mcells 1 1 vi vf vo' vc' vn') true)) (hi : ∀ j, onId vi j → h'[j]? = h[j]?) (hf : ∀ j, onId vf j → h'[j]? = h[j]?)
    (op : OwnG 4 F' h' vo' (eOp l (i + 1)).length (flat e4 (eOp l (i + 1)))) (cl : OwnG 4 F' h' vc' (eCl l (i + 1)).length (flat e4 (eCl l (i + 1)))) (inn : OwnG 3 F' h' vn' (eIn l (i + 1)).length (flat e3 (eIn l (i + 1))))
    (hF : ∀ j, F' j → F j ∨ h.length ≤ j) (hp : p3 < h.length) (oc : ∀ j, onId vo' j → ¬ onId vc' j ∧ ¬ onId vn' j) (cn : ∀ j, onId vc' j → ¬ onId vn' j) (hlt : ∀ j, (onId vi j ∨ onId vf j) → j < h.length) : EachR h0 h' p3 vi vf vo' vc' vn' l (i + 1) F' where
  row := hrow
  init := Sl.same r.init hi
  fin := Sl.same r.fin hf
  op := op
  cl := cl
  inn := inn
  hF j hj := (hF j hj).elim (r.hF j) fun h => by omega
  ifF j hj := ⟨fun h => (hF j h).elim (r.ifF j hj).1 fun h => by have := hlt j hj; omega, (r.ifF j hj).2⟩
  oc := oc
  cn := cn
end Go.Proofs.Ytebbjimmgblcpaa.W
end

section
/- The machine that takes all words: the walk of Each, its end. Conditions: none. -/
namespace Go.Proofs.Ytebbjimmgblcpaa.W
open Go Go.AM FeedM
set_option linter.unusedVariables false
set_option maxRecDepth 100000

def z7 : List Value := [(.int .i64 0), (.int .i64 0), (.slice none 0 0), (.slice none 0 0), (.slice none 0 0), (.slice none 0 0), (.slice none 0 0)]
theorem n_newv {o : AObj} {h : AH} {K : Nat → AH → Prop} (k : ∀ h', Ex h h' → h'.length = h.length + 1 → h'[h.length]? = some o → K h.length h') : newW none o h K :=
  n_new (k _ (.app _ _) (by simp) (get_new _ _))

/-- an append to a slice that a row holds, and its store. -/
theorem app_field {s : Nat} {F : Nat → Prop} {h : AH} {p off n m : Nat} {v : Value} {c cs news : List Value} {K : Nat → Value → Value → AH → Prop} {o : AObj} (hs : 0 < s) (hr : h[p]? = some (.row c true)) (hoff : off < c.length) (ho : OwnG s F h v n cs) (ho' : o = .row news true)
    (h0 : 0 < m) (hm : news.length = m * s) (hn : n + m < room40) (hFp : ∀ j, F j → p < j)
    (k : ∀ v' h', OwnG s (fun j => F j ∨ j = h.length + 1) h' v' (n + m) (cs ++ news) → isSl v' → h.length < h'.length → h'[p]? = some (.row (c.set off v') true) → (∀ j, j < h.length → j ≠ p → ¬ onId v j → h'[j]? = h[j]?) → (∀ j, onId v' j → onId v j ∨ j = h.length + 1) → ∀ i q, K i v' q h') :
    newW none o h fun i h1 => appSl s v (.slice (some ⟨i, 0, none⟩) m m) h1 fun v' h2 => optW (pOff off (.pointer (some ⟨p, 0, none⟩))) fun q => optW (pStore 1 q v' h2) (K i v' q) := by
  subst ho'
  refine n_new ?_
  have hlast : (h ++ [AObj.row news true])[h.length]? = some (.row news true) := get_new _ _
  have x1 : Ex h (h ++ [AObj.row news true]) := .app _ _
  have l1 : (h ++ [AObj.row news true]).length = h.length + 1 := by simp
  generalize h ++ [AObj.row news true] = h1 at *
  have o1 : OwnG s F h1 v n cs := ho.mono (fun _ _ h => h) fun j hj _ => x1.get j (ho.on hj).2
  have hp := lt_of_get hr
  refine appSl_of (app_g hs o1 (srcL_new hlast h0 hm) hm hn ?_)
  intro v' h2 q1 q2 q3 q4
  have hr2 : h2[p]? = some (.row c true) := (q3 _ (x1.lt hp) fun hh => by have := hFp p (ho.on hh).1; omega).trans (x1.some hr)
  have hsl : isSl v' := by obtain ⟨a, c, e⟩ := q1.sl.shape; exact ⟨a, _, c, e⟩
  obtain ⟨va, vn, vcap, rfl⟩ := hsl
  refine w_offP ?_
  rw [Nat.zero_add]
  refine w_stP hr2 hoff rfl rfl ?_
  have hne : ∀ j, onId (.slice va vn vcap) j → j ≠ p := fun j hj e => by
    subst e
    rcases (q1.on hj).1 with h | h
    · have := hFp _ h; omega
    · omega
  refine k _ _ (q1.mono (fun j _ h => h.imp id fun e => by omega) fun j hj _ => get_ne (hne j hj).symm _) ⟨_, _, _, rfl⟩ (by simp; omega) (get_set _ (lt_of_get hr2) _) (fun j hj hjp hjv => ?_) (fun j hj => (q4 j hj).imp id fun e => by omega) _ _
  rw [get_ne (Ne.symm hjp), q3 j (x1.lt hj) hjv]
  exact x1.get j hj

theorem each32 {h : AH} {v0 : Value} {l : List Sy} {K : Value → AH → Prop} (hl : Syms h v0 l) (hn : l.length ≤ 100)
    (k : ∀ h' vi vf vo vc vn, Ex h h' → Ints h' vi (eachM l).init → Ints h' vf (eachM l).final → SlT 4 e4 h' vo (eachM l).opens → SlT 4 e4 h' vc (eachM l).closes → SlT 3 e3 h' vn (eachM l).inners → K (.agg (mcells 1 1 vi vf vo vc vn).toArray) h') :
    callW Try.prog 32 [v0] h K := by
  refine c32 ?_
  unfold s32
  refine n_rowv (c := z7) fun h1 x1 l1 g1 => ?_
  refine w_some (bldSl_one rfl (by decide) rfl rfl) ?_
  refine n_newv fun h2 x2 l2 g2 => ?_
  refine w_some (bldSl_one rfl (by decide) rfl rfl) ?_
  refine n_newv fun h3 x3 l3 g3 => ?_
  refine w_some rfl ?_
  refine n_var rfl rfl rfl fun h4 x4 l4 g4 => ?_
  have hsi : Ints h4 (.slice (some ⟨h1.length, 0, none⟩) 1 1) [0] := ⟨rfl, .inr ⟨h1.length, 0, 1, rfl, .inl ⟨by decide, by decide⟩, .inr ⟨_, true, x4.some (x3.some g2), by decide, rfl⟩⟩⟩
  have hsf : Ints h4 (.slice (some ⟨h2.length, 0, none⟩) 1 1) [0] := ⟨rfl, .inr ⟨h2.length, 0, 1, rfl, .inl ⟨by decide, by decide⟩, .inr ⟨_, true, x4.some g3, by decide, rfl⟩⟩⟩
  have x04 : Ex h h4 := ((x1.trans x2).trans x3).trans x4
  refine loopE_intro (fun m e h' => ∃ (i : Nat) (vo vc vn : Value) (F : Nat → Prop), i ≤ l.length ∧ m = l.length - i ∧ e 0 = v0 ∧ e 2 = .pointer (some ⟨h.length, 0, none⟩) ∧ e 3 = .pointer (some ⟨h3.length, 0, none⟩) ∧ e 4 = .int .i64 i ∧
    Ex h h' ∧ h3.length < h'.length ∧ h'[h.length]? = some (.row z7 true) ∧ EachR h h' h3.length (.slice (some ⟨h1.length, 0, none⟩) 1 1) (.slice (some ⟨h2.length, 0, none⟩) 1 1) vo vc vn l i F) l.length
    ⟨0, .slice none 0 0, .slice none 0 0, .slice none 0 0, fun j => h3.length < j, Nat.zero_le _, rfl, rfl, rfl, rfl, rfl, x04, by omega, x4.some (x3.some (x2.some g1)), ?_⟩ ?_
  · exact {
      row := g4, init := hsi, fin := hsf, op := OwnG.nil _ _ _, cl := OwnG.nil _ _ _, inn := OwnG.nil _ _ _
      hF := fun j hj => hj
      ifF := fun j hj => by
        have : j < h3.length := by
          rcases hj with hj | hj
          · have : h1.length = j := hj
            omega
          · have : h2.length = j := hj
            omega
        exact ⟨by omega, by omega⟩
      oc := fun j hj => hj.elim
      cn := fun j hj => hj.elim }
  rintro I m e h' ⟨i, vo, vc, vn, F, hi, hm, e0, e2, e3', e4', hx, hp3, hp2, r⟩ hI
  rw [e0, e4', e3', e2]
  have bo := eOp_len l i
  have bc := eCl_len l i
  have bn := eIn_len l i
  have r40 : (1000 : Nat) < room40 := by decide
  have vlt : ∀ j, (onId (.slice (some ⟨h1.length, 0, none⟩) 1 1) j ∨ onId (.slice (some ⟨h2.length, 0, none⟩) 1 1) j) → j < h3.length := by
    rintro j (hj | hj)
    · have : h1.length = j := hj
      omega
    · have : h2.length = j := hj
      omega
  refine w_len hl (w_lss ?_)
  refine c_dec (fun q => ?_) (fun q => ?_)
  · obtain ⟨x, hxx⟩ := getElem?_of_lt (l := l) (i := i) (by omega)
    have hk : kindAt l i = x.2 := by unfold kindAt; rw [hxx]
    refine w_idxN (enc := eSy) eSy_len (hl.ex hx) hxx fun p hp => w_off hp (by simp [eSy_len]) fun p hp => w_rd1 hp rfl (w_eql ?_)
    refine c_dec (fun q1 => ?_) (fun q1 => ?_)
    · refine w_offP (w_rdP r.row (v := vo) rfl ?_)
      refine w_some rfl (w_some (bldSl_one rfl (by decide) rfl rfl) ?_)
      have eo : eOp l (i + 1) = eOp l i ++ [(0, (i : Int), 0, 1)] := by show eOp l i ++ _ = _; rw [hk, if_pos q1]
      have ec : eCl l (i + 1) = eCl l i := by show eCl l i ++ _ = _; rw [hk, if_pos q1, List.append_nil]
      have en : eIn l (i + 1) = eIn l i := by show eIn l i ++ _ = _; rw [hk, if_pos q1, List.append_nil]
      refine app_field (m := 1) (news := e4 (0, (i : Int), 0, 1)) (by decide) r.row (off := 4) (by exact (by decide : (4 : Nat) < 7)) r.op rfl (by decide) rfl (by omega) r.hF fun v' h9 o1 s1 l9 g9 keep ids i' q' => ?_
      refine w_add (by omega) (by omega) ?_
      refine hI (m - 1) _ _ (by omega) ⟨i + 1, v', vc, vn, (fun j => F j ∨ j = h'.length + 1), by omega, by omega, e0, e2, e3', rfl, ⟨by have := hx.len; omega, fun j hj => ?_⟩, by omega, ?_, r.next g9 (fun j hj => ?_) (fun j hj => ?_) ?_ ?_ ?_ (fun j hj => ?_) hp3 ?_ ?_ ?_⟩
      · exact (keep j (by have := hx.len; omega) (by omega) fun hh => by have := r.hF j (r.op.on hh).1; omega).trans (hx.get j hj)
      · exact (keep h.length (by omega) (by omega) fun hh => by have := r.hF _ (r.op.on hh).1; omega).trans hp2
      · exact keep j (by have := vlt j (.inl hj); omega) (r.ifF j (.inl hj)).2 fun hh => (r.ifF j (.inl hj)).1 (r.op.on hh).1
      · exact keep j (by have := vlt j (.inr hj); omega) (r.ifF j (.inr hj)).2 fun hh => (r.ifF j (.inr hj)).1 (r.op.on hh).1
      · rw [eo, flat_append, List.length_append]
        exact o1
      · rw [ec]
        exact r.cl.mono (fun j _ h => .inl h) fun j hj _ => keep j (r.cl.on hj).2 (by have := r.hF j (r.cl.on hj).1; omega) fun hh => (r.oc j hh).1 hj
      · rw [en]
        exact r.inn.mono (fun j _ h => .inl h) fun j hj _ => keep j (r.inn.on hj).2 (by have := r.hF j (r.inn.on hj).1; omega) fun hh => (r.oc j hh).2 hj
      · exact hj.imp id fun e => by omega
      · exact fun j hj => (ids j hj).elim (r.oc j) fun e => ⟨fun h => by have := (r.cl.on h).2; omega, fun h => by have := (r.inn.on h).2; omega⟩
      · exact r.cn
      · exact fun j hj => by have := vlt j hj; omega
    · refine w_eql ?_
      refine c_dec (fun q2 => ?_) (fun q2 => ?_)
      · refine w_offP (w_rdP r.row (v := vc) rfl ?_)
        refine w_some rfl (w_some rfl (w_some rfl ?_))
        have eo : eOp l (i + 1) = eOp l i := by show eOp l i ++ _ = _; rw [hk, if_neg q1, List.append_nil]
        have ec : eCl l (i + 1) = eCl l i ++ [(0, (i : Int), 0, 0), (0, (i : Int), 1, 0)] := by show eCl l i ++ _ = _; rw [hk, if_neg q1, if_pos q2]
        have en : eIn l (i + 1) = eIn l i := by show eIn l i ++ _ = _; rw [hk, if_neg q1, if_pos q2, List.append_nil]
        refine app_field (m := 2) (news := e4 (0, (i : Int), 0, 0) ++ e4 (0, (i : Int), 1, 0)) (by decide) r.row (off := 5) (by exact (by decide : (5 : Nat) < 7)) r.cl rfl (by decide) rfl (by omega) r.hF fun v' h9 o1 s1 l9 g9 keep ids i' q' => ?_
        refine w_add (by omega) (by omega) ?_
        refine hI (m - 1) _ _ (by omega) ⟨i + 1, vo, v', vn, (fun j => F j ∨ j = h'.length + 1), by omega, by omega, e0, e2, e3', rfl, ⟨by have := hx.len; omega, fun j hj => ?_⟩, by omega, ?_, r.next g9 (fun j hj => ?_) (fun j hj => ?_) ?_ ?_ ?_ (fun j hj => ?_) hp3 ?_ ?_ ?_⟩
        · exact (keep j (by have := hx.len; omega) (by omega) fun hh => by have := r.hF j (r.cl.on hh).1; omega).trans (hx.get j hj)
        · exact (keep h.length (by omega) (by omega) fun hh => by have := r.hF _ (r.cl.on hh).1; omega).trans hp2
        · exact keep j (by have := vlt j (.inl hj); omega) (r.ifF j (.inl hj)).2 fun hh => (r.ifF j (.inl hj)).1 (r.cl.on hh).1
        · exact keep j (by have := vlt j (.inr hj); omega) (r.ifF j (.inr hj)).2 fun hh => (r.ifF j (.inr hj)).1 (r.cl.on hh).1
        · rw [eo]
          exact r.op.mono (fun j _ h => .inl h) fun j hj _ => keep j (r.op.on hj).2 (by have := r.hF j (r.op.on hj).1; omega) fun hh => (r.oc j hj).1 hh
        · rw [ec, flat_append, List.length_append]
          exact o1
        · rw [en]
          exact r.inn.mono (fun j _ h => .inl h) fun j hj _ => keep j (r.inn.on hj).2 (by have := r.hF j (r.inn.on hj).1; omega) fun hh => r.cn j hh hj
        · exact hj.imp id fun e => by omega
        · exact fun j hj => ⟨fun h => (ids j h).elim (r.oc j hj).1 fun e => by have := (r.op.on hj).2; omega, (r.oc j hj).2⟩
        · exact fun j hj h => (ids j hj).elim (fun hj => r.cn j hj h) fun e => by have := (r.inn.on h).2; omega
        · exact fun j hj => by have := vlt j hj; omega
      · refine w_offP (w_rdP r.row (v := vn) rfl ?_)
        refine w_some rfl (w_some (bldSl_one rfl (by decide) rfl rfl) ?_)
        have eo : eOp l (i + 1) = eOp l i := by show eOp l i ++ _ = _; rw [hk, if_neg q1, List.append_nil]
        have ec : eCl l (i + 1) = eCl l i := by show eCl l i ++ _ = _; rw [hk, if_neg q1, if_neg q2, List.append_nil]
        have en : eIn l (i + 1) = eIn l i ++ [(0, (i : Int), 0)] := by show eIn l i ++ _ = _; rw [hk, if_neg q1, if_neg q2]
        refine app_field (m := 1) (news := e3 (0, (i : Int), 0)) (by decide) r.row (off := 6) (by exact (by decide : (6 : Nat) < 7)) r.inn rfl (by decide) rfl (by omega) r.hF fun v' h9 o1 s1 l9 g9 keep ids i' q' => ?_
        refine w_add (by omega) (by omega) ?_
        refine hI (m - 1) _ _ (by omega) ⟨i + 1, vo, vc, v', (fun j => F j ∨ j = h'.length + 1), by omega, by omega, e0, e2, e3', rfl, ⟨by have := hx.len; omega, fun j hj => ?_⟩, by omega, ?_, r.next g9 (fun j hj => ?_) (fun j hj => ?_) ?_ ?_ ?_ (fun j hj => ?_) hp3 ?_ ?_ ?_⟩
        · exact (keep j (by have := hx.len; omega) (by omega) fun hh => by have := r.hF j (r.inn.on hh).1; omega).trans (hx.get j hj)
        · exact (keep h.length (by omega) (by omega) fun hh => by have := r.hF _ (r.inn.on hh).1; omega).trans hp2
        · exact keep j (by have := vlt j (.inl hj); omega) (r.ifF j (.inl hj)).2 fun hh => (r.ifF j (.inl hj)).1 (r.inn.on hh).1
        · exact keep j (by have := vlt j (.inr hj); omega) (r.ifF j (.inr hj)).2 fun hh => (r.ifF j (.inr hj)).1 (r.inn.on hh).1
        · rw [eo]
          exact r.op.mono (fun j _ h => .inl h) fun j hj _ => keep j (r.op.on hj).2 (by have := r.hF j (r.op.on hj).1; omega) fun hh => (r.oc j hj).2 hh
        · rw [ec]
          exact r.cl.mono (fun j _ h => .inl h) fun j hj _ => keep j (r.cl.on hj).2 (by have := r.hF j (r.cl.on hj).1; omega) fun hh => r.cn j hj hh
        · rw [en, flat_append, List.length_append]
          exact o1
        · exact hj.imp id fun e => by omega
        · exact fun j hj => ⟨(r.oc j hj).1, fun h => (ids j h).elim (r.oc j hj).2 fun e => by have := (r.op.on hj).2; omega⟩
        · exact fun j hj h => (ids j h).elim (r.cn j hj) fun e => by have := (r.cl.on hj).2; omega
        · exact fun j hj => by have := vlt j hj; omega
  · have hie : i = l.length := by omega
    subst hie
    obtain ⟨a3, c3, rfl⟩ := r.op.sl.shape
    obtain ⟨a4, c4, rfl⟩ := r.cl.sl.shape
    obtain ⟨a5, c5, rfl⟩ := r.inn.sl.shape
    refine w_rdPA r.row (Nat.le_refl 7) ?_
    refine w_stPA hp2 rfl (Nat.le_refl 7) rfl ?_
    rw [res32]
    have hb := lt_of_get hp2
    have hopt : ∀ {α : Type} {o : Option α} {x : α}, (optW o fun y => y = x) → o = some x := by
      intro α o x ho
      cases o with
      | none => exact ho.elim
      | some y => have : y = x := ho; rw [this]
    refine w_some (v := [.agg (mcells 1 1 (.slice (some ⟨h1.length, 0, none⟩) 1 1) (.slice (some ⟨h2.length, 0, none⟩) 1 1) (.slice a3 (eOp l l.length).length c3) (.slice a4 (eCl l l.length).length c4) (.slice a5 (eIn l l.length).length c5)).toArray]) ?_ ?_
    · show (rdRow true 7 (e 2) _).map _ = _
      rw [e2]
      have g := hopt (o := rdRow true 7 (.pointer (some ⟨h.length, 0, none⟩)) _) (w_rdPA (get_set h' hb (.row (spliceL z7 0 (cellsL (.agg (((mcells 1 1 (.slice (some ⟨h1.length, 0, none⟩) 1 1) (.slice (some ⟨h2.length, 0, none⟩) 1 1) (.slice a3 (eOp l l.length).length c3) (.slice a4 (eCl l l.length).length c4) (.slice a5 (eIn l l.length).length c5)).drop 0).take 7).toArray))) true)) (Nat.le_refl 7) rfl)
      rw [g]
      rfl
    · have ne : ∀ j, F j → h.length ≠ j := fun j hj => by have := r.hF j hj; omega
      refine k _ _ _ _ _ _ (hx.set (Nat.le_refl _) _) (Sl.same r.init fun j hj => get_ne (by have := vlt j (.inl hj); have : h1.length = j := hj; omega) _) (Sl.same r.fin fun j hj => get_ne (by have : h2.length = j := hj; omega) _)
        (Sl.same r.op.sl fun j hj => get_ne (ne j (r.op.on hj).1) _) (Sl.same r.cl.sl fun j hj => get_ne (ne j (r.cl.on hj).1) _) (Sl.same r.inn.sl fun j hj => get_ne (ne j (r.inn.on hj).1) _)
end Go.Proofs.Ytebbjimmgblcpaa.W
end

section
/- known, whatever stands below. Conditions: none. -/
namespace Go.Proofs.Ytebbjimmgblcpaa.W
open Go Go.AM FeedM
set_option linter.unusedVariables false
set_option maxRecDepth 100000

theorem ran13_1 : callB Try.prog (orcWithin 18) 10000 30 13 [] (hsD 1) (fun v _ => isTrueV v) = true := by kernel_rfl
theorem ran13_2 : callB Try.prog (orcWithin 18) 10000 30 13 [] (hsD 2) (fun v _ => isTrueV v) = true := by kernel_rfl
theorem ran13_3 : callB Try.prog (orcWithin 18) 10000 30 13 [] (hsD 3) (fun v _ => isTrueV v) = true := by kernel_rfl

theorem known13 {h : AH} {K : Value → AH → Prop} (hm : h.length = 1 ∨ h.length = 2 ∨ h.length = 3) (k : ∀ h', Ex h h' → K (.bool true) h') : callW Try.prog 13 [] h K := by
  have : callW Try.prog 13 [] h fun v h' => v = .bool true ∧ Ex h h' := by
    rcases hm with hm | hm | hm
    · exact run_any (orcWithin_ok within18) 1 (by decide) ran13_1 h hm
    · exact run_any (orcWithin_ok within18) 2 (by decide) ran13_2 h hm
    · exact run_any (orcWithin_ok within18) 3 (by decide) ran13_3 h hm
  refine callW_mono _ _ _ _ _ ?_ this
  rintro v h' ⟨rfl, x⟩
  exact k h' x
end Go.Proofs.Ytebbjimmgblcpaa.W
end

section
/- A word's text, read by a feed: plain mathematics. Conditions: none. -/
namespace Go.Proofs.Ytebbjimmgblcpaa.W
open Go Go.AM FeedM
set_option linter.unusedVariables false
set_option maxRecDepth 100000

def mstep (m : Mach) (l : List Sy) (p : Lv × List Lv) (k : Int) : Lv × List Lv :=
  if kindAt l k.toNat = 1 then (⟨openRow m p.1.row k, k⟩, p.2 ++ [p.1])
  else if kindAt l k.toNat = 2 then (match p.2.getLast? with
    | none => (⟨lowRow m p.1.row k, p.1.bys⟩, p.2)
    | some u => (⟨closeRow m u.row p.1.row p.1.bys k, u.bys⟩, p.2.dropLast))
  else (⟨innerRow m p.1.row k, p.1.bys⟩, p.2)
/-- where a machine is behind a word. -/
def mrun (m : Mach) (l : List Sy) (w : List Int) : Lv × List Lv := w.foldl (mstep m l) (FeedM.begin m, [])
def ostep (l : List Sy) (n : Nat) (k : Int) : Nat := if kindAt l k.toNat = 1 then n + 1 else if kindAt l k.toNat = 2 then n - 1 else n
/-- how many stand open behind a word. -/
def opn (l : List Sy) (w : List Int) : Nat := w.foldl (ostep l) 0

theorem mrun_snoc (m : Mach) (l : List Sy) (w : List Int) (k : Int) : mrun m l (w ++ [k]) = mstep m l (mrun m l w) k := by simp [mrun]
theorem opn_snoc (l : List Sy) (w : List Int) (k : Int) : opn l (w ++ [k]) = ostep l (opn l w) k := by simp [opn]
theorem mstep_len (m : Mach) (l : List Sy) (p : Lv × List Lv) (k : Int) : (mstep m l p k).2.length = ostep l p.2.length k := by
  unfold mstep ostep
  split
  · simp
  split
  · split
    · rename_i h
      rw [List.getLast?_eq_none_iff.1 h]; rfl
    · simp
  · rfl
theorem snoc_ind {α : Type} {P : List α → Prop} (h0 : P []) (h1 : ∀ w k, P w → P (w ++ [k])) : ∀ w, P w := by
  intro w
  have : ∀ n (w : List α), w.length = n → P w := by
    intro n
    induction n with
    | zero => intro w hw; rw [List.length_eq_zero_iff.1 hw]; exact h0
    | succ n ih =>
      intro w hw
      have hne : w ≠ [] := by intro h; rw [h] at hw; cases hw
      have he : w.dropLast ++ [w.getLast hne] = w := List.dropLast_concat_getLast hne
      rw [← he]
      exact h1 _ _ (ih _ (by rw [List.length_dropLast, hw]; rfl))
  exact this _ w rfl
theorem mrun_len (m : Mach) (l : List Sy) : ∀ w, (mrun m l w).2.length = opn l w :=
  snoc_ind rfl fun w k ih => by rw [mrun_snoc, opn_snoc, mstep_len, ih]
theorem opn_le (l : List Sy) : ∀ w, opn l w ≤ w.length :=
  snoc_ind (Nat.le_refl _) fun w k ih => by
    rw [opn_snoc, List.length_append, List.length_singleton]
    unfold ostep
    split
    · omega
    split <;> omega

/-- the symbols' names are single letters, each told once. -/
def okSy (l : List Sy) : Prop := ∀ (i : Nat) (x : Sy), l[i]? = some x → idxOf x l = i ∧ (∃ c, x.1 = [c] ∧ letter c = true) ∧ (x.2 = 1 ∨ x.2 = 2 ∨ x.2 = 3)
def okAt (l : List Sy) (i : Nat) : Bool := match l[i]? with
  | some x => decide (idxOf x l = (i : Int)) && (match x.1 with | [c] => letter c | _ => false) && (decide (x.2 = 1) || decide (x.2 = 2) || decide (x.2 = 3))
  | none => true
theorem okSy_choices : ∀ l ∈ symChoices, okSy l := by
  have h : ∀ l ∈ symChoices, ∀ i, i < l.length → okAt l i = true := by decide
  intro l hl i x hx
  obtain ⟨hi, _⟩ := List.getElem?_eq_some_iff.1 hx
  have h := h l hl i hi
  unfold okAt at h
  rw [hx] at h
  simp only [Bool.and_eq_true, Bool.or_eq_true, decide_eq_true_eq, or_assoc] at h
  obtain ⟨⟨h1, h2⟩, h3⟩ := h
  refine ⟨h1, ?_, h3⟩
  split at h2
  · rename_i c hc; exact ⟨c, hc, h2⟩
  · cases h2
theorem small_choices : ∀ l ∈ symChoices, 0 < l.length ∧ l.length ≤ 7 := by decide

/-- a feed that has read so much: nothing is begun, nothing is wrong. -/
structure Good (l : List Sy) (m : Mach) (d : Int) (w : List Int) (r : Int) (st : FS) : Prop where
  hm : st.m = m
  hl : st.l = l
  deep : st.deep = d
  s : st.s = []
  e : st.e = 0
  word : st.word = w
  read : st.read = r
  place : st.place = 0
  closed : st.closed = false
  lv : (st.now, st.under) = mrun m l w

/-- the same, a plain token at most is begun. -/
structure Pre (l : List Sy) (m : Mach) (d : Int) (w : List Int) (r : Int) (st : FS) : Prop where
  good : Good l m d w r (FeedM.ended st)
  e : st.e = 0
  pend : st.s ≠ [] → ∃ j y, w.getLast? = some j ∧ l[j.toNat]? = some y ∧ y.2 = 3

theorem ended_nil {st : FS} (h : st.s = []) : FeedM.ended st = st := by unfold FeedM.ended; rw [h]
theorem Good.pre {l : List Sy} {m : Mach} {d : Int} {w : List Int} {r : Int} {st : FS} (g : Good l m d w r st) : Pre l m d w r st := ⟨by rw [ended_nil g.s]; exact g, g.e, fun h => (h g.s).elim⟩
theorem Good.under {l : List Sy} {m : Mach} {d : Int} {w : List Int} {r : Int} {st : FS} (g : Good l m d w r st) : st.under.length = opn l w := by
  rw [← mrun_len m l w, ← g.lv]
theorem Good.new (l : List Sy) (m : Mach) (d : Int) : Good l m d [] 0 (FeedM.new l m d) := ⟨rfl, rfl, rfl, rfl, rfl, rfl, rfl, rfl, rfl, rfl⟩

theorem sym_good {l : List Sy} {m : Mach} {d : Int} {w : List Int} {r : Int} {st : FS} {k : Int} {x : Sy} (g : Good l m d w r { st with s := [] }) (hx : l[k.toNat]? = some x) (hk : 0 ≤ k) (ok : okSy l)
    (hd : x.2 = 1 → (opn l w : Int) < d) : Good l m d (w ++ [k]) r (FeedM.sym st x.1 x.2) := by
  obtain ⟨h1, _, h3⟩ := ok _ _ hx
  have hi : idxOf (x.1, x.2) st.l = k := by
    have : st.l = l := g.hl
    rw [this]
    show idxOf x l = k
    rw [h1]; omega
  have hk' : kindAt l k.toNat = x.2 := by unfold kindAt; rw [hx]
  have hu : st.under.length = opn l w := g.under
  have hdp : st.deep = d := g.deep
  have hm : st.m = m := g.hm
  have lv : (st.now, st.under) = mrun m l w := g.lv
  unfold FeedM.sym
  rw [hi, if_neg (by omega), if_neg (by rintro ⟨a, b⟩; have := hd a; omega)]
  dsimp only
  have hr := mrun_snoc m l w k
  rw [← lv] at hr
  unfold mstep at hr
  rw [hk'] at hr
  by_cases q1 : x.2 = 1
  · rw [if_pos q1]
    rw [if_pos q1] at hr
    exact ⟨g.hm, g.hl, g.deep, rfl, g.e, by rw [← g.word]; rfl, g.read, g.place, g.closed, by rw [hr, ← hm]; rfl⟩
  rw [if_neg q1]
  rw [if_neg q1] at hr
  by_cases q2 : x.2 = 2
  · rw [if_pos q2]
    rw [if_pos q2] at hr
    unfold FeedM.closedBy
    dsimp only at hr ⊢
    cases hg : st.under.getLast? with
    | none =>
      rw [hg] at hr
      exact ⟨g.hm, g.hl, g.deep, rfl, g.e, by rw [← g.word], g.read, g.place, g.closed, by rw [hr, ← hm]⟩
    | some u =>
      rw [hg] at hr
      exact ⟨g.hm, g.hl, g.deep, rfl, g.e, by rw [← g.word], g.read, g.place, g.closed, by rw [hr, ← hm]⟩
  · rw [if_neg q2]
    rw [if_neg q2] at hr
    exact ⟨g.hm, g.hl, g.deep, rfl, g.e, by rw [← g.word]; rfl, g.read, g.place, g.closed, by rw [hr, ← hm]; rfl⟩

theorem write_nil (st : FS) : FeedM.write st [] = st := rfl
theorem write_err {st : FS} (h : st.e ≠ 0) : ∀ b, FeedM.write st b = st
  | [] => rfl
  | c :: b => by unfold FeedM.write; rw [if_pos h]
theorem write_cons {st : FS} (h : st.e = 0) (c : UInt8) (b : List UInt8) : FeedM.write st (c :: b) = FeedM.write (FeedM.step st c) b := by
  conv => lhs; unfold FeedM.write
  rw [if_neg (fun g => g h)]
theorem write_app : ∀ (a : List UInt8) (st : FS) (b : List UInt8), FeedM.write st (a ++ b) = FeedM.write (FeedM.write st a) b
  | [], st, b => rfl
  | c :: a, st, b => by
    by_cases h : st.e = 0
    · rw [List.cons_append, write_cons h, write_cons h, write_app a]
    · rw [write_err h, write_err h, write_err h]

def rd1 (st : FS) : FS := { st with read := st.read + 1 }

theorem step_letter {st : FS} {c : UInt8} (hs : st.s = []) (he : st.e = 0) (hc : letter c = true) : FeedM.step st c = rd1 { st with s := [c], at_ := st.read } := by
  obtain ⟨m, now, under, s, at_, l, deep, read, word, e, place, closed⟩ := st
  have hs : s = [] := hs
  have he : e = 0 := he
  subst hs he
  have h3 : ¬ (c = 32 ∨ c = 9 ∨ c = 10) := by
    rintro (rfl | rfl | rfl) <;> exact absurd hc (by decide)
  unfold FeedM.step FeedM.step1 FeedM.first
  rw [hc, if_pos rfl]
  simp [h3, rd1]
theorem lex_open {st : FS} {c : UInt8} (hs : st.s = []) (he : st.e = 0) (hc : letter c = true) : FeedM.write st [60, c, 62] = rd1 (FeedM.sym { st with s := [60, c], at_ := st.read, read := st.read + 2 } [c] 1) := by
  obtain ⟨m, now, under, s, at_, l, deep, read, word, e, place, closed⟩ := st
  have hs : s = [] := hs
  have he : e = 0 := he
  subst hs he
  have h47 : c ≠ 47 := by rintro rfl; exact absurd hc (by decide)
  have hl60 : letter 60 = false := by decide
  have hl62 : letter 62 = false := by decide
  rw [write_cons rfl]
  have e1 : FeedM.step ⟨m, now, under, [], at_, l, deep, read, word, 0, place, closed⟩ 60 = ⟨m, now, under, [60], read, l, deep, read + 1, word, 0, place, closed⟩ := rfl
  rw [e1, write_cons rfl]
  have e2 : FeedM.step ⟨m, now, under, [60], read, l, deep, read + 1, word, 0, place, closed⟩ c = ⟨m, now, under, [60, c], read, l, deep, read + 1 + 1, word, 0, place, closed⟩ := by
    unfold FeedM.step FeedM.step1 FeedM.more
    rw [hc, if_pos rfl]
    simp [fromKind]
  rw [e2, write_cons rfl, write_nil]
  have hk : fromKind [60, c] = (1, 1) := by unfold fromKind; simp [h47]
  have e3 : FeedM.step ⟨m, now, under, [60, c], read, l, deep, read + 1 + 1, word, 0, place, closed⟩ 62 = rd1 (FeedM.more ⟨m, now, under, [60, c], read, l, deep, read + 1 + 1, word, 0, place, closed⟩ 62) := rfl
  rw [e3]
  unfold FeedM.more
  dsimp only
  rw [hk, if_neg (by rw [hl62]; simp), if_pos (by simp)]
  have e4 : read + 1 + 1 = read + 2 := by omega
  rw [e4]
  rfl
theorem lex_close {st : FS} {c : UInt8} (hs : st.s = []) (he : st.e = 0) (hc : letter c = true) : FeedM.write st [60, 47, c, 62] = rd1 (FeedM.sym { st with s := [60, 47, c], at_ := st.read, read := st.read + 3 } [c] 2) := by
  obtain ⟨m, now, under, s, at_, l, deep, read, word, e, place, closed⟩ := st
  have hs : s = [] := hs
  have he : e = 0 := he
  subst hs he
  have hl62 : letter 62 = false := by decide
  rw [write_cons rfl]
  have e1 : FeedM.step ⟨m, now, under, [], at_, l, deep, read, word, 0, place, closed⟩ 60 = ⟨m, now, under, [60], read, l, deep, read + 1, word, 0, place, closed⟩ := rfl
  rw [e1, write_cons rfl]
  have e1' : FeedM.step ⟨m, now, under, [60], read, l, deep, read + 1, word, 0, place, closed⟩ 47 = ⟨m, now, under, [60, 47], read, l, deep, read + 1 + 1, word, 0, place, closed⟩ := rfl
  rw [e1', write_cons rfl]
  have hk2 : fromKind [60, 47] = (2, 2) := by unfold fromKind; simp
  have e2 : FeedM.step ⟨m, now, under, [60, 47], read, l, deep, read + 1 + 1, word, 0, place, closed⟩ c = ⟨m, now, under, [60, 47, c], read, l, deep, read + 1 + 1 + 1, word, 0, place, closed⟩ := by
    unfold FeedM.step FeedM.step1 FeedM.more
    rw [hc, if_pos rfl]
    dsimp only
    rw [hk2]
    simp
  rw [e2, write_cons rfl, write_nil]
  have hk : fromKind [60, 47, c] = (2, 2) := by unfold fromKind; simp
  have e3 : FeedM.step ⟨m, now, under, [60, 47, c], read, l, deep, read + 1 + 1 + 1, word, 0, place, closed⟩ 62 = rd1 (FeedM.more ⟨m, now, under, [60, 47, c], read, l, deep, read + 1 + 1 + 1, word, 0, place, closed⟩ 62) := rfl
  rw [e3]
  unfold FeedM.more
  dsimp only
  rw [hk, if_neg (by rw [hl62]; simp), if_pos (by simp)]
  have e4 : read + 1 + 1 + 1 = read + 3 := by omega
  rw [e4]
  rfl

theorem Good.rd {l : List Sy} {m : Mach} {d : Int} {w : List Int} {r : Int} {st : FS} (g : Good l m d w r st) : Good l m d w (r + 1) (rd1 st) :=
  ⟨g.hm, g.hl, g.deep, g.s, g.e, g.word, by show st.read + 1 = _; rw [g.read], g.place, g.closed, g.lv⟩
theorem Good.tok {l : List Sy} {m : Mach} {d : Int} {w : List Int} {r : Int} {st : FS} (g : Good l m d w r st) (s : List UInt8) (a : Int) (n : Int) : Good l m d w n { { st with s := s, at_ := a, read := n } with s := [] } :=
  ⟨g.hm, g.hl, g.deep, rfl, g.e, g.word, rfl, g.place, g.closed, g.lv⟩

theorem blank_pre {l : List Sy} {m : Mach} {d : Int} {w : List Int} {r : Int} {st : FS} {c : UInt8} (p : Pre l m d w r st) (hc : c = 32 ∨ c = 9 ∨ c = 10) : Good l m d w (r + 1) (FeedM.step st c) := by
  have hl : letter c = false := by rcases hc with rfl | rfl | rfl <;> decide
  have : FeedM.step st c = rd1 (FeedM.ended st) := by
    unfold FeedM.step
    rw [hl, if_neg (by decide)]
    dsimp only
    have : FeedM.step1 (FeedM.ended st) c = FeedM.ended st := by
      unfold FeedM.step1
      rw [if_neg (fun h => h p.good.e), p.good.s]
      dsimp only
      unfold FeedM.first
      rw [if_pos hc]
    rw [this]
    rfl
  rw [this]
  exact p.good.rd

theorem blanks_good {l : List Sy} {m : Mach} {d : Int} {w : List Int} : ∀ {sep : List UInt8} {r : Int} {st : FS}, Good l m d w r st → blanks sep → Good l m d w (r + (sep.length : Nat)) (FeedM.write st sep)
  | [], r, st, g, _ => by simpa [write_nil] using g
  | c :: sep, r, st, g, hb => by
    rw [write_cons g.e]
    have := blanks_good (blank_pre g.pre (hb c (by simp))) (fun c hc => hb c (List.mem_cons_of_mem _ hc))
    have e : r + (((c :: sep).length : Nat) : Int) = r + 1 + ((sep.length : Nat) : Int) := by simp only [List.length_cons]; omega
    rw [e]
    exact this

theorem sign_good {l : List Sy} {m : Mach} {d : Int} {w : List Int} {r : Int} {st : FS} {k : Int} {x : Sy} (g : Good l m d w r st) (hx : l[k.toNat]? = some x) (hk : 0 ≤ k) (ok : okSy l)
    (hd : x.2 = 1 → (opn l w : Int) < d) : Pre l m d (w ++ [k]) (r + ((signOf x).length : Nat)) (FeedM.write st (signOf x)) := by
  obtain ⟨_, ⟨c, h2, hc⟩, h3⟩ := ok _ _ hx
  unfold signOf
  by_cases q1 : x.2 = 1
  · rw [if_pos q1, h2]
    show Pre l m d (w ++ [k]) (r + 3) (FeedM.write st [60, c, 62])
    rw [lex_open g.s g.e hc]
    have s := sym_good (k := k) (g.tok [60, c] st.read (r + 2)) hx hk ok hd
    rw [h2, q1] at s
    have e : r + 3 = (r + 2) + 1 := by omega
    rw [e, g.read]
    rw [g.read] at s
    exact s.rd.pre
  rw [if_neg q1]
  by_cases q2 : x.2 = 2
  · rw [if_pos q2, h2]
    show Pre l m d (w ++ [k]) (r + 4) (FeedM.write st [60, 47, c, 62])
    rw [lex_close g.s g.e hc]
    have s := sym_good (k := k) (g.tok [60, 47, c] st.read (r + 3)) hx hk ok hd
    rw [h2, q2] at s
    have e : r + 4 = (r + 3) + 1 := by omega
    rw [e, g.read]
    rw [g.read] at s
    exact s.rd.pre
  · rw [if_neg q2, h2]
    have q3 : x.2 = 3 := h3.elim (fun h => (q1 h).elim) fun h => h.elim (fun h => (q2 h).elim) id
    rw [write_cons g.e, write_nil, step_letter g.s g.e hc]
    show Pre l m d (w ++ [k]) (r + 1) _
    refine ⟨?_, g.e, fun _ => ⟨k, x, by simp, hx, q3⟩⟩
    have s := sym_good (k := k) (g.tok [c] st.read (r + 1)) hx hk ok hd
    rw [h2, q3] at s
    have : FeedM.ended (rd1 { st with s := [c], at_ := st.read }) = FeedM.sym { st with s := [c], at_ := st.read, read := r + 1 } [c] 3 := by
      unfold FeedM.ended rd1
      dsimp only
      rw [if_pos hc, g.read]
    rw [this]
    exact s

theorem step_ended {l : List Sy} {m : Mach} {d : Int} {w : List Int} {r : Int} {st : FS} (p : Pre l m d w r st) {c : UInt8} (hc : letter c = false) : FeedM.step st c = FeedM.step (FeedM.ended st) c := by
  unfold FeedM.step
  rw [hc, if_neg (by decide), if_neg (by decide), ended_nil p.good.s]

/-- no deeper than may be. -/
def Low (l : List Sy) (d : Int) (w : List Int) : Prop := ∀ n, (opn l (w.take n) : Int) ≤ d
theorem Low.of_len {l : List Sy} {d : Int} {w : List Int} (h : (w.length : Int) ≤ d) : Low l d w := fun n => by
  have := opn_le l (w.take n)
  rw [List.length_take] at this
  omega
theorem Low.init {l : List Sy} {d : Int} {w : List Int} {k : Int} (h : Low l d (w ++ [k])) : Low l d w := fun n => by
  by_cases q : n ≤ w.length
  · have := h n
    rwa [List.take_append_of_le_length q] at this
  · have := h w.length
    rw [List.take_append_of_le_length (Nat.le_refl _), List.take_length] at this
    rwa [List.take_of_length_le (by omega)]
theorem Low.last {l : List Sy} {d : Int} {w : List Int} (h : Low l d w) : (opn l w : Int) ≤ d := by
  have := h w.length
  rwa [List.take_length] at this

theorem text_pre {l : List Sy} {m : Mach} {d : Int} {w : List Int} {s : List UInt8} (ok : okSy l) (t : TextOf l w s) : Low l d w → Pre l m d w (s.length : Nat) (FeedM.write (FeedM.new l m d) s) := by
  induction t with
  | nil => exact fun _ => (Good.new l m d).pre
  | @snoc w s sep k x t hx hk hb hc ih =>
    intro low
    have p := ih low.init
    have hd : x.2 = 1 → (opn l w : Int) < d := by
      intro q
      have := low.last
      rw [opn_snoc] at this
      unfold ostep at this
      have hk' : kindAt l k.toNat = x.2 := by unfold kindAt; rw [hx]
      rw [hk', if_pos q] at this
      omega
    have he : ((s ++ (sep ++ signOf x)).length : Int) = (s.length : Int) + (sep.length : Nat) + ((signOf x).length : Nat) := by simp only [List.length_append]; omega
    rw [he, write_app]
    generalize FeedM.write (FeedM.new l m d) s = st at *
    cases sep with
    | cons c sep =>
      rw [List.cons_append, write_cons p.e, write_app]
      have g := blank_pre p (hb c (by simp))
      have g := blanks_good (sep := sep) g fun c hc => hb c (List.mem_cons_of_mem _ hc)
      have e1 : ((s.length : Nat) : Int) + (((c :: sep).length : Nat) : Int) = ((s.length : Nat) : Int) + 1 + ((sep.length : Nat) : Int) := by simp only [List.length_cons]; omega
      rw [e1]
      exact sign_good g hx hk ok hd
    | nil =>
      rw [List.nil_append]
      have e1 : ((s.length : Nat) : Int) + ((([] : List UInt8).length : Nat) : Int) = (s.length : Nat) := by simp
      rw [e1]
      by_cases q : st.s = []
      · have g := p.good
        rw [ended_nil q] at g
        exact sign_good g hx hk ok hd
      · obtain ⟨j, y, h1, h2, h3⟩ := p.pend q
        have q3 : x.2 ≠ 3 := fun h => hc j y h1 h2 h h3 rfl
        have : FeedM.write st (signOf x) = FeedM.write (FeedM.ended st) (signOf x) := by
          obtain ⟨_, ⟨c, hn, hl⟩, h4⟩ := ok _ _ hx
          have : ∃ r, signOf x = 60 :: r := by
            unfold signOf
            rcases h4 with h4 | h4 | h4
            · rw [if_pos h4]; exact ⟨_, rfl⟩
            · rw [if_neg (by omega), if_pos h4]; exact ⟨_, rfl⟩
            · exact (q3 h4).elim
          obtain ⟨r, hr⟩ := this
          rw [hr, write_cons p.e, write_cons p.good.e, step_ended p (by decide)]
        rw [this]
        exact sign_good p.good hx hk ok hd

theorem Pre.shut {l : List Sy} {m : Mach} {d : Int} {w : List Int} {r : Int} {st : FS} (p : Pre l m d w r st) :
    (FeedM.shut st).e = 0 ∧ (FeedM.shut st).place = 0 ∧ (FeedM.shut st).word = w ∧ (FeedM.shut st).m = m ∧ (FeedM.shut st).now = (mrun m l w).1 ∧ (FeedM.shut st).under.length = opn l w := by
  have : FeedM.shut st = { FeedM.ended st with closed := true } := by
    unfold FeedM.shut FeedM.shut1
    rw [if_pos p.e]
    unfold FeedM.shut2
    rw [p.good.s]
  rw [this]
  have g := p.good
  refine ⟨g.e, g.place, g.word, g.hm, ?_, g.under⟩
  show (FeedM.ended st).now = _
  rw [← g.lv]
end Go.Proofs.Ytebbjimmgblcpaa.W
end

section
/- A feed of the machine that takes all: made, written to: walks. Conditions: none. -/
namespace Go.Proofs.Ytebbjimmgblcpaa.W
open Go Go.AM FeedM
set_option linter.unusedVariables false
set_option maxRecDepth 100000

abbrev I64 (n : Int) : Prop := -9223372036854775808 ≤ n ∧ n ≤ 9223372036854775807
abbrev U8 (n : Int) : Prop := 0 ≤ n ∧ n ≤ 255
theorem FR.lt {h : AH} {f : Nat} {st : FS} {F : Nat → Prop} (r : FR h f st F) : ∀ j, F j → j < h.length := by
  obtain ⟨V, _, b⟩ := r
  exact b.lt

theorem each_small : ∀ l ∈ symChoices, (Uof (eachM l)).length ≤ 40 ∧ (eachM l).final.length ≤ 2 ∧ (eachM l).init.length ≤ 2 ∧ (eachM l).opens.length ≤ 40 ∧ (eachM l).closes.length ≤ 40 ∧ (eachM l).inners.length ≤ 40 := by decide

theorem big40 : (10000000 : Nat) < room40 := by decide

theorem fit_each {l : List Sy} (lc : l ∈ symChoices) (d : Int) : Fit (FeedM.new l (eachM l) d) 1000000 := by
  have h := each_small l lc
  have := small_choices l lc
  have := big40
  exact Fit.new (by omega) (by omega) (by omega) (by omega)

/-- a machine's value -/
def MV (h : AH) (v : Value) (m : Mach) : Prop := ∃ vi vf vo vc vn, v = .agg (mcells m.n m.g vi vf vo vc vn).toArray ∧ Ints h vi m.init ∧ Ints h vf m.final ∧ SlT 4 e4 h vo m.opens ∧ SlT 4 e4 h vc m.closes ∧ SlT 3 e3 h vn m.inners
theorem MV.ex {h h' : AH} {v : Value} {m : Mach} (hv : MV h v m) (x : Ex h h') : MV h' v m := by
  obtain ⟨vi, vf, vo, vc, vn, e, p1, p2, p3, p4, p5⟩ := hv
  exact ⟨vi, vf, vo, vc, vn, e, p1.ex x, p2.ex x, p3.ex x, p4.ex x, p5.ex x⟩

theorem eachA {h : AH} {v0 : Value} {l : List Sy} {K : Value → AH → Prop} (hl : Syms h v0 l) (lc : l ∈ symChoices)
    (k : ∀ h' vm, Ex h h' → MV h' vm (eachM l) → K vm h') : callW Try.prog 32 [v0] h K := by
  have := small_choices l lc
  refine each32 hl (by omega) fun h1 vi vf vo vc vn x1 p1 p2 p3 p4 p5 => ?_
  exact k h1 _ x1 ⟨vi, vf, vo, vc, vn, rfl, p1, p2, p3, p4, p5⟩

theorem newA {h : AH} {v0 vm : Value} {l : List Sy} {m : Mach} {deep : Int} {K : Value → AH → Prop} (hl : Syms h v0 l) (hm : MV h vm m)
    (bl : l.length < room40) (b1 : m.init.length < room40) (b2 : m.final.length < room40) (b3 : m.opens.length < room40) (b4 : m.closes.length < room40) (b5 : m.inners.length < room40)
    (k : ∀ h' f F', Ex h h' → FR h' f (FeedM.new l m deep) F' → (∀ j, F' j → h.length ≤ j) → K (.pointer (some ⟨f, 0, none⟩)) h') :
    callW Try.prog 22 [v0, vm, .int .i64 deep] h K := by
  obtain ⟨vi, vf, vo, vc, vn, rfl, p1, p2, p3, p4, p5⟩ := hm
  exact new22 hl p1 p2 p3 p4 p5 bl b1 b2 b3 b4 b5 k

theorem newE {h : AH} {v0 vm : Value} {l : List Sy} {deep : Int} {K : Value → AH → Prop} (hl : Syms h v0 l) (hm : MV h vm (eachM l)) (lc : l ∈ symChoices)
    (k : ∀ h' f F', Ex h h' → FR h' f (FeedM.new l (eachM l) deep) F' → (∀ j, F' j → h.length ≤ j) → K (.pointer (some ⟨f, 0, none⟩)) h') :
    callW Try.prog 22 [v0, vm, .int .i64 deep] h K := by
  have q := each_small l lc
  have := small_choices l lc
  have := big40
  exact newA hl hm (by omega) (by omega) (by omega) (by omega) (by omega) (by omega) k

theorem writeS {h : AH} {f : Nat} {st : FS} {F : Nat → Prop} {s : List UInt8} {b : Nat} {K : Value → Value → AH → Prop} (r : FR h f st F) (ft : Fit st (5 * s.length + b)) (hcl : st.closed = false)
    (k : ∀ v h' F', FR h' f (FeedM.write st s) F' → Chg F h F' h' → K v (.tuple #[.int .i64 (FeedM.write st s).place, .int .i64 (FeedM.write st s).e]) h') :
    strB (.string (bs s)) none h fun v h9 => callW Try.prog 23 [.pointer (some ⟨f, 0, none⟩), v] h9 (K v) := by
  have := ft.sb
  refine w_strB (by omega) fun v h2 x2 l2 sv id2 => ?_
  have lt1 := r.lt
  exact write23 (r.ex x2) ft hcl sv (fun j hj hF => by have := id2 j hj; have := lt1 j hF; omega) fun h3 F3 r3 c3 => k v h3 F3 r3 ((Chg.ex x2).trans c3)

/-- the state behind so many bytes of a text -/
theorem write_snoc (st : FS) (t : List UInt8) (i : Nat) (c : UInt8) (h : t[i]? = some c) : FeedM.write (FeedM.write st (t.take i)) [c] = FeedM.write st (t.take (i + 1)) := by
  rw [← write_app, ← take_succ_get h]

theorem slB1 {h : AH} {c : UInt8} {cs : List Value} (hc : cs = eB c) : SlT 1 eB (h ++ [.row cs true]) (.slice (some ⟨h.length, 0, none⟩) 1 1) [c] := by
  subst hc
  exact ⟨rfl, .inr ⟨h.length, 0, 1, rfl, .inl ⟨(by decide : 1 < openCap), Nat.le_refl 1⟩, .inr ⟨_, true, get_new _ _, Nat.le_refl 1, rfl⟩⟩⟩

theorem writeB {h : AH} {f : Nat} {st : FS} {F : Nat → Prop} {c : UInt8} {cs : List Value} {b : Nat} {K : Value → AH → Prop} (hc : cs = eB c) (r : FR h f st F) (ft : Fit st (5 + b)) (hcl : st.closed = false)
    (k : ∀ h' F', FR h' f (FeedM.write st [c]) F' → Chg F h F' h' → K (.tuple #[.int .i64 (FeedM.write st [c]).place, .int .i64 (FeedM.write st [c]).e]) h') :
    callW Try.prog 23 [.pointer (some ⟨f, 0, none⟩), .slice (some ⟨h.length, 0, none⟩) 1 1] (h ++ [.row cs true]) K := by
  have x : Ex h (h ++ [.row cs true]) := .app _ _
  have lt1 := r.lt
  refine write23 (bs := [c]) (b := b) (r.ex x) ft hcl (slB1 hc) (fun j hj hF => ?_) fun h3 F3 r3 c3 => k h3 F3 r3 ((Chg.ex x).trans c3)
  have : h.length = j := hj
  have := lt1 j hF
  omega

theorem sym_none {st : FS} {n : List UInt8} {k : Int} (h : idxOf (n, k) st.l < 0) : FeedM.sym st n k = FeedM.wrong { st with s := [] } 12 st.at_ := by
  unfold FeedM.sym
  rw [if_pos h]

theorem zz_none : ∀ l ∈ symChoices, idxOf ([122, 122], 1) l < 0 ∧ idxOf ([122, 122], 3) l < 0 := by decide

def soonTs : List (List UInt8) := [[63], [60, 63], [60, 97, 63], [60, 122, 122, 62], [122, 122, 63], [97, 98, 99, 100, 101, 102, 103, 104, 105], [60, 47, 97, 47]]

theorem soon_at {l : List Sy} (lc : l ∈ symChoices) : ∀ (t : List UInt8), t ∈ soonTs → ∀ st : FS, st.l = l → st.s = [] → st.e = 0 →
    (FeedM.write st t.dropLast).e = 0 ∧ (FeedM.write st t).e = 12 ∧ (FeedM.write st t).place = st.read := by
  intro t ht st hl hs he
  obtain ⟨z1, z2⟩ := zz_none l lc
  obtain ⟨m, now, under, s, at_, l', deep, read, word, e, place, closed⟩ := st
  have hl : l' = l := hl
  have hs : s = [] := hs
  have he : e = 0 := he
  subst hl hs he
  unfold soonTs at ht
  simp only [List.mem_cons, List.not_mem_nil, or_false] at ht
  rcases ht with rfl | rfl | rfl | rfl | rfl | rfl | rfl
  · exact ⟨by kernel_rfl, by kernel_rfl, by kernel_rfl⟩
  · exact ⟨by kernel_rfl, by kernel_rfl, by kernel_rfl⟩
  · exact ⟨by kernel_rfl, by kernel_rfl, by kernel_rfl⟩
  · have e1 : FeedM.write ⟨m, now, under, [], at_, l', deep, read, word, 0, place, closed⟩ [60, 122, 122, 62] = rd1 (FeedM.sym ⟨m, now, under, [60, 122, 122], read, l', deep, read + 1 + 1 + 1, word, 0, place, closed⟩ [122, 122] 1) := by kernel_rfl
    rw [e1, sym_none z1]
    exact ⟨by kernel_rfl, by kernel_rfl, by kernel_rfl⟩
  · have e1 : FeedM.write ⟨m, now, under, [], at_, l', deep, read, word, 0, place, closed⟩ [122, 122, 63] = rd1 (FeedM.step1 (FeedM.sym ⟨m, now, under, [122, 122], read, l', deep, read + 1 + 1, word, 0, place, closed⟩ [122, 122] 3) 63) := by kernel_rfl
    rw [e1, sym_none z2]
    exact ⟨by kernel_rfl, by kernel_rfl, by kernel_rfl⟩
  · exact ⟨by kernel_rfl, by kernel_rfl, by kernel_rfl⟩
  · exact ⟨by kernel_rfl, by kernel_rfl, by kernel_rfl⟩

theorem write_e0 {st : FS} {t : List UInt8} {i : Nat} (h : (FeedM.write st t.dropLast).e = 0) (hi : i < t.length) : (FeedM.write st (t.take i)).e = 0 := by
  refine Classical.byContradiction fun g => ?_
  have : t.dropLast = t.take i ++ t.dropLast.drop i := by
    conv => lhs; rw [← List.take_append_drop i t.dropLast]
    rw [List.dropLast_eq_take, List.take_take, Nat.min_eq_left (by omega)]
  rw [this, write_app, write_err g] at h
  exact g h
end Go.Proofs.Ytebbjimmgblcpaa.W
end

section
/- FeedSoon: the walk. Conditions: none. -/
namespace Go.Proofs.Ytebbjimmgblcpaa.W
open Go Go.AM FeedM
set_option linter.unusedVariables false
set_option maxRecDepth 100000

theorem w_bneq {p q : Prop} [Decidable p] [Decidable q] {K : Value → Prop} (k : K (.bool (decide (¬ (p ↔ q))))) : optW (pBin Try.prog .neq 4 (.bool (decide p)) (.bool (decide q))) K := by
  refine w_some (v := .bool (decide (¬ (p ↔ q)))) ?_ k
  by_cases h1 : p <;> by_cases h2 : q <;> simp [h1, h2] <;> rfl
theorem wordOf_len (n : Nat) (ns : List Int) (most : Nat) : (wordOf n ns most).length ≤ most := by
  unfold wordOf
  rw [List.length_map, List.length_take]
  omega
theorem wordOf_in {n : Nat} (hn : 0 < n) (ns : List Int) (most : Nat) : ∀ k ∈ wordOf n ns most, 0 ≤ k ∧ k < (n : Int) := by
  intro k hk
  unfold wordOf at hk
  obtain ⟨x, _, rfl⟩ := List.mem_map.1 hk
  exact ⟨Int.emod_nonneg _ (by omega), Int.emod_lt_of_pos _ (by omega)⟩
theorem names1 : ∀ l ∈ symChoices, ∀ x ∈ l, x.1.length = 1 := by decide

theorem strs_new {h : AH} {l : List (List UInt8)} {n : Nat} {c : List Value} (hc : c = flat eS l) (hn : n = l.length) (hl : l.length < 100) : SlT 1 eS (h ++ [.row c true]) (.slice (some ⟨h.length, 0, none⟩) n n) l := by
  subst hc hn
  refine ⟨flat_length eS_len l, .inr ⟨h.length, 0, _, rfl, .inl ⟨?_, Nat.le_refl _⟩, .inr ⟨_, true, get_new _ _, ?_, ?_⟩⟩⟩
  · have : (100 : Nat) < openCap := by decide
    omega
  · rw [flat_length eS_len]; omega
  · rw [List.drop_zero]
    have := flat_length eS_len l
    rw [← this, List.take_length]

end Go.Proofs.Ytebbjimmgblcpaa.W
end
