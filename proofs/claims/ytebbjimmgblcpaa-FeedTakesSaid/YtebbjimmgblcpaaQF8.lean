/- The feed's machine goes on by a symbol that closes: the walk. Conditions: none. -/
import Derived.Test.YtebbjimmgblcpaaQF7
namespace Go.Proofs.Ytebbjimmgblcpaa.W
open Go Go.AM FeedM
set_option linter.unusedVariables false
set_option maxRecDepth 100000

theorem Lvs.unsnoc {h : AH} : ∀ {l : List (Nat × Int)} {m : List Lv} {a : Nat × Int} {c : Lv}, Lvs h (l ++ [a]) (m ++ [c]) → Lvs h l m ∧ a.2 = c.bys ∧ SetP h a.1 c.row
  | [], [], a, c, ⟨h1, h2, _⟩ => ⟨trivial, h1, h2⟩
  | [], x :: m, a, c, ⟨_, _, h3⟩ => by
    have := lvs_length h3
    simp at this
  | y :: l, [], a, c, ⟨_, _, h3⟩ => by
    have := lvs_length h3
    simp at this
  | y :: l, x :: m, a, c, ⟨h1, h2, h3⟩ => by
    obtain ⟨q1, q2⟩ := Lvs.unsnoc h3
    exact ⟨⟨h1, h2, q1⟩, q2⟩

theorem popunder {h : AH} {f : Nat} {V : FV} {st : FS} {F : Nat → Prop} {v' : Value} {ul' : List (Nat × Int)} {x : Nat × Int} {us : List Lv} {u : Lv} (b : FRB h f V st F) (e1 : V.ul = ul' ++ [x]) (e2 : st.under = us ++ [u]) (ou : OwnG 2 F h v' ul'.length (flat eL ul')) (hid : ∀ j, onId v' j → onId V.vu j) :
    FRB h f { V with vu := v', ul := ul' } { st with under := us } F := by
  have hl := b.lvs
  rw [e1, e2] at hl
  have old : ∀ j, rIds { V with vu := v', ul := ul' } j → rIds V j := by
    intro j hj
    rcases hj with h | h | h | h | h | h | h | h
    · exact .inl h
    · exact .inr (.inl h)
    · exact .inr (.inr (.inl h))
    · exact .inr (.inr (.inr (.inl h)))
    · exact .inr (.inr (.inr (.inr (.inl h))))
    · exact .inr (.inr (.inr (.inr (.inr (.inl h)))))
    · exact .inr (.inr (.inr (.inr (.inr (.inr (.inl h))))))
    · refine .inr (.inr (.inr (.inr (.inr (.inr (.inr ?_))))))
      rw [e1, List.map_append, List.mem_append]
      exact .inl h
  have oldw : ∀ j, wIds f { V with vu := v', ul := ul' } j → wIds f V j := by
    intro j hj
    rcases hj with h | h | h | h
    · exact .inl h
    · exact .inr (.inl h)
    · exact .inr (.inr (.inl h))
    · exact .inr (.inr (.inr (hid j h)))
  exact { init := b.init, final := b.final, opens := b.opens, closes := b.closes, inners := b.inners, now := b.now, under := ou, lvs := (Lvs.unsnoc hl).1, s := b.s, l := b.l, word := b.word, ff := b.ff
          rF := fun j hj => b.rF j (old j hj), lt := b.lt, sep := fun j hw hj => b.sep j (oldw j hw) (old j hj), sf := ⟨b.sf.1, b.sf.2.1, fun h => b.sf.2.2 (hid f h)⟩
          sw := fun j hj => ⟨(b.sw j hj).1, fun h => (b.sw j hj).2 (hid j h)⟩, wu := fun j hj h => b.wu j hj (hid j h) }

/-- what one open rule brings. -/
def bring (m : Mach) (now : Row) (k : Int) (t : Int × Int × Int × Int) (q : Int × Int) (cl : List (Int × Int × Int × Int)) : Prop := ∃ c ∈ cl, c.2.1 = k ∧ c.2.2.1 = t.2.2.2 ∧ now (t.2.2.1, c.1) ∧ c.2.2.2 = q.2
theorem closeRow_grow {m : Mach} {D now : Row} {p : Int × Int} {bys k : Int} {q : Int × Int} : closeRow m (fun y => D y ∨ y = p) now bys k q ↔ closeRow m D now bys k q ∨ p.1 = q.1 ∧ ∃ o ∈ m.opens, o.1 = p.2 ∧ o.2.1 = bys ∧ bring m now k o q m.closes := by
  unfold closeRow bring
  obtain ⟨p1, p2⟩ := p
  constructor
  · rintro ⟨b, h | h, o, ho, h1, h2⟩
    · exact .inl ⟨b, h, o, ho, h1, h2⟩
    · cases h
      exact .inr ⟨rfl, o, ho, h1, h2⟩
  · rintro (⟨b, h, o, ho, h1, h2⟩ | ⟨h, o, ho, h1, h2⟩)
    · exact ⟨b, .inl h, o, ho, h1, h2⟩
    · exact ⟨p2, .inr (by simp only at h; rw [← h]), o, ho, h1, h2⟩
theorem closeRow_congr {m : Mach} {S D now : Row} {bys k : Int} (h : ∀ x, S x ↔ D x) {q : Int × Int} : closeRow m S now bys k q ↔ closeRow m D now bys k q := by
  have : S = D := funext fun x => propext (h x)
  rw [this]

theorem list_last {α : Type} (l : List α) (h : l ≠ []) : ∃ a x, l = a ++ [x] := ⟨l.dropLast, l.getLast h, (List.dropLast_concat_getLast h).symm⟩

theorem close71 {h : AH} {f : Nat} {st : FS} {F : Nat → Prop} {k : Int} {U : List Int} {K : Value → AH → Prop} (r : FR h f st F) (hb1 : st.m.opens.length < room40) (hb2 : st.m.closes.length < room40) (hb3 : st.under.length < room40) (hU : ∀ p, st.now.row p → p.2 ∈ U) (hUl : U.length + 2 < room40)
    (kk : ∀ h' F', FR h' f (closedBy st k) F' → Chg F h F' h' → K (.tuple #[]) h') : callW Try.prog 71 [.pointer (some ⟨f, 0, none⟩), .int .i64 k] h K := by
  have r0 := r
  obtain ⟨V, hr, b⟩ := r
  have hul := lvs_length b.lvs
  refine c71 ?_
  unfold s71
  refine w_nilc (w_offP (w_rdP hr (v := V.vu) rfl ?_))
  refine w_len b.under.sl ?_
  refine w_eql ?_
  refine c_dec (fun hc => ?_) (fun hc => ?_)
  · refine lowest75 r0 hb2 fun h' F' r' c' => kk h' F' ?_ c'
    have he : st.under = [] := List.eq_nil_of_length_eq_zero (by omega)
    have e2 : closedBy st k = { st with now := ⟨lowRow st.m st.now.row k, st.now.bys⟩ } := by
      unfold closedBy
      simp [he]
    rw [e2]
    exact r'
  obtain ⟨us, u, hus⟩ := list_last st.under (fun e => by rw [e] at hul; exact hc (by rw [hul]; rfl))
  obtain ⟨ul', x, hux⟩ := list_last V.ul (fun e => by rw [e] at hc; simp at hc)
  have hlen : V.ul.length = ul'.length + 1 := by rw [hux]; simp
  have hlv := b.lvs
  rw [hux, hus] at hlv
  obtain ⟨_, hbx, hsx⟩ := Lvs.unsnoc hlv
  unfold room40 at hb1 hb2 hb3 hUl
  have hlt := lt_of_get hr
  refine w_nilc (w_offP (w_rdP ((Ex.res h).some hr) (v := V.vu) rfl ?_))
  refine w_nilc (w_offP (w_rdP ((Ex.res h).some hr) (v := V.vu) rfl ?_))
  refine w_len b.under.sl ?_
  refine w_sub (by omega) (by omega) ?_
  have e0 : ((V.ul.length : Nat) : Int) - 1 = ((ul'.length : Nat) : Int) := by omega
  rw [e0]
  have hat : V.ul[ul'.length]? = some x := by rw [hux]; simp
  refine w_idxN (enc := eL) eL_len (b.under.sl.ex (Ex.res h)) hat fun p hp => ?_
  refine w_rdA hp rfl ?_
  refine n_varS rfl rfl rfl fun h3 x3 l3 g3 => ?_
  refine w_nilc (w_offP (w_rdP (x3.some hr) (v := V.vu) rfl ?_))
  refine w_nilc (w_offP (w_rdP (x3.some hr) (v := V.vu) rfl ?_))
  refine w_len b.under.sl ?_
  refine w_sub (by omega) (by omega) ?_
  rw [e0]
  have b3 := b.same (h' := h3) x3.len (fun j hj => x3.get j (b.lt j (b.rF j hj))) (fun j hj => x3.get j (b.lt j (by
    rcases hj with h | h | h
    · exact (b.s.on h).1
    · exact (b.word.on h).1
    · exact (b.under.on h).1)))
  refine cut_g b3.under (by omega) fun v' ov hid => ?_
  refine w_nilc (w_offP ?_)
  obtain ⟨va, vcap, hve⟩ := ov.sl.shape
  have ov' : OwnG 2 F h3 v' ul'.length (flat eL ul') := by
    have : (flat eL V.ul).take (ul'.length * 2) = flat eL ul' := by
      rw [hux, flat_append, ← flat_length eL_len ul', List.take_left]
    rw [this] at ov
    exact ov
  have b3' := popunder b3 hux hus ov' hid
  subst hve
  refine w_stP (x3.some hr) (by simp [rowOf]) rfl rfl ?_
  have hr4 : (h3.set f (.row ((rowOf V st).set (0 + 9) (.slice va ul'.length vcap)) true))[f]? = some (.row (rowOf { V with vu := .slice va ul'.length vcap, ul := ul' } { st with under := us }) true) := by
    rw [get_set _ (x3.lt hlt)]
    rfl
  have b4 := b3'.setf (.row ((rowOf V st).set (0 + 9) (.slice va ul'.length vcap)) true)
  have g4 : (h3.set f (.row ((rowOf V st).set (0 + 9) (.slice va ul'.length vcap)) true))[h.length]? = some (.row (eL x) true) := by rw [get_ne (by omega)]; exact g3
  have l4 : (h3.set f (.row ((rowOf V st).set (0 + 9) (.slice va ul'.length vcap)) true)).length = h.length + 1 := by simp [l3]
  have sx4 : SetP (h3.set f (.row ((rowOf V st).set (0 + 9) (.slice va ul'.length vcap)) true)) x.1 u.row := (hsx.ex x3).same (get_ne (by
    rintro rfl
    exact b.sep _ (.inl rfl) (.inr (.inr (.inr (.inr (.inr (.inr (.inr (by rw [hux]; simp)))))))) ) _)
  have c4 : Chg F h F (h3.set f (.row ((rowOf V st).set (0 + 9) (.slice va ul'.length vcap)) true)) := ⟨by omega, fun j hj hF => by rw [get_ne (fun e => hF (by rw [← e]; exact b.ff))]; exact x3.get j hj, fun j hj => .inl hj⟩
  generalize h3.set f (.row ((rowOf V st).set (0 + 9) (.slice va ul'.length vcap)) true) = h4 at *
  generalize hV1 : ({ V with vu := .slice va ul'.length vcap, ul := ul' } : FV) = V1 at *
  have hst1 : closedBy st k = { st with under := us, now := ⟨closeRow st.m u.row st.now.row st.now.bys k, u.bys⟩ } := by
    unfold closedBy
    rw [hus]
    simp
  rw [hst1] at kk
  have hmiV : V1.mi = V.mi := by rw [← hV1]
  have hbys : Value.int .i64 ({ st with under := us } : FS).now.bys = .int .i64 st.now.bys := rfl
  have hlt4 := lt_of_get hr4
  refine n_map0 fun h5 x5 l5 g5 => ?_
  refine w_nilc (w_offP (w_offP (w_rdP (x5.some hr4) (v := .map (some V1.mi)) rfl ?_)))
  refine range_set Try.underlying88 (b4.now.ex x5) fun o m0 hi => ?_
  have x6 : Ex h5 (h5 ++ [o]) := .app _ _
  have l6 : (h5 ++ [o]).length = h5.length + 1 := by simp
  have he0 : EndsM (h5 ++ [o]) h4.length h5.length (fun _ => False) := ⟨[], 0, x6.some g5, List.Pairwise.nil, (fun t ht => by cases ht), (fun a x hx => hx.elim), fun t ht => by cases ht⟩
  generalize h5 ++ [o] = h6 at *
  refine loopE_intro (fun m e h' => ∃ D : Row, e 0 = .pointer (some ⟨f, 0, none⟩) ∧ e 1 = .int .i64 k ∧ e 4 = .pointer (some ⟨h.length, 0, none⟩) ∧ e 5 = .map (some h4.length) ∧ e 54 = .pointer (some ⟨h5.length, 0, none⟩) ∧
    Ex h4 h' ∧ h5.length < h'.length ∧ EndsM h' h4.length h5.length D ∧ (∀ q, D q → st.now.row q) ∧ IterM eP one1 h' h5.length V1.mi st.now.row D m) m0
    ⟨fun _ => False, rfl, rfl, rfl, rfl, rfl, x5.trans x6, by omega, he0, fun q hq => hq.elim, hi⟩ ?_
  rintro I m e h7 ⟨D, e0', e1, e4', e5, e54, hx, hrl, hE, hDS, hit⟩ hI
  rw [e54, e5, e4']
  have hmi : V1.mi < h4.length := b4.now.lt
  refine next_set hit (fun p o' m' hp hnd hm' hit' hent => ?_) (fun hall => ?_)
  · have y1 : Ex h4 (h7.set h5.length o') := hx.set (by omega) _
    have yE : EndsM (h7.set h5.length o') h4.length h5.length D := hE.keep (get_ne (by omega) _) (fun j hj _ => get_ne (by omega) _)
    have yl : h5.length < (h7.set h5.length o').length := by simpa using hrl
    generalize h7.set h5.length o' = h8 at *
    refine w_some rfl (c_t ?_)
    refine w_some hent (w_some rfl ?_)
    refine n_var rfl rfl rfl fun h9 x9 l9 g9 => ?_
    have g9r := (Ex.res h9).some g9
    refine w_offP (w_rdP g9r (v := .int .i64 p.1) rfl ?_)
    refine w_offP (w_rdP g9r (v := .int .i64 p.1) rfl ?_)
    obtain ⟨l, ck, q1, q2, q3, q4, q5⟩ := yE
    have q1' : (reserve 1 h9)[h4.length]? = some (.map (encE eInt l) ck) := (Ex.res h9).some (x9.some q1)
    have lk : optW (pLookup Try.prog 125 (.map (some h4.length)) (.int .i64 p.1) false (reserve 1 h9)) fun v => ∃ lb : List Int, ((∃ t ∈ l, t.1 = p.1 ∧ t.2.1 = v) ∨ v = .slice none 0 0 ∧ ∀ t ∈ l, t.1 ≠ p.1) ∧ OwnG 1 (fun j => h5.length < j) h8 v lb.length (flat eI lb) ∧ lb.Nodup ∧ ∀ x, x ∈ lb ↔ D (p.1, x) := by
      refine lookup_rule (enc := eInt) (x := p.1) Try.underlying125 zero22 keyI q1' (fun t ht hta => ?_) (fun hno => ?_)
      · obtain ⟨lb, w1, w2, w3⟩ := q3 t ht
        exact ⟨lb, .inl ⟨t, ht, hta, rfl⟩, w1, w2, by rw [← hta]; exact w3⟩
      · refine ⟨[], .inr ⟨rfl, hno⟩, OwnG.nil _ _ _, List.nodup_nil, fun x => ⟨fun hx => (by cases hx), fun hx => ?_⟩⟩
        obtain ⟨t, ht, e⟩ := q4 p.1 x hx
        exact absurd e (hno t ht)
    obtain ⟨v, hv0, lb, hv, ho, hn, hlb⟩ := optW_elim lk
    refine w_some hv0 ?_
    refine w_offP (w_rdP g9r (v := .int .i64 p.2) rfl ?_)
    refine w_some (bldSl_one rfl (by decide) rfl rfl) ?_
    refine n_slot ?_
    rw [reserve_set]
    have xa : Ex h9 (h9 ++ [AObj.row (cellsL (.int .i64 p.2)) true]) := .app _ _
    have la : (h9 ++ [AObj.row (cellsL (.int .i64 p.2)) true]).length = h9.length + 1 := by simp
    have ga : (h9 ++ [AObj.row (cellsL (.int .i64 p.2)) true])[h9.length]? = some (.row (eI p.2) true) := get_new _ _
    generalize h9 ++ [AObj.row (cellsL (.int .i64 p.2)) true] = h10 at *
    have hlbU : lb.length ≤ U.length := nodup_sub hn fun x hx => hU _ (hDS _ ((hlb x).1 hx))
    have on8 : ∀ j, onId v j → h5.length < j ∧ j < h8.length := fun j hj => ho.on hj
    refine appSl_of (app_g (by decide) (ho.mono (fun _ _ h => h) fun j hj _ => (xa.get j (by have := (on8 j hj).2; omega)).trans (x9.get j (on8 j hj).2)) (srcL_new ga (by decide) rfl) rfl (by unfold room40; omega) ?_)
    intro v69 h12 o1 o2 o3 o4
    refine ⟨fun x hxx => ?_, ?_⟩
    · have : x = h8.length := by simpa [idOf] using hxx
      rw [this, o3 _ (by omega) fun hh => by have := (on8 _ hh).2; omega]
    refine ends_put (h := h8) (D := D) (a := p.1) (z := p.2) (lb := lb) q1 q2 q3 q4 q5 hv hn hlb hnd (by omega) (o1.mono (fun j hj h => by
        rcases o4 j hj with h | h
        · exact (on8 j h).1
        · show h5.length < j
          omega) fun _ _ _ => rfl)
      (fun j hj hnv => by rw [o3 j (by omega) hnv, xa.get j (by omega), x9.get j hj]) (fun j hj => (o4 j hj).imp id fun e => by omega) fun o13 hE' => ?_
    have fr : ∀ j, j ≤ h5.length → j ≠ h4.length → (h12.set h4.length o13)[j]? = h8[j]? := fun j hj hne => by
      rw [get_ne (fun e => hne e.symm), o3 j (by omega) fun hh => by have := (on8 j hh).1; omega, xa.get j (by omega), x9.get j (by omega)]
    refine hI m' _ _ hm' ⟨fun y => D y ∨ y = p, e0', e1, e4', e5, e54, ⟨by simp; have := y1.len; omega, fun j hj => ?_⟩, by simp; omega, hE'.congr fun q => Iff.rfl, fun q hq => ?_, hit'.keep (fr _ (by omega) (by omega)) (fr _ (Nat.le_refl _) (by omega))⟩
    · rw [fr j (by omega) (by omega)]
      exact y1.get j hj
    · rcases hq with hq | rfl
      · exact hDS q hq
      · exact hp
  · have hEn : EndsM h7 h4.length h5.length st.now.row := hE.congr hall
    refine w_some rfl (c_f ?_)
    refine n_map0 fun h8 x8 l8 g8 => ?_
    have g48 : h8[h.length]? = some (.row (eL x) true) := x8.some (hx.some g4)
    refine w_offP (w_rdP g48 (v := .int .i64 x.2) rfl ?_)
    refine w_some rfl ?_
    refine n_var rfl rfl rfl fun h9 x9 l9 g9 => ?_
    refine w_offP (w_rdP (x9.some g48) (v := .map (some x.1)) rfl ?_)
    refine range_set Try.underlying88 (((sx4.ex hx).ex x8).ex x9) fun o m1 hi1 => ?_
    have x10 : Ex h9 (h9 ++ [o]) := .app _ _
    have l10 : (h9 ++ [o]).length = h9.length + 1 := by simp
    generalize h9 ++ [o] = h10 at *
    have hx1 : x.1 < h4.length := sx4.lt
    refine loopE_intro (fun m e h' => ∃ D : Row, e 0 = .pointer (some ⟨f, 0, none⟩) ∧ e 1 = .int .i64 k ∧ e 5 = .map (some h4.length) ∧ e 7 = .pointer (some ⟨h8.length, 0, none⟩) ∧ e 76 = .pointer (some ⟨h9.length, 0, none⟩) ∧
      Ex h7 h' ∧ h9.length < h'.length ∧ h'[h8.length]? = some (.row [.map (some h7.length), .int .i64 x.2] true) ∧ SetP h' h7.length (closeRow st.m D st.now.row st.now.bys k) ∧ IterM eP one1 h' h9.length x.1 u.row D m) m1
      ⟨fun _ => False, e0', e1, e5, rfl, rfl, (x8.trans x9).trans x10, by omega, x10.some g9, ((SetM.empty g8).ex (x9.trans x10)).congr (fun q => by simp [closeRow]), hi1⟩ ?_
    rintro I1 m2 e2 h11 ⟨D2, c0, c1, c5, c7, c76, zx, zl, zb, zs, zi⟩ hI1
    rw [c76, c0, c7]
    refine next_set zi (fun p o' m' hp hnd hm' hit' hent => ?_) (fun hall2 => ?_)
    · have y1 : Ex h7 (h11.set h9.length o') := zx.set (by omega) _
      have yb : (h11.set h9.length o')[h8.length]? = some (.row [.map (some h7.length), .int .i64 x.2] true) := by rw [get_ne (by omega)]; exact zb
      have ys : SetP (h11.set h9.length o') h7.length (closeRow st.m D2 st.now.row st.now.bys k) := zs.same (get_ne (by omega) _)
      have yl : h9.length < (h11.set h9.length o').length := by simpa using zl
      generalize h11.set h9.length o' = h12 at *
      refine w_some rfl (c_t ?_)
      refine w_some hent (w_some rfl ?_)
      refine n_var rfl rfl rfl fun h13 x13 l13 g13 => ?_
      have f13 : h13[f]? = some (.row (rowOf V1 { st with under := us }) true) := x13.some (y1.some (hx.some hr4))
      refine w_nilc (w_offP (w_offP (w_rdP f13 (v := V1.vo) rfl ?_)))
      refine w_len b4.opens ?_
      have x1lt : x.1 < h7.length := by have := hx.len; omega
      refine loopE_intro (fun n e' h' => ∃ j : Nat, j ≤ st.m.opens.length ∧ n = st.m.opens.length - j ∧ e' 0 = .pointer (some ⟨f, 0, none⟩) ∧ e' 1 = .int .i64 k ∧ e' 5 = .map (some h4.length) ∧ e' 7 = .pointer (some ⟨h8.length, 0, none⟩) ∧ e' 76 = .pointer (some ⟨h9.length, 0, none⟩) ∧
        e' 8 = .pointer (some ⟨h12.length, 0, none⟩) ∧ e' 85 = V1.vo ∧ e' 86 = .int .i64 st.m.opens.length ∧ e' 87 = .int .i64 j ∧
        Ex h7 h' ∧ h12.length < h'.length ∧ h'[h8.length]? = some (.row [.map (some h7.length), .int .i64 x.2] true) ∧ h'[h12.length]? = some (.row (cellsL (eP p)) true) ∧
        SetP h' h7.length (fun q => closeRow st.m D2 st.now.row st.now.bys k q ∨ p.1 = q.1 ∧ ∃ o ∈ st.m.opens.take j, o.1 = p.2 ∧ o.2.1 = st.now.bys ∧ bring st.m st.now.row k o q st.m.closes) ∧ IterM eP one1 h' h9.length x.1 u.row (fun y => D2 y ∨ y = p) m') st.m.opens.length
        ⟨0, Nat.zero_le _, rfl, c0, c1, c5, c7, c76, rfl, rfl, rfl, rfl, y1.trans x13, by omega, x13.some yb, g13, (ys.ex x13).congr (fun q => by simp), hit'.keep (x13.get _ (by have := y1.len; omega)) (x13.get _ yl)⟩ ?_
      rintro I2 n e' h14 ⟨j, hj, hnj, d0, d1, d5, d7, d76, d8, d85, d86, d87, wx, wl, wb, wp, ws, wi⟩ hI2
      rw [d85, d86, d87, d8, d5, d0]
      refine w_lss ?_
      refine c_dec (fun hjl => ?_) (fun hjl => ?_)
      · obtain ⟨t, ht⟩ := getElem?_of_lt (l := st.m.opens) (i := j) (by omega)
        have wx4 : Ex h4 h14 := hx.trans wx
        refine w_idxN e4_len (b4.opens.ex wx4) ht fun q hq => ?_
        refine w_rdA hq rfl ?_
        refine n_var rfl rfl rfl fun h15 x15 l15 g15 => ?_
        have f15 : h15[f]? = some (.row (rowOf V1 { st with under := us }) true) := x15.some (wx4.some hr4)
        refine w_offP (w_rdP g15 (v := .int .i64 t.1) rfl ?_)
        refine w_offP (w_rdP (x15.some wp) (v := .int .i64 p.2) rfl ?_)
        refine w_neq ?_
        have wi15 : IterM eP one1 h15 h9.length x.1 u.row (fun y => D2 y ∨ y = p) m' := wi.keep (x15.get _ (by have := wx.len; omega)) (x15.get _ (by omega))
        have next : ∀ h9' v45 e9, Ex h7 h9' → h12.length < h9'.length → h9'[h8.length]? = some (.row [.map (some h7.length), .int .i64 x.2] true) → h9'[h12.length]? = some (.row (cellsL (eP p)) true) →
            SetP h9' h7.length (fun q => closeRow st.m D2 st.now.row st.now.bys k q ∨ p.1 = q.1 ∧ ∃ o ∈ st.m.opens.take (j + 1), o.1 = p.2 ∧ o.2.1 = st.now.bys ∧ bring st.m st.now.row k o q st.m.closes) → IterM eP one1 h9' h9.length x.1 u.row (fun y => D2 y ∨ y = p) m' →
            e9 0 = .pointer (some ⟨f, 0, none⟩) → e9 1 = .int .i64 k → e9 5 = .map (some h4.length) → e9 7 = .pointer (some ⟨h8.length, 0, none⟩) → e9 76 = .pointer (some ⟨h9.length, 0, none⟩) → e9 8 = .pointer (some ⟨h12.length, 0, none⟩) → e9 85 = V1.vo → e9 86 = .int .i64 st.m.opens.length → v45 = .int .i64 ((j + 1 : Nat) : Int) → e9 87 = v45 → I2 e9 h9' :=
          fun h9' v45 e9 a1 a2 a3 a4 a5 a6 b0 b1 b5 b7 b76 b8 b85 b86 bv b87 => hI2 (n - 1) _ _ (by omega) ⟨j + 1, by omega, by omega, b0, b1, b5, b7, b76, b8, b85, b86, b87.trans bv, a1, a2, a3, a4, a5, a6⟩
        have no : ∀ v45 e9, (∀ q, ¬ (t.1 = p.2 ∧ t.2.1 = st.now.bys ∧ bring st.m st.now.row k t q st.m.closes)) →
            e9 0 = .pointer (some ⟨f, 0, none⟩) → e9 1 = .int .i64 k → e9 5 = .map (some h4.length) → e9 7 = .pointer (some ⟨h8.length, 0, none⟩) → e9 76 = .pointer (some ⟨h9.length, 0, none⟩) → e9 8 = .pointer (some ⟨h12.length, 0, none⟩) → e9 85 = V1.vo → e9 86 = .int .i64 st.m.opens.length → v45 = .int .i64 ((j + 1 : Nat) : Int) → e9 87 = v45 → I2 e9 h15 := by
          intro v45 e9 hno b0 b1 b5 b7 b76 b8 b85 b86 bv b87
          refine next _ _ _ (wx.trans x15) (by omega) (x15.some wb) (x15.some wp) ((ws.ex x15).congr fun q => ?_) wi15 b0 b1 b5 b7 b76 b8 b85 b86 bv b87
          rw [ex_take_succ ht]
          have := hno q
          grind
        by_cases q1 : t.1 = p.2
        · have n1 : ¬ ¬ t.1 = p.2 := fun h => h q1
          refine gd_ff n1 (w_offP ?_)
          refine gd_ff n1 (hist_nil (w_rdP g15 (v := .int .i64 t.2.1) rfl ?_))
          refine gd_ff n1 ?_
          refine gd_ff n1 (w_nilc ?_)
          refine gd_ff n1 (w_offP ?_)
          refine gd_ff n1 (w_offP ?_)
          refine gd_ff n1 (hist_nil (w_rdP f15 (v := .int .i64 st.now.bys) rfl ?_))
          refine gd_ff n1 (w_neq ?_)
          refine pk_ff n1 ?_
          by_cases q2 : t.2.1 = st.now.bys
          · have n2 : ¬ ¬ t.2.1 = st.now.bys := fun h => h q2
            refine gd_ff n2 ?_
            refine gd_ff n2 (w_offP ?_)
            refine gd_ff n2 (hist_nil (w_rdP g15 (v := .int .i64 t.2.2.1) rfl ?_))
            refine gd_ff n2 (hist_nil (ends_look hEn (wx.trans x15) fun v lb ho hn hlb => ?_))
            refine gd_ff n2 (w_len ho.sl ?_)
            refine gd_ff n2 (w_eql ?_)
            refine pk_ff n2 ?_
            refine c_dec (fun q3 => ?_) (fun q3 => ?_)
            · have hl0 : lb = [] := List.eq_nil_of_length_eq_zero (by omega)
              (repeat' (first | (with_reducible refine w_lss ?_) | (with_reducible refine w_leq ?_) | (with_reducible refine w_gtr ?_) | (with_reducible refine w_geq ?_) | (with_reducible refine w_eql ?_) | (with_reducible refine w_neq ?_) | (with_reducible refine w_lenSl ?_) | (with_reducible refine w_lenStr ?_) | (with_reducible refine w_not ?_) | (with_reducible refine w_add (by omega) (by omega) ?_) | (with_reducible refine w_sub (by omega) (by omega) ?_) | (with_reducible refine w_rem (by omega) (by omega) ?_) | (with_reducible refine w_quo (by omega) (by omega) (by omega) ?_) | (with_reducible refine w_seql ?_) | (with_reducible refine w_sneq ?_) | (with_reducible refine c_t ?_) | (with_reducible refine c_f ?_) | (with_reducible refine c_tt (by first | assumption | omega) ?_) | (with_reducible refine c_ff (by first | assumption | omega) ?_) | (with_reducible refine c_dec (fun hc => ?_) (fun hc => ?_)) | (with_reducible refine c_b (fun hc => ?_) (fun hc => ?_)) | (with_reducible refine gc_tt ?_) | (with_reducible refine gc_ft ?_) | (with_reducible refine gc_tf ?_) | (with_reducible refine gc_ff ?_) | (with_reducible refine g_tt (by first | assumption | omega) ?_) | (with_reducible refine g_tf (by first | assumption | omega) ?_) | (with_reducible refine g_ft (by first | assumption | omega) ?_) | (with_reducible refine g_ff (by first | assumption | omega) ?_) | (with_reducible refine g_dec (fun hc => ?_) (fun hc => ?_)) | (with_reducible refine g_decf (fun hc => ?_) (fun hc => ?_)) | (with_reducible refine pk_t ?_) | (with_reducible refine pk_f ?_) | (with_reducible refine pk_tt (by first | assumption | omega) ?_) | (with_reducible refine pk_ff (by first | assumption | omega) ?_)))
              refine no _ _ (fun q hh => ?_) d0 d1 d5 d7 d76 d8 d85 d86 rfl rfl
              obtain ⟨c, hc1, hc2, hc3, hc4, hc5⟩ := hh.2.2
              have := (hlb _).2 hc4
              rw [hl0] at this
              cases this
            · refine w_nilc (w_offP (w_offP (w_rdP f15 (v := V1.vc) rfl ?_)))
              refine w_len b4.closes ?_
              have hlbU : lb.length ≤ U.length := nodup_sub hn fun y hy => hU _ ((hlb y).1 hy)
              refine loopE_intro (fun n e3 h' => ∃ i3 : Nat, i3 ≤ st.m.closes.length ∧ n = st.m.closes.length - i3 ∧ e3 0 = .pointer (some ⟨f, 0, none⟩) ∧ e3 1 = .int .i64 k ∧ e3 5 = .map (some h4.length) ∧ e3 7 = .pointer (some ⟨h8.length, 0, none⟩) ∧ e3 76 = .pointer (some ⟨h9.length, 0, none⟩) ∧
                e3 8 = .pointer (some ⟨h12.length, 0, none⟩) ∧ e3 85 = V1.vo ∧ e3 86 = .int .i64 st.m.opens.length ∧ e3 87 = .int .i64 j ∧ e3 10 = .pointer (some ⟨h14.length, 0, none⟩) ∧ e3 118 = V1.vc ∧ e3 119 = .int .i64 st.m.closes.length ∧ e3 120 = .int .i64 i3 ∧
                Ex h7 h' ∧ h14.length < h'.length ∧ h'[h8.length]? = some (.row [.map (some h7.length), .int .i64 x.2] true) ∧ h'[h12.length]? = some (.row (cellsL (eP p)) true) ∧ h'[h14.length]? = some (.row (e4 t) true) ∧
                SetP h' h7.length (fun q => (closeRow st.m D2 st.now.row st.now.bys k q ∨ p.1 = q.1 ∧ ∃ o ∈ st.m.opens.take j, o.1 = p.2 ∧ o.2.1 = st.now.bys ∧ bring st.m st.now.row k o q st.m.closes) ∨ p.1 = q.1 ∧ bring st.m st.now.row k t q (st.m.closes.take i3)) ∧
                IterM eP one1 h' h9.length x.1 u.row (fun y => D2 y ∨ y = p) m') st.m.closes.length
                ⟨0, Nat.zero_le _, rfl, d0, d1, d5, d7, d76, d8, d85, d86, d87, rfl, rfl, rfl, rfl, wx.trans x15, by omega, x15.some wb, x15.some wp, g15, (ws.ex x15).congr (fun q => by simp [bring]), wi15⟩ ?_
              rintro I3 n3 e3 h16 ⟨i3, hi3, hn3, j0, j1, j5, j7, j76, j8, j85, j86, j87, j10, j118, j119, j120, kx, kl, kb, kp, kt, ks, ki⟩ hI3
              rw [j118, j119, j120, j1, j10, j5, j7, j8]
              refine w_lss ?_
              refine c_dec (fun hil => ?_) (fun hil => ?_)
              · obtain ⟨c, hc3⟩ := getElem?_of_lt (l := st.m.closes) (i := i3) (by omega)
                refine w_idxN e4_len (b4.closes.ex (hx.trans kx)) hc3 fun q hq => ?_
                refine w_rdA hq rfl ?_
                refine n_var rfl rfl rfl fun h17 x17 l17 g17 => ?_
                refine w_offP (w_rdP g17 (v := .int .i64 c.2.1) rfl ?_)
                refine w_eql ?_
                have ki17 : IterM eP one1 h17 h9.length x.1 u.row (fun y => D2 y ∨ y = p) m' := ki.keep (x17.get _ (by have := kx.len; omega)) (x17.get _ (by omega))
                have next3 : ∀ h9' v45 e9, Ex h7 h9' → h14.length < h9'.length → h9'[h8.length]? = some (.row [.map (some h7.length), .int .i64 x.2] true) → h9'[h12.length]? = some (.row (cellsL (eP p)) true) → h9'[h14.length]? = some (.row (e4 t) true) →
                    SetP h9' h7.length (fun q => (closeRow st.m D2 st.now.row st.now.bys k q ∨ p.1 = q.1 ∧ ∃ o ∈ st.m.opens.take j, o.1 = p.2 ∧ o.2.1 = st.now.bys ∧ bring st.m st.now.row k o q st.m.closes) ∨ p.1 = q.1 ∧ bring st.m st.now.row k t q (st.m.closes.take (i3 + 1))) → IterM eP one1 h9' h9.length x.1 u.row (fun y => D2 y ∨ y = p) m' →
                    e9 0 = .pointer (some ⟨f, 0, none⟩) → e9 1 = .int .i64 k → e9 5 = .map (some h4.length) → e9 7 = .pointer (some ⟨h8.length, 0, none⟩) → e9 76 = .pointer (some ⟨h9.length, 0, none⟩) → e9 8 = .pointer (some ⟨h12.length, 0, none⟩) → e9 85 = V1.vo → e9 86 = .int .i64 st.m.opens.length → e9 87 = .int .i64 j →
                    e9 10 = .pointer (some ⟨h14.length, 0, none⟩) → e9 118 = V1.vc → e9 119 = .int .i64 st.m.closes.length → v45 = .int .i64 ((i3 + 1 : Nat) : Int) → e9 120 = v45 → I3 e9 h9' :=
                  fun h9' v45 e9 a1 a2 a3 a4 a4' a5 a6 b0 b1 b5 b7 b76 b8 b85 b86 b87 b10 b118 b119 bv b120 => hI3 (n3 - 1) _ _ (by omega) ⟨i3 + 1, by omega, by omega, b0, b1, b5, b7, b76, b8, b85, b86, b87, b10, b118, b119, b120.trans bv, a1, a2, a3, a4, a4', a5, a6⟩
                have bring_succ : ∀ q, bring st.m st.now.row k t q (st.m.closes.take (i3 + 1)) ↔ bring st.m st.now.row k t q (st.m.closes.take i3) ∨ (c.2.1 = k ∧ c.2.2.1 = t.2.2.2 ∧ st.now.row (t.2.2.1, c.1) ∧ c.2.2.2 = q.2) := fun q => ex_take_succ hc3
                have no3 : ∀ v45 e9, (¬ (c.2.1 = k ∧ c.2.2.1 = t.2.2.2 ∧ st.now.row (t.2.2.1, c.1))) →
                    e9 0 = .pointer (some ⟨f, 0, none⟩) → e9 1 = .int .i64 k → e9 5 = .map (some h4.length) → e9 7 = .pointer (some ⟨h8.length, 0, none⟩) → e9 76 = .pointer (some ⟨h9.length, 0, none⟩) → e9 8 = .pointer (some ⟨h12.length, 0, none⟩) → e9 85 = V1.vo → e9 86 = .int .i64 st.m.opens.length → e9 87 = .int .i64 j →
                    e9 10 = .pointer (some ⟨h14.length, 0, none⟩) → e9 118 = V1.vc → e9 119 = .int .i64 st.m.closes.length → v45 = .int .i64 ((i3 + 1 : Nat) : Int) → e9 120 = v45 → I3 e9 h17 := by
                  intro v45 e9 hno b0 b1 b5 b7 b76 b8 b85 b86 b87 b10 b118 b119 bv b120
                  refine next3 _ _ _ (kx.trans x17) (by omega) (x17.some kb) (x17.some kp) (x17.some kt) ((ks.ex x17).congr fun q => ?_) ki17 b0 b1 b5 b7 b76 b8 b85 b86 b87 b10 b118 b119 bv b120
                  rw [bring_succ]
                  grind
                by_cases r1 : c.2.1 = k
                · refine g_tt r1 (w_offP ?_)
                  refine g_tt r1 (w_rdP g17 (v := .int .i64 c.2.2.1) rfl ?_)
                  refine g_tt r1 (w_offP ?_)
                  refine g_tt r1 (w_rdP (x17.some kt) (v := .int .i64 t.2.2.2) rfl ?_)
                  refine g_tt r1 (w_eql ?_)
                  refine pk_tt r1 ?_
                  by_cases r2 : c.2.2.1 = t.2.2.2
                  · refine g_tt r2 ?_
                    refine g_tt r2 (w_offP ?_)
                    refine g_tt r2 (w_rdP (x17.some kt) (v := .int .i64 t.2.2.1) rfl ?_)
                    refine g_tt r2 (ends_look hEn (kx.trans x17) fun v2 lb2 ho2 hn2 hlb2 => ?_)
                    refine g_tt r2 (w_offP ?_)
                    refine g_tt r2 (w_rdP g17 (v := .int .i64 c.1) rfl ?_)
                    have hlbU2 : lb2.length ≤ U.length := nodup_sub hn2 fun y hy => hU _ ((hlb2 y).1 hy)
                    refine g_tt r2 (contains65 (l := lb2) (ho2.sl.ex (kx.trans x17)) (by unfold room40; omega) ?_)
                    refine pk_tt r2 ?_
                    refine c_dec (fun r3 => ?_) (fun r3 => ?_)
                    · refine w_offP (w_rdP (x17.some kb) (v := .map (some h7.length)) rfl ?_)
                      refine w_offP (w_rdP (x17.some kp) (v := .int .i64 p.1) rfl ?_)
                      refine w_offP (w_rdP g17 (v := .int .i64 c.2.2.2) rfl ?_)
                      refine w_some rfl ?_
                      refine set_put (enc := eP) (one := one1) (x := (p.1, c.2.2.2)) Try.underlying88 keyP (ks.ex x17) fun o17 ks17 => ?_
                      have hr3 := (hlb2 _).1 r3
                      (repeat' (first | (with_reducible refine w_lss ?_) | (with_reducible refine w_leq ?_) | (with_reducible refine w_gtr ?_) | (with_reducible refine w_geq ?_) | (with_reducible refine w_eql ?_) | (with_reducible refine w_neq ?_) | (with_reducible refine w_lenSl ?_) | (with_reducible refine w_lenStr ?_) | (with_reducible refine w_not ?_) | (with_reducible refine w_add (by omega) (by omega) ?_) | (with_reducible refine w_sub (by omega) (by omega) ?_) | (with_reducible refine w_rem (by omega) (by omega) ?_) | (with_reducible refine w_quo (by omega) (by omega) (by omega) ?_) | (with_reducible refine w_seql ?_) | (with_reducible refine w_sneq ?_) | (with_reducible refine c_t ?_) | (with_reducible refine c_f ?_) | (with_reducible refine c_tt (by first | assumption | omega) ?_) | (with_reducible refine c_ff (by first | assumption | omega) ?_) | (with_reducible refine c_dec (fun hc => ?_) (fun hc => ?_)) | (with_reducible refine c_b (fun hc => ?_) (fun hc => ?_)) | (with_reducible refine gc_tt ?_) | (with_reducible refine gc_ft ?_) | (with_reducible refine gc_tf ?_) | (with_reducible refine gc_ff ?_) | (with_reducible refine g_tt (by first | assumption | omega) ?_) | (with_reducible refine g_tf (by first | assumption | omega) ?_) | (with_reducible refine g_ft (by first | assumption | omega) ?_) | (with_reducible refine g_ff (by first | assumption | omega) ?_) | (with_reducible refine g_dec (fun hc => ?_) (fun hc => ?_)) | (with_reducible refine g_decf (fun hc => ?_) (fun hc => ?_)) | (with_reducible refine pk_t ?_) | (with_reducible refine pk_f ?_) | (with_reducible refine pk_tt (by first | assumption | omega) ?_) | (with_reducible refine pk_ff (by first | assumption | omega) ?_)))
                      refine next3 _ _ _ ((kx.trans x17).set (Nat.le_refl _) _) (by simp; omega) (by rw [get_ne (by omega)]; exact x17.some kb) (by rw [get_ne (by have := y1.len; omega)]; exact x17.some kp) (by rw [get_ne (by have := wx.len; omega)]; exact x17.some kt) (ks17.congr fun q => ?_)
                        (ki17.keep (get_ne (by omega) _) (get_ne (by omega) _)) j0 j1 j5 j7 j76 j8 j85 j86 j87 j10 j118 j119 rfl rfl
                      rw [bring_succ]
                      obtain ⟨qa, qb⟩ := q
                      simp only [r1, r2, hr3, true_and, Prod.mk.injEq]
                      grind
                    · (repeat' (first | (with_reducible refine w_lss ?_) | (with_reducible refine w_leq ?_) | (with_reducible refine w_gtr ?_) | (with_reducible refine w_geq ?_) | (with_reducible refine w_eql ?_) | (with_reducible refine w_neq ?_) | (with_reducible refine w_lenSl ?_) | (with_reducible refine w_lenStr ?_) | (with_reducible refine w_not ?_) | (with_reducible refine w_add (by omega) (by omega) ?_) | (with_reducible refine w_sub (by omega) (by omega) ?_) | (with_reducible refine w_rem (by omega) (by omega) ?_) | (with_reducible refine w_quo (by omega) (by omega) (by omega) ?_) | (with_reducible refine w_seql ?_) | (with_reducible refine w_sneq ?_) | (with_reducible refine c_t ?_) | (with_reducible refine c_f ?_) | (with_reducible refine c_tt (by first | assumption | omega) ?_) | (with_reducible refine c_ff (by first | assumption | omega) ?_) | (with_reducible refine c_dec (fun hc => ?_) (fun hc => ?_)) | (with_reducible refine c_b (fun hc => ?_) (fun hc => ?_)) | (with_reducible refine gc_tt ?_) | (with_reducible refine gc_ft ?_) | (with_reducible refine gc_tf ?_) | (with_reducible refine gc_ff ?_) | (with_reducible refine g_tt (by first | assumption | omega) ?_) | (with_reducible refine g_tf (by first | assumption | omega) ?_) | (with_reducible refine g_ft (by first | assumption | omega) ?_) | (with_reducible refine g_ff (by first | assumption | omega) ?_) | (with_reducible refine g_dec (fun hc => ?_) (fun hc => ?_)) | (with_reducible refine g_decf (fun hc => ?_) (fun hc => ?_)) | (with_reducible refine pk_t ?_) | (with_reducible refine pk_f ?_) | (with_reducible refine pk_tt (by first | assumption | omega) ?_) | (with_reducible refine pk_ff (by first | assumption | omega) ?_)))
                      exact no3 _ _ (fun hh => r3 ((hlb2 _).2 hh.2.2)) j0 j1 j5 j7 j76 j8 j85 j86 j87 j10 j118 j119 rfl rfl
                  · refine g_tf r2 ?_
                    refine g_tf r2 ?_
                    refine g_tf r2 ?_
                    refine g_tf r2 ?_
                    refine g_tf r2 ?_
                    refine g_tf r2 ?_
                    refine g_tf r2 ?_
                    refine pk_ff r2 (c_f ?_)
                    (repeat' (first | (with_reducible refine w_lss ?_) | (with_reducible refine w_leq ?_) | (with_reducible refine w_gtr ?_) | (with_reducible refine w_geq ?_) | (with_reducible refine w_eql ?_) | (with_reducible refine w_neq ?_) | (with_reducible refine w_lenSl ?_) | (with_reducible refine w_lenStr ?_) | (with_reducible refine w_not ?_) | (with_reducible refine w_add (by omega) (by omega) ?_) | (with_reducible refine w_sub (by omega) (by omega) ?_) | (with_reducible refine w_rem (by omega) (by omega) ?_) | (with_reducible refine w_quo (by omega) (by omega) (by omega) ?_) | (with_reducible refine w_seql ?_) | (with_reducible refine w_sneq ?_) | (with_reducible refine c_t ?_) | (with_reducible refine c_f ?_) | (with_reducible refine c_tt (by first | assumption | omega) ?_) | (with_reducible refine c_ff (by first | assumption | omega) ?_) | (with_reducible refine c_dec (fun hc => ?_) (fun hc => ?_)) | (with_reducible refine c_b (fun hc => ?_) (fun hc => ?_)) | (with_reducible refine gc_tt ?_) | (with_reducible refine gc_ft ?_) | (with_reducible refine gc_tf ?_) | (with_reducible refine gc_ff ?_) | (with_reducible refine g_tt (by first | assumption | omega) ?_) | (with_reducible refine g_tf (by first | assumption | omega) ?_) | (with_reducible refine g_ft (by first | assumption | omega) ?_) | (with_reducible refine g_ff (by first | assumption | omega) ?_) | (with_reducible refine g_dec (fun hc => ?_) (fun hc => ?_)) | (with_reducible refine g_decf (fun hc => ?_) (fun hc => ?_)) | (with_reducible refine pk_t ?_) | (with_reducible refine pk_f ?_) | (with_reducible refine pk_tt (by first | assumption | omega) ?_) | (with_reducible refine pk_ff (by first | assumption | omega) ?_)))
                    exact no3 _ _ (fun hh => r2 hh.2.1) j0 j1 j5 j7 j76 j8 j85 j86 j87 j10 j118 j119 rfl rfl
                · refine g_tf r1 ?_
                  refine g_tf r1 ?_
                  refine g_tf r1 ?_
                  refine g_tf r1 ?_
                  refine g_tf r1 ?_
                  refine pk_ff r1 ?_
                  refine gc_tf (gc_tf (gc_tf (gc_tf (gc_tf (gc_tf (gc_tf (pk_f (c_f ?_))))))))
                  (repeat' (first | (with_reducible refine w_lss ?_) | (with_reducible refine w_leq ?_) | (with_reducible refine w_gtr ?_) | (with_reducible refine w_geq ?_) | (with_reducible refine w_eql ?_) | (with_reducible refine w_neq ?_) | (with_reducible refine w_lenSl ?_) | (with_reducible refine w_lenStr ?_) | (with_reducible refine w_not ?_) | (with_reducible refine w_add (by omega) (by omega) ?_) | (with_reducible refine w_sub (by omega) (by omega) ?_) | (with_reducible refine w_rem (by omega) (by omega) ?_) | (with_reducible refine w_quo (by omega) (by omega) (by omega) ?_) | (with_reducible refine w_seql ?_) | (with_reducible refine w_sneq ?_) | (with_reducible refine c_t ?_) | (with_reducible refine c_f ?_) | (with_reducible refine c_tt (by first | assumption | omega) ?_) | (with_reducible refine c_ff (by first | assumption | omega) ?_) | (with_reducible refine c_dec (fun hc => ?_) (fun hc => ?_)) | (with_reducible refine c_b (fun hc => ?_) (fun hc => ?_)) | (with_reducible refine gc_tt ?_) | (with_reducible refine gc_ft ?_) | (with_reducible refine gc_tf ?_) | (with_reducible refine gc_ff ?_) | (with_reducible refine g_tt (by first | assumption | omega) ?_) | (with_reducible refine g_tf (by first | assumption | omega) ?_) | (with_reducible refine g_ft (by first | assumption | omega) ?_) | (with_reducible refine g_ff (by first | assumption | omega) ?_) | (with_reducible refine g_dec (fun hc => ?_) (fun hc => ?_)) | (with_reducible refine g_decf (fun hc => ?_) (fun hc => ?_)) | (with_reducible refine pk_t ?_) | (with_reducible refine pk_f ?_) | (with_reducible refine pk_tt (by first | assumption | omega) ?_) | (with_reducible refine pk_ff (by first | assumption | omega) ?_)))
                  exact no3 _ _ (fun hh => r1 hh.1) j0 j1 j5 j7 j76 j8 j85 j86 j87 j10 j118 j119 rfl rfl
              · have hie : i3 = st.m.closes.length := by omega
                subst hie
                rw [List.take_length] at ks
                rw [j87]
                (repeat' (first | (with_reducible refine w_lss ?_) | (with_reducible refine w_leq ?_) | (with_reducible refine w_gtr ?_) | (with_reducible refine w_geq ?_) | (with_reducible refine w_eql ?_) | (with_reducible refine w_neq ?_) | (with_reducible refine w_lenSl ?_) | (with_reducible refine w_lenStr ?_) | (with_reducible refine w_not ?_) | (with_reducible refine w_add (by omega) (by omega) ?_) | (with_reducible refine w_sub (by omega) (by omega) ?_) | (with_reducible refine w_rem (by omega) (by omega) ?_) | (with_reducible refine w_quo (by omega) (by omega) (by omega) ?_) | (with_reducible refine w_seql ?_) | (with_reducible refine w_sneq ?_) | (with_reducible refine c_t ?_) | (with_reducible refine c_f ?_) | (with_reducible refine c_tt (by first | assumption | omega) ?_) | (with_reducible refine c_ff (by first | assumption | omega) ?_) | (with_reducible refine c_dec (fun hc => ?_) (fun hc => ?_)) | (with_reducible refine c_b (fun hc => ?_) (fun hc => ?_)) | (with_reducible refine gc_tt ?_) | (with_reducible refine gc_ft ?_) | (with_reducible refine gc_tf ?_) | (with_reducible refine gc_ff ?_) | (with_reducible refine g_tt (by first | assumption | omega) ?_) | (with_reducible refine g_tf (by first | assumption | omega) ?_) | (with_reducible refine g_ft (by first | assumption | omega) ?_) | (with_reducible refine g_ff (by first | assumption | omega) ?_) | (with_reducible refine g_dec (fun hc => ?_) (fun hc => ?_)) | (with_reducible refine g_decf (fun hc => ?_) (fun hc => ?_)) | (with_reducible refine pk_t ?_) | (with_reducible refine pk_f ?_) | (with_reducible refine pk_tt (by first | assumption | omega) ?_) | (with_reducible refine pk_ff (by first | assumption | omega) ?_)))
                refine next _ _ _ kx (by omega) kb kp (ks.congr fun q => ?_) ki j0 j1 j5 j7 j76 j8 j85 j86 rfl rfl
                rw [ex_take_succ ht]
                simp only [q1, q2, true_and]
                grind
          · refine gd_ft q2 ?_
            refine gd_ft q2 ?_
            refine gd_ft q2 ?_
            refine gd_ft q2 ?_
            refine gd_ft q2 ?_
            refine gd_ft q2 ?_
            refine pk_tt q2 (c_t ?_)
            (repeat' (first | (with_reducible refine w_lss ?_) | (with_reducible refine w_leq ?_) | (with_reducible refine w_gtr ?_) | (with_reducible refine w_geq ?_) | (with_reducible refine w_eql ?_) | (with_reducible refine w_neq ?_) | (with_reducible refine w_lenSl ?_) | (with_reducible refine w_lenStr ?_) | (with_reducible refine w_not ?_) | (with_reducible refine w_add (by omega) (by omega) ?_) | (with_reducible refine w_sub (by omega) (by omega) ?_) | (with_reducible refine w_rem (by omega) (by omega) ?_) | (with_reducible refine w_quo (by omega) (by omega) (by omega) ?_) | (with_reducible refine w_seql ?_) | (with_reducible refine w_sneq ?_) | (with_reducible refine c_t ?_) | (with_reducible refine c_f ?_) | (with_reducible refine c_tt (by first | assumption | omega) ?_) | (with_reducible refine c_ff (by first | assumption | omega) ?_) | (with_reducible refine c_dec (fun hc => ?_) (fun hc => ?_)) | (with_reducible refine c_b (fun hc => ?_) (fun hc => ?_)) | (with_reducible refine gc_tt ?_) | (with_reducible refine gc_ft ?_) | (with_reducible refine gc_tf ?_) | (with_reducible refine gc_ff ?_) | (with_reducible refine g_tt (by first | assumption | omega) ?_) | (with_reducible refine g_tf (by first | assumption | omega) ?_) | (with_reducible refine g_ft (by first | assumption | omega) ?_) | (with_reducible refine g_ff (by first | assumption | omega) ?_) | (with_reducible refine g_dec (fun hc => ?_) (fun hc => ?_)) | (with_reducible refine g_decf (fun hc => ?_) (fun hc => ?_)) | (with_reducible refine pk_t ?_) | (with_reducible refine pk_f ?_) | (with_reducible refine pk_tt (by first | assumption | omega) ?_) | (with_reducible refine pk_ff (by first | assumption | omega) ?_)))
            exact no _ _ (fun q hh => q2 hh.2.1) d0 d1 d5 d7 d76 d8 d85 d86 rfl rfl
        · refine gd_ft q1 ?_
          refine gd_ft q1 ?_
          refine gd_ft q1 ?_
          refine gd_ft q1 ?_
          refine gd_ft q1 ?_
          refine gd_ft q1 ?_
          refine gd_ft q1 ?_
          refine gd_ft q1 ?_
          refine pk_tt q1 ?_
          refine gdc_ft (gdc_ft (gdc_ft (gdc_ft (gdc_ft (gdc_ft (pk_t (c_t ?_)))))))
          (repeat' (first | (with_reducible refine w_lss ?_) | (with_reducible refine w_leq ?_) | (with_reducible refine w_gtr ?_) | (with_reducible refine w_geq ?_) | (with_reducible refine w_eql ?_) | (with_reducible refine w_neq ?_) | (with_reducible refine w_lenSl ?_) | (with_reducible refine w_lenStr ?_) | (with_reducible refine w_not ?_) | (with_reducible refine w_add (by omega) (by omega) ?_) | (with_reducible refine w_sub (by omega) (by omega) ?_) | (with_reducible refine w_rem (by omega) (by omega) ?_) | (with_reducible refine w_quo (by omega) (by omega) (by omega) ?_) | (with_reducible refine w_seql ?_) | (with_reducible refine w_sneq ?_) | (with_reducible refine c_t ?_) | (with_reducible refine c_f ?_) | (with_reducible refine c_tt (by first | assumption | omega) ?_) | (with_reducible refine c_ff (by first | assumption | omega) ?_) | (with_reducible refine c_dec (fun hc => ?_) (fun hc => ?_)) | (with_reducible refine c_b (fun hc => ?_) (fun hc => ?_)) | (with_reducible refine gc_tt ?_) | (with_reducible refine gc_ft ?_) | (with_reducible refine gc_tf ?_) | (with_reducible refine gc_ff ?_) | (with_reducible refine g_tt (by first | assumption | omega) ?_) | (with_reducible refine g_tf (by first | assumption | omega) ?_) | (with_reducible refine g_ft (by first | assumption | omega) ?_) | (with_reducible refine g_ff (by first | assumption | omega) ?_) | (with_reducible refine g_dec (fun hc => ?_) (fun hc => ?_)) | (with_reducible refine g_decf (fun hc => ?_) (fun hc => ?_)) | (with_reducible refine pk_t ?_) | (with_reducible refine pk_f ?_) | (with_reducible refine pk_tt (by first | assumption | omega) ?_) | (with_reducible refine pk_ff (by first | assumption | omega) ?_)))
          exact no _ _ (fun q hh => q1 hh.1) d0 d1 d5 d7 d76 d8 d85 d86 rfl rfl
      · have hje : j = st.m.opens.length := by omega
        subst hje
        rw [List.take_length] at ws
        exact hI1 m' _ _ hm' ⟨_, d0, d1, d5, d7, d76, wx, by omega, wb, ws.congr fun q => closeRow_grow, wi⟩
    · refine w_some rfl (c_f ?_)
      refine w_rdPA zb (Nat.le_refl 2) ?_
      refine w_nilc (w_offP ?_)
      have hx11 : Ex h4 h11 := hx.trans zx
      refine w_stPA (hx11.some hr4) rfl (by simp [rowOf]) rfl ?_
      have nn := newnow (i := h7.length) (R := closeRow st.m u.row st.now.row st.now.bys k) (by' := u.bys) b4 hx11 (by have := hx.len; omega) (zs.congr fun q => closeRow_congr hall2)
      refine kk _ (fun j => F j ∨ j = h7.length) ⟨{ V1 with mi := h7.length }, ?_, nn.setf _⟩ (c4.trans ⟨by simpa using hx11.len, fun j hj hF => ?_, fun j hj => hj.imp id fun e => by have := hx.len; omega⟩)
      · rw [get_set _ (hx11.lt hlt4), ← hbx]
        rfl
      · rw [get_ne (fun e => hF (by rw [← e]; exact b.ff))]
        exact hx11.get j hj
end Go.Proofs.Ytebbjimmgblcpaa.W
