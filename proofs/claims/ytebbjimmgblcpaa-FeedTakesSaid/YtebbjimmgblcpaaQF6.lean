/- The feed's machine goes on by a symbol that opens. Conditions: none. -/
import Derived.Test.YtebbjimmgblcpaaQF5
namespace Go.Proofs.Ytebbjimmgblcpaa.W
open Go Go.AM FeedM
set_option linter.unusedVariables false
set_option maxRecDepth 100000

theorem openRow_grow {m : Mach} {D : Row} {p : Int × Int} {k : Int} {q : Int × Int} : openRow m (fun y => D y ∨ y = p) k q ↔ openRow m D k q ∨ q.1 = q.2 ∧ ∃ o ∈ m.opens, o.1 = p.2 ∧ o.2.1 = k ∧ o.2.2.1 = q.1 := by
  unfold openRow
  constructor
  · rintro ⟨h0, b, h | h, o, ho, h1, h2⟩
    · exact .inl ⟨h0, b, h, o, ho, h1, h2⟩
    · cases h
      exact .inr ⟨h0, o, ho, h1, h2⟩
  · rintro (⟨h0, b, h, o, ho, h1, h2⟩ | ⟨h, o, ho, h1, h2⟩)
    · exact ⟨h0, b, .inl h, o, ho, h1, h2⟩
    · exact ⟨h, p, .inr rfl, o, ho, h1, h2⟩
theorem openRow_congr {m : Mach} {S D : Row} {k : Int} (h : ∀ x, S x ↔ D x) {q : Int × Int} : openRow m S k q ↔ openRow m D k q := by
  have : S = D := funext fun x => propext (h x)
  rw [this]

theorem Lvs.snoc {h : AH} {i : Nat} {b : Int} {R : Row} (hs : SetP h i R) : ∀ {l : List (Nat × Int)} {m : List Lv}, Lvs h l m → Lvs h (l ++ [(i, b)]) (m ++ [⟨R, b⟩])
  | [], [], _ => ⟨rfl, hs, trivial⟩
  | [], _ :: _, h => h.elim
  | _ :: _, [], h => h.elim
  | a :: l, c :: m, ⟨h1, h2, h3⟩ => ⟨h1, h2, Lvs.snoc hs h3⟩

theorem newunder {h h' : AH} {f : Nat} {V : FV} {st : FS} {F F' : Nat → Prop} {v' : Value} {mi0 : Nat} {by0 : Int} {R0 : Row} (b : FRB h f V st F) (hl : h.length ≤ h'.length) (hr : ∀ j, F j → ¬ onId V.vu j → h'[j]? = h[j]?)
    (ou : OwnG 2 F' h' v' (V.ul.length + 1) (flat eL V.ul ++ eL (mi0, by0))) (hid : ∀ j, onId v' j → onId V.vu j ∨ h.length ≤ j) (hF : ∀ j, F j → F' j) (hlt : ∀ j, F' j → j < h'.length) (hm : SetP h' mi0 R0) (hmF : F mi0) (hmw : ¬ wIds f V mi0) :
    FRB h' f { V with vu := v', ul := V.ul ++ [(mi0, by0)] } { st with under := st.under ++ [⟨R0, by0⟩] } F' := by
  have nr : ∀ j, rIds V j → h'[j]? = h[j]? := fun j hj => hr j (b.rF j hj) fun hu => b.sep j (.inr (.inr (.inr hu))) hj
  have ns : ∀ j, onId V.vs j → h'[j]? = h[j]? := fun j hj => hr j (b.s.on hj).1 (b.sw j hj).2
  have nw : ∀ j, onId V.vw j → h'[j]? = h[j]? := fun j hj => hr j (b.word.on hj).1 (b.wu j hj)
  have old : ∀ j, rIds { V with vu := v', ul := V.ul ++ [(mi0, by0)] } j → rIds V j ∨ j = mi0 := by
    intro j hj
    rcases hj with h | h | h | h | h | h | h | h
    · exact .inl (.inl h)
    · exact .inl (.inr (.inl h))
    · exact .inl (.inr (.inr (.inl h)))
    · exact .inl (.inr (.inr (.inr (.inl h))))
    · exact .inl (.inr (.inr (.inr (.inr (.inl h)))))
    · exact .inl (.inr (.inr (.inr (.inr (.inr (.inl h))))))
    · exact .inl (.inr (.inr (.inr (.inr (.inr (.inr (.inl h)))))))
    · simp only [List.map_append, List.map_cons, List.map_nil, List.mem_append, List.mem_singleton] at h
      rcases h with h | h
      · exact .inl (.inr (.inr (.inr (.inr (.inr (.inr (.inr h)))))))
      · exact .inr h
  have oldF : ∀ j, rIds { V with vu := v', ul := V.ul ++ [(mi0, by0)] } j → F j := fun j hj => (old j hj).elim (b.rF j) fun e => by rw [e]; exact hmF
  exact {
    init := Sl.same b.init fun j hj => nr j (.inl hj)
    final := Sl.same b.final fun j hj => nr j (.inr (.inl hj))
    opens := Sl.same b.opens fun j hj => nr j (.inr (.inr (.inl hj)))
    closes := Sl.same b.closes fun j hj => nr j (.inr (.inr (.inr (.inl hj))))
    inners := Sl.same b.inners fun j hj => nr j (.inr (.inr (.inr (.inr (.inl hj)))))
    now := b.now.same (nr _ (.inr (.inr (.inr (.inr (.inr (.inr (.inl rfl))))))))
    under := by
      have e1 : (V.ul ++ [(mi0, by0)]).length = V.ul.length + 1 := by simp
      have e2 : flat eL (V.ul ++ [(mi0, by0)]) = flat eL V.ul ++ eL (mi0, by0) := by rw [flat_append]; simp [flat]
      show OwnG 2 F' h' v' (V.ul ++ [(mi0, by0)]).length (flat eL (V.ul ++ [(mi0, by0)]))
      rw [e1, e2]
      exact ou
    lvs := Lvs.snoc hm (b.lvs.same fun j hj => nr j (.inr (.inr (.inr (.inr (.inr (.inr (.inr hj))))))))
    s := b.s.mono (fun j _ h => hF j h) fun j hj _ => ns j hj
    l := Sl.same b.l fun j hj => nr j (.inr (.inr (.inr (.inr (.inr (.inl hj))))))
    word := b.word.mono (fun j _ h => hF j h) fun j hj _ => nw j hj
    ff := hF _ b.ff
    rF := fun j hj => hF j (oldF j hj)
    lt := hlt
    sep := fun j hw hj => by
      have hjF := oldF j hj
      have hjl := b.lt j hjF
      have hwV : wIds f V j := by
        rcases hw with h | h | h | h
        · exact .inl h
        · exact .inr (.inl h)
        · exact .inr (.inr (.inl h))
        · rcases hid j h with h | h
          · exact .inr (.inr (.inr h))
          · omega
      rcases old j hj with h | rfl
      · exact b.sep j hwV h
      · exact hmw hwV
    sf := ⟨b.sf.1, b.sf.2.1, fun h => (hid f h).elim b.sf.2.2 fun h => by have := b.lt f b.ff; omega⟩
    sw := fun j hj => ⟨(b.sw j hj).1, fun h => (hid j h).elim (b.sw j hj).2 fun h => by have := b.lt j (b.s.on hj).1; omega⟩
    wu := fun j hj h => (hid j h).elim (b.wu j hj) fun h => by have := b.lt j (b.word.on hj).1; omega }

theorem lvs_length {h : AH} : ∀ {l : List (Nat × Int)} {m : List Lv}, Lvs h l m → l.length = m.length
  | [], [], _ => rfl
  | [], _ :: _, h => h.elim
  | _ :: _, [], h => h.elim
  | a :: l, c :: m, ⟨h1, h2, h3⟩ => by simp only [List.length_cons]; rw [lvs_length h3]

theorem open70 {h : AH} {f : Nat} {st : FS} {F : Nat → Prop} {k : Int} {K : Value → AH → Prop} (r : FR h f st F) (hb : st.m.opens.length < room40) (hu : st.under.length + 1 < room40)
    (kk : ∀ h' F', FR h' f (opened st k) F' → Chg F h F' h' → K (.tuple #[]) h') : callW Try.prog 70 [.pointer (some ⟨f, 0, none⟩), .int .i64 k] h K := by
  obtain ⟨V, hr, b⟩ := r
  have hul := lvs_length b.lvs
  unfold room40 at hb
  refine c70 ?_
  unfold s70
  refine n_map0 fun h1 x1 l1 g1 => ?_
  refine w_some rfl ?_
  refine n_var rfl rfl rfl fun h2 x2 l2 g2 => ?_
  refine w_nilc (w_offP (w_offP (w_rdP (x2.some (x1.some hr)) (v := .map (some V.mi)) rfl ?_)))
  refine range_set Try.underlying88 ((b.now.ex x1).ex x2) fun o m0 hi => ?_
  have x3 : Ex h2 (h2 ++ [o]) := .app _ _
  have l3 : (h2 ++ [o]).length = h2.length + 1 := by simp
  generalize h2 ++ [o] = h3 at *
  have nm : SetP h3 h.length (fun _ => False) := (SetM.empty g1).ex (x2.trans x3)
  refine loopE_intro (fun m e h' => ∃ D : Row, e 0 = .pointer (some ⟨f, 0, none⟩) ∧ e 1 = .int .i64 k ∧ e 4 = .pointer (some ⟨h1.length, 0, none⟩) ∧ e 16 = .pointer (some ⟨h2.length, 0, none⟩) ∧
    Ex h h' ∧ h2.length < h'.length ∧ h'[h1.length]? = some (.row [.map (some h.length), .int .i64 k] true) ∧ SetP h' h.length (openRow st.m D k) ∧ IterM eP one1 h' h2.length V.mi st.now.row D m) m0
    ⟨fun _ => False, rfl, rfl, rfl, rfl, (x1.trans x2).trans x3, by omega, x3.some g2, nm.congr (fun x => by simp [openRow]), hi⟩ ?_
  rintro I m e h4 ⟨D, e0, e1, e4, e20, hx, hrl, hbox, hset, hit⟩ hI
  rw [e0, e4, e20]
  have hmi : V.mi < h.length := b.now.lt
  refine next_set hit (fun p o' m' hp hnd hm' hit' hent => ?_) (fun hall => ?_)
  · have y1 : Ex h (h4.set h2.length o') := hx.set (by omega) _
    have yb : (h4.set h2.length o')[h1.length]? = some (.row [.map (some h.length), .int .i64 k] true) := by rw [get_ne (by omega)]; exact hbox
    have ys : SetP (h4.set h2.length o') h.length (openRow st.m D k) := hset.same (get_ne (by omega) _)
    have yl : h2.length < (h4.set h2.length o').length := by simpa using hrl
    generalize h4.set h2.length o' = h5 at *
    refine w_some rfl (c_t ?_)
    refine w_some hent (w_some rfl ?_)
    refine n_var rfl rfl rfl fun h6 x6 l6 g6 => ?_
    refine w_nilc (w_offP (w_offP (w_rdP (x6.some (y1.some hr)) (v := V.vo) rfl ?_)))
    refine w_len b.opens ?_
    refine loopE_intro (fun n e' h' => ∃ j : Nat, j ≤ st.m.opens.length ∧ n = st.m.opens.length - j ∧ e' 0 = .pointer (some ⟨f, 0, none⟩) ∧ e' 1 = .int .i64 k ∧ e' 4 = .pointer (some ⟨h1.length, 0, none⟩) ∧ e' 16 = .pointer (some ⟨h2.length, 0, none⟩) ∧
      e' 5 = .pointer (some ⟨h5.length, 0, none⟩) ∧ e' 25 = V.vo ∧ e' 26 = .int .i64 st.m.opens.length ∧ e' 27 = .int .i64 j ∧
      Ex h h' ∧ h5.length < h'.length ∧ h'[h1.length]? = some (.row [.map (some h.length), .int .i64 k] true) ∧ h'[h5.length]? = some (.row (cellsL (eP p)) true) ∧
      SetP h' h.length (fun q => openRow st.m D k q ∨ q.1 = q.2 ∧ ∃ o ∈ st.m.opens.take j, o.1 = p.2 ∧ o.2.1 = k ∧ o.2.2.1 = q.1) ∧ IterM eP one1 h' h2.length V.mi st.now.row (fun y => D y ∨ y = p) m') st.m.opens.length
      ⟨0, Nat.zero_le _, rfl, e0, e1, e4, e20, rfl, rfl, rfl, rfl, y1.trans x6, by omega, x6.some yb, g6, (ys.ex x6).congr (fun q => by simp), hit'.keep (x6.get _ (by have := y1.len; omega)) (x6.get _ yl)⟩ ?_
    rintro I1 n e' h7 ⟨j, hj, hn, f0, f1, f4, f20, f5, f29, f30, f31, zx, zl, zb, zp, zs, zi⟩ hI1
    rw [f29, f30, f31, f5, f4, f1]
    refine w_lss ?_
    refine c_dec (fun hc => ?_) (fun hc => ?_)
    · obtain ⟨t, ht⟩ := getElem?_of_lt (l := st.m.opens) (i := j) (by omega)
      refine w_idxN e4_len (b.opens.ex zx) ht fun q hq => ?_
      refine w_rdA hq rfl ?_
      refine n_var rfl rfl rfl fun h8 x8 l8 g8 => ?_
      refine w_offP (w_rdP g8 (v := .int .i64 t.1) rfl ?_)
      refine w_offP (w_rdP (x8.some zp) (v := .int .i64 p.2) rfl ?_)
      refine w_eql ?_
      have next : ∀ h9 v45 e9, Ex h h9 → h5.length < h9.length → h9[h1.length]? = some (.row [.map (some h.length), .int .i64 k] true) → h9[h5.length]? = some (.row (cellsL (eP p)) true) →
          SetP h9 h.length (fun q => openRow st.m D k q ∨ q.1 = q.2 ∧ ∃ o ∈ st.m.opens.take (j + 1), o.1 = p.2 ∧ o.2.1 = k ∧ o.2.2.1 = q.1) → IterM eP one1 h9 h2.length V.mi st.now.row (fun y => D y ∨ y = p) m' →
          e9 0 = .pointer (some ⟨f, 0, none⟩) → e9 1 = .int .i64 k → e9 4 = .pointer (some ⟨h1.length, 0, none⟩) → e9 16 = .pointer (some ⟨h2.length, 0, none⟩) → e9 5 = .pointer (some ⟨h5.length, 0, none⟩) → e9 25 = V.vo → e9 26 = .int .i64 st.m.opens.length → v45 = .int .i64 ((j + 1 : Nat) : Int) → e9 27 = v45 → I1 e9 h9 :=
        fun h9 v45 e9 a1 a2 a3 a4 a5 a6 b0 b1 b4 b20 b5 b29 b30 bv b31 => hI1 (n - 1) _ _ (by omega) ⟨j + 1, by omega, by omega, b0, b1, b4, b20, b5, b29, b30, b31.trans bv, a1, a2, a3, a4, a5, a6⟩
      have zi8 : IterM eP one1 h8 h2.length V.mi st.now.row (fun y => D y ∨ y = p) m' := zi.keep (x8.get _ (by have := zx.len; omega)) (x8.get _ (by omega))
      by_cases q1 : t.1 = p.2
      · refine g_tt q1 (w_offP ?_)
        refine g_tt q1 (w_rdP g8 (v := .int .i64 t.2.1) rfl ?_)
        refine g_tt q1 ?_
        refine g_tt q1 (w_eql ?_)
        refine pk_tt q1 ?_
        refine c_dec (fun q2 => ?_) (fun q2 => ?_)
        · refine w_offP (w_rdP (x8.some zb) (v := .map (some h.length)) rfl ?_)
          refine w_offP (w_rdP g8 (v := .int .i64 t.2.2.1) rfl ?_)
          refine w_offP (w_rdP g8 (v := .int .i64 t.2.2.1) rfl ?_)
          refine w_some rfl ?_
          refine set_put (enc := eP) (one := one1) (x := (t.2.2.1, t.2.2.1)) Try.underlying88 keyP (zs.ex x8) fun o8 zs8 => ?_
          (repeat' (first | (with_reducible refine w_lss ?_) | (with_reducible refine w_leq ?_) | (with_reducible refine w_gtr ?_) | (with_reducible refine w_geq ?_) | (with_reducible refine w_eql ?_) | (with_reducible refine w_neq ?_) | (with_reducible refine w_lenSl ?_) | (with_reducible refine w_lenStr ?_) | (with_reducible refine w_not ?_) | (with_reducible refine w_add (by omega) (by omega) ?_) | (with_reducible refine w_sub (by omega) (by omega) ?_) | (with_reducible refine w_rem (by omega) (by omega) ?_) | (with_reducible refine w_quo (by omega) (by omega) (by omega) ?_) | (with_reducible refine w_seql ?_) | (with_reducible refine w_sneq ?_) | (with_reducible refine c_t ?_) | (with_reducible refine c_f ?_) | (with_reducible refine c_tt (by first | assumption | omega) ?_) | (with_reducible refine c_ff (by first | assumption | omega) ?_) | (with_reducible refine c_dec (fun hc => ?_) (fun hc => ?_)) | (with_reducible refine c_b (fun hc => ?_) (fun hc => ?_)) | (with_reducible refine gc_tt ?_) | (with_reducible refine gc_ft ?_) | (with_reducible refine gc_tf ?_) | (with_reducible refine gc_ff ?_) | (with_reducible refine g_tt (by first | assumption | omega) ?_) | (with_reducible refine g_tf (by first | assumption | omega) ?_) | (with_reducible refine g_ft (by first | assumption | omega) ?_) | (with_reducible refine g_ff (by first | assumption | omega) ?_) | (with_reducible refine g_dec (fun hc => ?_) (fun hc => ?_)) | (with_reducible refine g_decf (fun hc => ?_) (fun hc => ?_)) | (with_reducible refine pk_t ?_) | (with_reducible refine pk_f ?_) | (with_reducible refine pk_tt (by first | assumption | omega) ?_) | (with_reducible refine pk_ff (by first | assumption | omega) ?_)))
          refine next _ _ _ ((zx.trans x8).set (Nat.le_refl _) _) (by simp; omega) (by rw [get_ne (by omega)]; exact x8.some zb) (by rw [get_ne (by have := y1.len; omega)]; exact x8.some zp) (zs8.congr fun q => ?_)
            (zi8.keep (get_ne (by omega) _) (get_ne (by omega) _)) f0 f1 f4 f20 f5 f29 f30 rfl rfl
          rw [ex_take_succ ht]
          obtain ⟨qa, qb⟩ := q
          simp only [q1, q2, true_and, Prod.mk.injEq]
          grind
        · (repeat' (first | (with_reducible refine w_lss ?_) | (with_reducible refine w_leq ?_) | (with_reducible refine w_gtr ?_) | (with_reducible refine w_geq ?_) | (with_reducible refine w_eql ?_) | (with_reducible refine w_neq ?_) | (with_reducible refine w_lenSl ?_) | (with_reducible refine w_lenStr ?_) | (with_reducible refine w_not ?_) | (with_reducible refine w_add (by omega) (by omega) ?_) | (with_reducible refine w_sub (by omega) (by omega) ?_) | (with_reducible refine w_rem (by omega) (by omega) ?_) | (with_reducible refine w_quo (by omega) (by omega) (by omega) ?_) | (with_reducible refine w_seql ?_) | (with_reducible refine w_sneq ?_) | (with_reducible refine c_t ?_) | (with_reducible refine c_f ?_) | (with_reducible refine c_tt (by first | assumption | omega) ?_) | (with_reducible refine c_ff (by first | assumption | omega) ?_) | (with_reducible refine c_dec (fun hc => ?_) (fun hc => ?_)) | (with_reducible refine c_b (fun hc => ?_) (fun hc => ?_)) | (with_reducible refine gc_tt ?_) | (with_reducible refine gc_ft ?_) | (with_reducible refine gc_tf ?_) | (with_reducible refine gc_ff ?_) | (with_reducible refine g_tt (by first | assumption | omega) ?_) | (with_reducible refine g_tf (by first | assumption | omega) ?_) | (with_reducible refine g_ft (by first | assumption | omega) ?_) | (with_reducible refine g_ff (by first | assumption | omega) ?_) | (with_reducible refine g_dec (fun hc => ?_) (fun hc => ?_)) | (with_reducible refine g_decf (fun hc => ?_) (fun hc => ?_)) | (with_reducible refine pk_t ?_) | (with_reducible refine pk_f ?_) | (with_reducible refine pk_tt (by first | assumption | omega) ?_) | (with_reducible refine pk_ff (by first | assumption | omega) ?_)))
          refine next _ _ _ (zx.trans x8) (by have := x8.len; omega) (x8.some zb) (x8.some zp) ((zs.ex x8).congr fun q => ?_) zi8 f0 f1 f4 f20 f5 f29 f30 rfl rfl
          rw [ex_take_succ ht]
          simp only [q2, false_and, and_false, or_false]
      · refine g_tf q1 ?_
        refine g_tf q1 ?_
        refine g_tf q1 ?_
        refine g_tf q1 ?_
        refine pk_ff q1 (c_f ?_)
        (repeat' (first | (with_reducible refine w_lss ?_) | (with_reducible refine w_leq ?_) | (with_reducible refine w_gtr ?_) | (with_reducible refine w_geq ?_) | (with_reducible refine w_eql ?_) | (with_reducible refine w_neq ?_) | (with_reducible refine w_lenSl ?_) | (with_reducible refine w_lenStr ?_) | (with_reducible refine w_not ?_) | (with_reducible refine w_add (by omega) (by omega) ?_) | (with_reducible refine w_sub (by omega) (by omega) ?_) | (with_reducible refine w_rem (by omega) (by omega) ?_) | (with_reducible refine w_quo (by omega) (by omega) (by omega) ?_) | (with_reducible refine w_seql ?_) | (with_reducible refine w_sneq ?_) | (with_reducible refine c_t ?_) | (with_reducible refine c_f ?_) | (with_reducible refine c_tt (by first | assumption | omega) ?_) | (with_reducible refine c_ff (by first | assumption | omega) ?_) | (with_reducible refine c_dec (fun hc => ?_) (fun hc => ?_)) | (with_reducible refine c_b (fun hc => ?_) (fun hc => ?_)) | (with_reducible refine gc_tt ?_) | (with_reducible refine gc_ft ?_) | (with_reducible refine gc_tf ?_) | (with_reducible refine gc_ff ?_) | (with_reducible refine g_tt (by first | assumption | omega) ?_) | (with_reducible refine g_tf (by first | assumption | omega) ?_) | (with_reducible refine g_ft (by first | assumption | omega) ?_) | (with_reducible refine g_ff (by first | assumption | omega) ?_) | (with_reducible refine g_dec (fun hc => ?_) (fun hc => ?_)) | (with_reducible refine g_decf (fun hc => ?_) (fun hc => ?_)) | (with_reducible refine pk_t ?_) | (with_reducible refine pk_f ?_) | (with_reducible refine pk_tt (by first | assumption | omega) ?_) | (with_reducible refine pk_ff (by first | assumption | omega) ?_)))
        refine next _ _ _ (zx.trans x8) (by have := x8.len; omega) (x8.some zb) (x8.some zp) ((zs.ex x8).congr fun q => ?_) zi8 f0 f1 f4 f20 f5 f29 f30 rfl rfl
        rw [ex_take_succ ht]
        simp only [q1, false_and, or_false]
    · have hje : j = st.m.opens.length := by omega
      subst hje
      rw [List.take_length] at zs
      exact hI m' _ _ hm' ⟨_, f0, f1, f4, f20, zx, by omega, zb, zs.congr fun q => openRow_grow, zi⟩
  · refine w_some rfl (c_f ?_)
    have hlt := lt_of_get hr
    refine w_nilc (w_offP ?_)
    refine w_rdP ((Ex.res h4).some (hx.some hr)) (v := V.vu) rfl ?_
    refine w_nilc (w_offP ?_)
    refine w_rdPA ((Ex.res h4).some (hx.some hr)) (by simp [rowOf]) ?_
    refine w_some (bldSl_one rfl (by decide) rfl rfl) ?_
    refine n_slot ?_
    rw [reserve_set]
    have b1 := newnow (i := h.length) (R := openRow st.m st.now.row k) (by' := k) b hx (Nat.le_refl _) (hset.congr fun q => openRow_congr hall)
    have nmi : ¬ wIds f { V with mi := h.length } V.mi := fun h => b.sep _ h (.inr (.inr (.inr (.inr (.inr (.inr (.inl rfl)))))))
    have hlast : (h4 ++ [AObj.row (cellsL (.agg (((rowOf V st).drop (0 + 7)).take 2).toArray)) true])[h4.length]? = some (.row (eL (V.mi, st.now.bys)) true) := get_new _ _
    have x9 : Ex h4 (h4 ++ [AObj.row (cellsL (.agg (((rowOf V st).drop (0 + 7)).take 2).toArray)) true]) := .app _ _
    have l9 : (h4 ++ [AObj.row (cellsL (.agg (((rowOf V st).drop (0 + 7)).take 2).toArray)) true]).length = h4.length + 1 := by simp
    generalize h4 ++ [AObj.row (cellsL (.agg (((rowOf V st).drop (0 + 7)).take 2).toArray)) true] = h9 at *
    have b9 := b1.same (h' := h9) x9.len (fun j hj => x9.get j (b1.lt j (b1.rF j hj))) (fun j hj => x9.get j (b1.lt j (by
      rcases hj with h | h | h
      · exact (b1.s.on h).1
      · exact (b1.word.on h).1
      · exact (b1.under.on h).1)))
    refine appSl_of (app_g (by decide) b9.under (srcL_new hlast (by decide) rfl) rfl (by show V.ul.length + 1 < room40; omega) ?_)
    intro v' h10 o1 o2 o3 o4
    have hbx : h10[h1.length]? = h9[h1.length]? := o3 _ (by omega) fun hh => by
      have := b.lt _ (b.under.on hh).1
      omega
    refine ⟨fun x hxx => ?_, fun x hxx => ?_, ?_⟩
    · have : x = h1.length := by simpa [idOf] using hxx
      rw [this]; exact hbx.symm
    · have : x = h1.length := by simpa [idOf] using hxx
      rw [this, (Ex.res h4).get _ (by omega), x9.get _ (by omega)]
    refine w_rdPA (hbx.trans (x9.some hbox)) (Nat.le_refl 2) ?_
    have hf10 : h10[f]? = some (.row (rowOf V st) true) := (o3 _ (by have := hx.lt hlt; omega) b9.sf.2.2).trans (x9.some (hx.some hr))
    refine w_nilc (w_offP ?_)
    obtain ⟨va, vcap, rfl⟩ := o1.sl.shape
    refine w_stP hf10 (by simp [rowOf]) rfl rfl ?_
    have hfl := lt_of_get hf10
    refine ⟨fun x hxx => ?_, ?_⟩
    · have : x = h1.length := by simpa [idOf] using hxx
      rw [this, get_ne (by omega)]
    refine w_nilc (w_offP ?_)
    refine w_stPA (get_set _ hfl _) rfl (by simp [rowOf]) rfl ?_
    have F10 : ∀ j, (fun j => (F j ∨ j = h.length) ∨ j = h9.length) j → j < h10.length ∨ j = h9.length := fun j hj => hj.imp (fun h => by have := b9.lt j h; omega) id
    have bb := newunder (F' := fun j => ((F j ∨ j = h.length) ∨ j = h9.length) ∧ j < h10.length) (R0 := st.now.row) (mi0 := V.mi) (by0 := st.now.bys) b9 o2 (fun j hj hn => o3 j (b9.lt j hj) hn)
      (o1.mono (fun j hj hF => ⟨hF, (o1.on hj).2⟩) fun _ _ _ => rfl) (fun j hj => (o4 j hj).imp id fun e => Nat.le_of_eq e.symm) (fun j hj => ⟨.inl hj, by have := b9.lt j hj; omega⟩) (fun j hj => hj.2)
      (((b.now.ex hx).ex x9).same (o3 _ (by have := hx.lt hmi; omega) fun hh => b.sep _ (.inr (.inr (.inr hh))) (.inr (.inr (.inr (.inr (.inr (.inr (.inl rfl)))))))))
      (.inl (b.rF _ (.inr (.inr (.inr (.inr (.inr (.inr (.inl rfl))))))))) nmi
    refine kk _ _ ⟨_, ?_, (bb.setf _).setf _⟩ ⟨by simp; have := hx.len; omega, fun j hj hF => ?_, fun j hj => ?_⟩
    · rw [get_set _ (by simpa using hfl)]
      rfl
    · have hjf : f ≠ j := fun e => hF (by rw [← e]; exact b.ff)
      rw [get_ne hjf, get_ne hjf, o3 j (by have := hx.len; omega) fun hh => hF (b.under.on hh).1, x9.get j (by have := hx.len; omega)]
      exact hx.get j hj
    · rcases hj.1 with (h | rfl) | rfl
      · exact .inl h
      · exact .inr (Nat.le_refl _)
      · exact .inr (by have := hx.len; omega)
end Go.Proofs.Ytebbjimmgblcpaa.W
