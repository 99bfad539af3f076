/- A feed in memory. Conditions: none. -/
import Derived.Test.YtebbjimmgblcpaaQF2
import Derived.Test.YtebbjimmgblcpaaQA2
namespace Go.Proofs.Ytebbjimmgblcpaa.W
open Go Go.AM FeedM
set_option linter.unusedVariables false
set_option maxRecDepth 100000

def eP (p : Int × Int) : Value := .agg #[.int .i64 p.1, .int .i64 p.2]
def e4 (x : Int × Int × Int × Int) : List Value := [.int .i64 x.1, .int .i64 x.2.1, .int .i64 x.2.2.1, .int .i64 x.2.2.2]
def e3 (x : Int × Int × Int) : List Value := [.int .i64 x.1, .int .i64 x.2.1, .int .i64 x.2.2]
theorem e4_len (x : Int × Int × Int × Int) : (e4 x).length = 4 := rfl
theorem e3_len (x : Int × Int × Int) : (e3 x).length = 3 := rfl
def one1 : Value := .int .i64 1
abbrev SetP := SetM eP one1

/-- a level in a row: its map, by which symbol. -/
def eL (x : Nat × Int) : List Value := [.map (some x.1), .int .i64 x.2]
theorem eL_len (x : Nat × Int) : (eL x).length = 2 := rfl

/-- the values of a feed's fields that stand on memory. -/
structure FV where
  vi : Value
  vf : Value
  vo : Value
  vc : Value
  vn : Value
  mi : Nat
  vu : Value
  vs : Value
  vl : Value
  vw : Value
  ul : List (Nat × Int)

def rowOf (V : FV) (st : FS) : List Value :=
  [.int .i64 st.m.n, .int .i64 st.m.g, V.vi, V.vf, V.vo, V.vc, V.vn, .map (some V.mi), .int .i64 st.now.bys, V.vu, V.vs, .int .i64 st.at_, V.vl, .int .i64 st.deep, .int .i64 st.read, V.vw, .int .i64 st.e, .int .i64 st.place, .bool st.closed]

/-- what is only read; what may be written. -/
def rIds (V : FV) (j : Nat) : Prop := onId V.vi j ∨ onId V.vf j ∨ onId V.vo j ∨ onId V.vc j ∨ onId V.vn j ∨ onId V.vl j ∨ j = V.mi ∨ j ∈ V.ul.map (·.1)
def wIds (f : Nat) (V : FV) (j : Nat) : Prop := j = f ∨ onId V.vs j ∨ onId V.vw j ∨ onId V.vu j

def Lvs (h : AH) : List (Nat × Int) → List Lv → Prop
  | [], [] => True
  | a :: l, b :: m => a.2 = b.bys ∧ SetP h a.1 b.row ∧ Lvs h l m
  | _, _ => False

structure FRB (h : AH) (f : Nat) (V : FV) (st : FS) (F : Nat → Prop) : Prop where
  init : Ints h V.vi st.m.init
  final : Ints h V.vf st.m.final
  opens : SlT 4 e4 h V.vo st.m.opens
  closes : SlT 4 e4 h V.vc st.m.closes
  inners : SlT 3 e3 h V.vn st.m.inners
  now : SetP h V.mi st.now.row
  under : OwnG 2 F h V.vu V.ul.length (flat eL V.ul)
  lvs : Lvs h V.ul st.under
  s : OwnG 1 F h V.vs st.s.length (flat eB st.s)
  l : Syms h V.vl st.l
  word : OwnG 1 F h V.vw st.word.length (flat eI st.word)
  ff : F f
  rF : ∀ j, rIds V j → F j
  lt : ∀ j, F j → j < h.length
  sep : ∀ j, wIds f V j → ¬ rIds V j
  sf : ¬ onId V.vs f ∧ ¬ onId V.vw f ∧ ¬ onId V.vu f
  sw : ∀ j, onId V.vs j → ¬ onId V.vw j ∧ ¬ onId V.vu j
  wu : ∀ j, onId V.vw j → ¬ onId V.vu j

/-- A FEED AT f: its state; the objects that it stands on. -/
def FR (h : AH) (f : Nat) (st : FS) (F : Nat → Prop) : Prop := ∃ V, h[f]? = some (.row (rowOf V st) true) ∧ FRB h f V st F

/-- what has turned: the feed's own objects; new ones. -/
structure Chg (F : Nat → Prop) (h : AH) (F' : Nat → Prop) (h' : AH) : Prop where
  len : h.length ≤ h'.length
  get : ∀ j, j < h.length → ¬ F j → h'[j]? = h[j]?
  dom : ∀ j, F' j → F j ∨ h.length ≤ j

theorem Chg.refl (F : Nat → Prop) (h : AH) : Chg F h F h := ⟨Nat.le_refl _, fun _ _ _ => rfl, fun _ h => .inl h⟩
theorem Chg.trans {F F1 F2 : Nat → Prop} {h h1 h2 : AH} (a : Chg F h F1 h1) (b : Chg F1 h1 F2 h2) : Chg F h F2 h2 where
  len := Nat.le_trans a.len b.len
  get j hj hF := by
    rw [b.get j (Nat.lt_of_lt_of_le hj a.len) (fun h => (a.dom j h).elim hF (by omega)), a.get j hj hF]
  dom j hj := (b.dom j hj).elim (a.dom j) fun h => .inr (Nat.le_trans a.len h)

theorem Sl.same {s : Nat} {h h' : AH} {v : Value} {n : Nat} {cs : List Value} (hv : Sl s h v n cs) (hh : ∀ j, onId v j → h'[j]? = h[j]?) : Sl s h' v n cs := by
  refine ⟨hv.1, ?_⟩
  rcases hv.2 with h1 | ⟨id, off, cap, rfl, h2, h3⟩
  · exact .inl h1
  · refine .inr ⟨id, off, cap, rfl, h2, ?_⟩
    rcases h3 with h3 | ⟨c, w, h3, h4⟩
    · exact .inl h3
    · exact .inr ⟨c, w, (hh id rfl).trans h3, h4⟩

theorem Lvs.same {h h' : AH} : ∀ {l : List (Nat × Int)} {m : List Lv}, Lvs h l m → (∀ j ∈ l.map (·.1), h'[j]? = h[j]?) → Lvs h' l m
  | [], [], _, _ => trivial
  | [], _ :: _, h, _ => h.elim
  | _ :: _, [], h, _ => h.elim
  | a :: l, b :: m, ⟨h1, h2, h3⟩, hh => ⟨h1, h2.same (hh a.1 (by simp)), h3.same fun j hj => hh j (by simp only [List.map_cons, List.mem_cons]; exact .inr hj)⟩

/-- the body holds where its objects are as they were. -/
theorem FRB.same {h h' : AH} {f : Nat} {V : FV} {st : FS} {F : Nat → Prop} (b : FRB h f V st F) (hl : h.length ≤ h'.length) (hr : ∀ j, rIds V j → h'[j]? = h[j]?) (hw : ∀ j, onId V.vs j ∨ onId V.vw j ∨ onId V.vu j → h'[j]? = h[j]?) : FRB h' f V st F where
  init := Sl.same b.init fun j hj => hr j (.inl hj)
  final := Sl.same b.final fun j hj => hr j (.inr (.inl hj))
  opens := Sl.same b.opens fun j hj => hr j (.inr (.inr (.inl hj)))
  closes := Sl.same b.closes fun j hj => hr j (.inr (.inr (.inr (.inl hj))))
  inners := Sl.same b.inners fun j hj => hr j (.inr (.inr (.inr (.inr (.inl hj)))))
  now := b.now.same (hr _ (.inr (.inr (.inr (.inr (.inr (.inr (.inl rfl))))))))
  under := b.under.mono (fun _ _ h => h) fun j hj _ => hw j (.inr (.inr hj))
  lvs := b.lvs.same fun j hj => hr j (.inr (.inr (.inr (.inr (.inr (.inr (.inr hj)))))))
  s := b.s.mono (fun _ _ h => h) fun j hj _ => hw j (.inl hj)
  l := Sl.same b.l fun j hj => hr j (.inr (.inr (.inr (.inr (.inr (.inl hj))))))
  word := b.word.mono (fun _ _ h => h) fun j hj _ => hw j (.inr (.inl hj))
  ff := b.ff
  rF := b.rF
  lt j hj := Nat.lt_of_lt_of_le (b.lt j hj) hl
  sep := b.sep
  sf := b.sf
  sw := b.sw
  wu := b.wu

/-- the record alone is written. -/
theorem FRB.setf {h : AH} {f : Nat} {V : FV} {st : FS} {F : Nat → Prop} (b : FRB h f V st F) (o : AObj) : FRB (h.set f o) f V st F := by
  refine b.same (by simp) (fun j hj => get_ne ?_ _) (fun j hj => get_ne ?_ _)
  · rintro rfl; exact b.sep _ (.inl rfl) hj
  · rintro rfl
    rcases hj with h | h | h
    · exact b.sf.1 h
    · exact b.sf.2.1 h
    · exact b.sf.2.2 h

theorem FRB.to {h : AH} {f : Nat} {V : FV} {st st' : FS} {F : Nat → Prop} (b : FRB h f V st F) (h1 : st'.m = st.m) (h2 : st'.now.row = st.now.row) (h3 : st'.under = st.under) (h4 : st'.s = st.s) (h5 : st'.l = st.l) (h6 : st'.word = st.word) : FRB h f V st' F where
  init := by rw [h1]; exact b.init
  final := by rw [h1]; exact b.final
  opens := by rw [h1]; exact b.opens
  closes := by rw [h1]; exact b.closes
  inners := by rw [h1]; exact b.inners
  now := by rw [h2]; exact b.now
  under := b.under
  lvs := by rw [h3]; exact b.lvs
  s := by rw [h4]; exact b.s
  l := by rw [h5]; exact b.l
  word := by rw [h6]; exact b.word
  ff := b.ff
  rF := b.rF
  lt := b.lt
  sep := b.sep
  sf := b.sf
  sw := b.sw
  wu := b.wu

theorem Chg.setf {h : AH} {f : Nat} {F : Nat → Prop} (hf : F f) (o : AObj) : Chg F h F (h.set f o) :=
  ⟨by simp, fun j hj hF => get_ne (fun e => hF (by rw [← e]; exact hf)) _, fun j hj => .inl hj⟩

/-- the same objects, another one's turn. -/
theorem FR.keep {h h' : AH} {f : Nat} {st : FS} {F : Nat → Prop} (r : FR h f st F) (hl : h.length ≤ h'.length) (hh : ∀ j, F j → h'[j]? = h[j]?) : FR h' f st F := by
  obtain ⟨V, h1, b⟩ := r
  exact ⟨V, (hh f b.ff).trans h1, b.same hl (fun j hj => hh j (b.rF j hj)) fun j hj => hh j (by
    rcases hj with h | h | h
    · exact (b.s.on h).1
    · exact (b.word.on h).1
    · exact (b.under.on h).1)⟩

theorem letter61 {c : UInt8} {h : AH} {K : Value → AH → Prop} (k : K (.bool (letter c)) h) : callW Try.prog 61 [.int .u8 c.toNat] h K := by
  refine c61 ?_
  unfold s61
  unfold letter at k
  (repeat' (first | (with_reducible refine w_lss ?_) | (with_reducible refine w_leq ?_) | (with_reducible refine w_gtr ?_) | (with_reducible refine w_geq ?_) | (with_reducible refine w_eql ?_) | (with_reducible refine w_neq ?_) | (with_reducible refine w_lenSl ?_) | (with_reducible refine w_lenStr ?_) | (with_reducible refine w_not ?_) | (with_reducible refine w_add (by omega) (by omega) ?_) | (with_reducible refine w_sub (by omega) (by omega) ?_) | (with_reducible refine w_rem (by omega) (by omega) ?_) | (with_reducible refine w_quo (by omega) (by omega) (by omega) ?_) | (with_reducible refine w_seql ?_) | (with_reducible refine w_sneq ?_) | (with_reducible refine c_t ?_) | (with_reducible refine c_f ?_) | (with_reducible refine c_tt (by first | assumption | omega) ?_) | (with_reducible refine c_ff (by first | assumption | omega) ?_) | (with_reducible refine c_dec (fun hc => ?_) (fun hc => ?_)) | (with_reducible refine c_b (fun hc => ?_) (fun hc => ?_)) | (with_reducible refine gc_tt ?_) | (with_reducible refine gc_ft ?_) | (with_reducible refine gc_tf ?_) | (with_reducible refine gc_ff ?_) | (with_reducible refine g_tt (by first | assumption | omega) ?_) | (with_reducible refine g_tf (by first | assumption | omega) ?_) | (with_reducible refine g_ft (by first | assumption | omega) ?_) | (with_reducible refine g_ff (by first | assumption | omega) ?_) | (with_reducible refine g_dec (fun hc => ?_) (fun hc => ?_)) | (with_reducible refine g_decf (fun hc => ?_) (fun hc => ?_)) | (with_reducible refine pk_t ?_) | (with_reducible refine pk_f ?_) | (with_reducible refine pk_tt (by first | assumption | omega) ?_) | (with_reducible refine pk_ff (by first | assumption | omega) ?_)))
  · have : decide (97 ≤ c.toNat ∧ c.toNat ≤ 122) = decide ((c.toNat : Int) ≤ 122) := by
      rw [Bool.eq_iff_iff]; simp only [decide_eq_true_eq]; omega
    rw [this] at k
    exact k
  · have : decide (97 ≤ c.toNat ∧ c.toNat ≤ 122) = false := by
      rw [decide_eq_false_iff_not]; omega
    rw [this] at k
    exact k

theorem wrong48 {h : AH} {f : Nat} {st : FS} {F : Nat → Prop} {e place : Int} {K : Value → AH → Prop} (r : FR h f st F) (k : ∀ h', FR h' f (FeedM.wrong st e place) F → Chg F h F h' → K (.tuple #[]) h') : callW Try.prog 48 [.pointer (some ⟨f, 0, none⟩), .int .i64 e, .int .i64 place] h K := by
  obtain ⟨V, hr, b⟩ := r
  refine c48 ?_
  unfold s48
  refine w_nilc ?_
  refine w_offP ?_
  refine w_rdP hr (v := .int .i64 st.e) rfl ?_
  refine w_eql ?_
  refine c_dec (fun hc => ?_) (fun hc => ?_)
  · refine w_nilc ?_
    refine w_offP ?_
    refine w_stP hr (by simp [rowOf]) rfl rfl ?_
    have hf := lt_of_get hr
    refine w_nilc ?_
    refine w_offP ?_
    refine w_stP (get_set _ hf _) (by simp [rowOf]) rfl rfl ?_
    refine k _ ?_ ((Chg.setf b.ff _).trans (Chg.setf b.ff _))
    unfold FeedM.wrong
    rw [if_pos hc]
    exact ⟨V, by rw [get_set _ (by simpa using hf)]; rfl, ((b.setf _).setf _).to rfl rfl rfl rfl rfl rfl⟩
  · refine k _ ?_ (Chg.refl _ _)
    unfold FeedM.wrong
    rw [if_neg hc]
    exact ⟨V, hr, b⟩

theorem deep31 {h : AH} {f : Nat} {st : FS} {F : Nat → Prop} {K : Value → AH → Prop} (r : FR h f st F) (k : K (.int .i64 st.under.length) h) : callW Try.prog 31 [.pointer (some ⟨f, 0, none⟩)] h K := by
  obtain ⟨V, hr, b⟩ := r
  refine c31 ?_
  unfold s31
  refine w_nilc (w_offP (w_offP (w_rdP hr (v := V.vu) rfl ?_)))
  refine w_len b.under.sl ?_
  have : ∀ {l : List (Nat × Int)} {m : List Lv}, Lvs h l m → l.length = m.length := by
    intro l
    induction l with
    | nil => intro m hm; cases m with
      | nil => rfl
      | cons _ _ => exact hm.elim
    | cons a l ih => intro m hm; cases m with
      | nil => exact hm.elim
      | cons _ _ => simp only [List.length_cons]; rw [ih hm.2.2]
  rw [this b.lvs]
  exact k
end Go.Proofs.Ytebbjimmgblcpaa.W
