/- A feed of the machine that takes all: made, written to: walks. Conditions: none. -/
import Derived.Test.YtebbjimmgblcpaaQF19
import Derived.Test.YtebbjimmgblcpaaQF20
import Derived.Test.YtebbjimmgblcpaaQF21
namespace Go.Proofs.Ytebbjimmgblcpaa.W
open Go Go.AM FeedM
set_option linter.unusedVariables false
set_option maxRecDepth 100000

abbrev I64 (n : Int) : Prop := -9223372036854775808 ≤ n ∧ n ≤ 9223372036854775807
abbrev U8 (n : Int) : Prop := 0 ≤ n ∧ n ≤ 255
theorem FR.lt {h : AH} {f : Nat} {st : FS} {F : Nat → Prop} (r : FR h f st F) : ∀ j, F j → j < h.length := by
  obtain ⟨V, _, b⟩ := r
  exact b.lt

theorem each_small : ∀ l ∈ symChoices, (Uof (eachM l)).length ≤ 40 ∧ (eachM l).final.length ≤ 2 ∧ (eachM l).init.length ≤ 2 ∧ (eachM l).opens.length ≤ 40 ∧ (eachM l).closes.length ≤ 40 ∧ (eachM l).inners.length ≤ 40 := by decide

theorem big40 : (10000000 : Nat) < room40 := by decide

theorem fit_each {l : List Sy} (lc : l ∈ symChoices) (d : Int) : Fit (FeedM.new l (eachM l) d) 1000000 := by
  have h := each_small l lc
  have := small_choices l lc
  have := big40
  exact Fit.new (by omega) (by omega) (by omega) (by omega)

/-- a machine's value -/
def MV (h : AH) (v : Value) (m : Mach) : Prop := ∃ vi vf vo vc vn, v = .agg (mcells m.n m.g vi vf vo vc vn).toArray ∧ Ints h vi m.init ∧ Ints h vf m.final ∧ SlT 4 e4 h vo m.opens ∧ SlT 4 e4 h vc m.closes ∧ SlT 3 e3 h vn m.inners
theorem MV.ex {h h' : AH} {v : Value} {m : Mach} (hv : MV h v m) (x : Ex h h') : MV h' v m := by
  obtain ⟨vi, vf, vo, vc, vn, e, p1, p2, p3, p4, p5⟩ := hv
  exact ⟨vi, vf, vo, vc, vn, e, p1.ex x, p2.ex x, p3.ex x, p4.ex x, p5.ex x⟩

theorem eachA {h : AH} {v0 : Value} {l : List Sy} {K : Value → AH → Prop} (hl : Syms h v0 l) (lc : l ∈ symChoices)
    (k : ∀ h' vm, Ex h h' → MV h' vm (eachM l) → K vm h') : callW Try.prog 32 [v0] h K := by
  have := small_choices l lc
  refine each32 hl (by omega) fun h1 vi vf vo vc vn x1 p1 p2 p3 p4 p5 => ?_
  exact k h1 _ x1 ⟨vi, vf, vo, vc, vn, rfl, p1, p2, p3, p4, p5⟩

theorem newA {h : AH} {v0 vm : Value} {l : List Sy} {m : Mach} {deep : Int} {K : Value → AH → Prop} (hl : Syms h v0 l) (hm : MV h vm m)
    (bl : l.length < room40) (b1 : m.init.length < room40) (b2 : m.final.length < room40) (b3 : m.opens.length < room40) (b4 : m.closes.length < room40) (b5 : m.inners.length < room40)
    (k : ∀ h' f F', Ex h h' → FR h' f (FeedM.new l m deep) F' → (∀ j, F' j → h.length ≤ j) → K (.pointer (some ⟨f, 0, none⟩)) h') :
    callW Try.prog 22 [v0, vm, .int .i64 deep] h K := by
  obtain ⟨vi, vf, vo, vc, vn, rfl, p1, p2, p3, p4, p5⟩ := hm
  exact new22 hl p1 p2 p3 p4 p5 bl b1 b2 b3 b4 b5 k

theorem newE {h : AH} {v0 vm : Value} {l : List Sy} {deep : Int} {K : Value → AH → Prop} (hl : Syms h v0 l) (hm : MV h vm (eachM l)) (lc : l ∈ symChoices)
    (k : ∀ h' f F', Ex h h' → FR h' f (FeedM.new l (eachM l) deep) F' → (∀ j, F' j → h.length ≤ j) → K (.pointer (some ⟨f, 0, none⟩)) h') :
    callW Try.prog 22 [v0, vm, .int .i64 deep] h K := by
  have q := each_small l lc
  have := small_choices l lc
  have := big40
  exact newA hl hm (by omega) (by omega) (by omega) (by omega) (by omega) (by omega) k

theorem writeS {h : AH} {f : Nat} {st : FS} {F : Nat → Prop} {s : List UInt8} {b : Nat} {K : Value → Value → AH → Prop} (r : FR h f st F) (ft : Fit st (5 * s.length + b)) (hcl : st.closed = false)
    (k : ∀ v h' F', FR h' f (FeedM.write st s) F' → Chg F h F' h' → K v (.tuple #[.int .i64 (FeedM.write st s).place, .int .i64 (FeedM.write st s).e]) h') :
    strB (.string (bs s)) none h fun v h9 => callW Try.prog 23 [.pointer (some ⟨f, 0, none⟩), v] h9 (K v) := by
  have := ft.sb
  refine w_strB (by omega) fun v h2 x2 l2 sv id2 => ?_
  have lt1 := r.lt
  exact write23 (r.ex x2) ft hcl sv (fun j hj hF => by have := id2 j hj; have := lt1 j hF; omega) fun h3 F3 r3 c3 => k v h3 F3 r3 ((Chg.ex x2).trans c3)

/-- the state behind so many bytes of a text -/
theorem write_snoc (st : FS) (t : List UInt8) (i : Nat) (c : UInt8) (h : t[i]? = some c) : FeedM.write (FeedM.write st (t.take i)) [c] = FeedM.write st (t.take (i + 1)) := by
  rw [← write_app, ← take_succ_get h]

theorem slB1 {h : AH} {c : UInt8} {cs : List Value} (hc : cs = eB c) : SlT 1 eB (h ++ [.row cs true]) (.slice (some ⟨h.length, 0, none⟩) 1 1) [c] := by
  subst hc
  exact ⟨rfl, .inr ⟨h.length, 0, 1, rfl, .inl ⟨(by decide : 1 < openCap), Nat.le_refl 1⟩, .inr ⟨_, true, get_new _ _, Nat.le_refl 1, rfl⟩⟩⟩

theorem writeB {h : AH} {f : Nat} {st : FS} {F : Nat → Prop} {c : UInt8} {cs : List Value} {b : Nat} {K : Value → AH → Prop} (hc : cs = eB c) (r : FR h f st F) (ft : Fit st (5 + b)) (hcl : st.closed = false)
    (k : ∀ h' F', FR h' f (FeedM.write st [c]) F' → Chg F h F' h' → K (.tuple #[.int .i64 (FeedM.write st [c]).place, .int .i64 (FeedM.write st [c]).e]) h') :
    callW Try.prog 23 [.pointer (some ⟨f, 0, none⟩), .slice (some ⟨h.length, 0, none⟩) 1 1] (h ++ [.row cs true]) K := by
  have x : Ex h (h ++ [.row cs true]) := .app _ _
  have lt1 := r.lt
  refine write23 (bs := [c]) (b := b) (r.ex x) ft hcl (slB1 hc) (fun j hj hF => ?_) fun h3 F3 r3 c3 => k h3 F3 r3 ((Chg.ex x).trans c3)
  have : h.length = j := hj
  have := lt1 j hF
  omega

theorem sym_none {st : FS} {n : List UInt8} {k : Int} (h : idxOf (n, k) st.l < 0) : FeedM.sym st n k = FeedM.wrong { st with s := [] } 12 st.at_ := by
  unfold FeedM.sym
  rw [if_pos h]

theorem zz_none : ∀ l ∈ symChoices, idxOf ([122, 122], 1) l < 0 ∧ idxOf ([122, 122], 3) l < 0 := by decide

def soonTs : List (List UInt8) := [[63], [60, 63], [60, 97, 63], [60, 122, 122, 62], [122, 122, 63], [97, 98, 99, 100, 101, 102, 103, 104, 105], [60, 47, 97, 47]]

theorem soon_at {l : List Sy} (lc : l ∈ symChoices) : ∀ (t : List UInt8), t ∈ soonTs → ∀ st : FS, st.l = l → st.s = [] → st.e = 0 →
    (FeedM.write st t.dropLast).e = 0 ∧ (FeedM.write st t).e = 12 ∧ (FeedM.write st t).place = st.read := by
  intro t ht st hl hs he
  obtain ⟨z1, z2⟩ := zz_none l lc
  obtain ⟨m, now, under, s, at_, l', deep, read, word, e, place, closed⟩ := st
  have hl : l' = l := hl
  have hs : s = [] := hs
  have he : e = 0 := he
  subst hl hs he
  unfold soonTs at ht
  simp only [List.mem_cons, List.not_mem_nil, or_false] at ht
  rcases ht with rfl | rfl | rfl | rfl | rfl | rfl | rfl
  · exact ⟨by kernel_rfl, by kernel_rfl, by kernel_rfl⟩
  · exact ⟨by kernel_rfl, by kernel_rfl, by kernel_rfl⟩
  · exact ⟨by kernel_rfl, by kernel_rfl, by kernel_rfl⟩
  · have e1 : FeedM.write ⟨m, now, under, [], at_, l', deep, read, word, 0, place, closed⟩ [60, 122, 122, 62] = rd1 (FeedM.sym ⟨m, now, under, [60, 122, 122], read, l', deep, read + 1 + 1 + 1, word, 0, place, closed⟩ [122, 122] 1) := by kernel_rfl
    rw [e1, sym_none z1]
    exact ⟨by kernel_rfl, by kernel_rfl, by kernel_rfl⟩
  · have e1 : FeedM.write ⟨m, now, under, [], at_, l', deep, read, word, 0, place, closed⟩ [122, 122, 63] = rd1 (FeedM.step1 (FeedM.sym ⟨m, now, under, [122, 122], read, l', deep, read + 1 + 1, word, 0, place, closed⟩ [122, 122] 3) 63) := by kernel_rfl
    rw [e1, sym_none z2]
    exact ⟨by kernel_rfl, by kernel_rfl, by kernel_rfl⟩
  · exact ⟨by kernel_rfl, by kernel_rfl, by kernel_rfl⟩
  · exact ⟨by kernel_rfl, by kernel_rfl, by kernel_rfl⟩

theorem write_e0 {st : FS} {t : List UInt8} {i : Nat} (h : (FeedM.write st t.dropLast).e = 0) (hi : i < t.length) : (FeedM.write st (t.take i)).e = 0 := by
  refine Classical.byContradiction fun g => ?_
  have : t.dropLast = t.take i ++ t.dropLast.drop i := by
    conv => lhs; rw [← List.take_append_drop i t.dropLast]
    rw [List.dropLast_eq_take, List.take_take, Nat.min_eq_left (by omega)]
  rw [this, write_app, write_err g] at h
  exact g h
end Go.Proofs.Ytebbjimmgblcpaa.W
