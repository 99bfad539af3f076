/- The document's inside of a machine of numbers: the walk. Conditions: none. -/
import Derived.Test.YtebbjimmgblcpaaQF34
namespace Go.Proofs.Ytebbjimmgblcpaa.W
open Go Go.AM FeedM
set_option linter.unusedVariables false
set_option maxRecDepth 100000

/-- two numbers more -/
theorem app_two {b : Nat} {h : AH} {v : Value} {q : List Int} {x y : Int} {K : Value → AH → Prop} (hq : QS 1 b h v q.length (flat eI q)) (hn : q.length + 2 < room40) (hb : b ≤ h.length)
    (k : ∀ v' h', QS 1 b h' v' (q ++ [x, y]).length (flat eI (q ++ [x, y])) → (∀ j, j < b → h'[j]? = h[j]?) → h.length ≤ h'.length → K v' h') :
    newW (some h.length) (.row [.int .i64 x, .int .i64 y] true) (reserve 1 h) fun i h6 => appSl 1 v (.slice (some ⟨i, 0, none⟩) 2 2) h6 K := by
  refine n_res (n_new ?_)
  have xx : Ex h (h ++ [AObj.row [.int .i64 x, .int .i64 y] true]) := .app _ _
  refine appSl_of (app_q (m := 2) (news := [.int .i64 x, .int .i64 y]) (by decide) (hq.ex xx) (srcL_new (get_new _ _) (by decide) rfl) rfl hn (by simp; omega) fun v' h' q1 l1 k1 => ?_)
  refine k v' h' ?_ (fun j hj => ?_) (by simp at l1; omega)
  · rw [flat_append, List.length_append]
    exact q1
  · rw [k1 j (by simp; omega) (fun hh => by have := hq.low hh; omega)]
    exact xx.get j (by omega)

theorem inside52 {h : AH} {vm : Value} {m : Mach} {l : List Sy} {K : Value → AH → Prop} (mv : MV h vm m) (ok : MkOK l m 25) (k : ∀ h', Ex h h' → K (.bool true) h') : callW Try.prog 52 [vm] h K := by
  have r40 : (10000000 : Nat) < room40 := big40
  have hN := ok.n
  have hC := ok.cnt
  refine c52 ?_
  unfold s52
  refine boxM mv fun h1 vi vf vo vc vn x1 l1 b1 => ?_
  refine copyIF b1 (by omega) fun h2 vq x2 qs a1 a2 a3 a4 a5 a6 a7 => ?_
  have inq : ∀ p ∈ m.init ++ m.final, 0 ≤ p ∧ p < m.n := fun p hp => (List.mem_append.1 hp).elim (ok.init p) (ok.final p)
  have lq : (m.init ++ m.final).length ≤ 25 := by rw [List.length_append]; omega
  generalize m.init ++ m.final = q0 at *
  refine loopE_intro (fun mm e h' => ∃ (i : Nat) (q : List Int), i ≤ m.inners.length ∧ mm = m.inners.length - i ∧ e 1 = .pointer (some ⟨h.length, 0, none⟩) ∧ e 4 = .int .i64 i ∧ Ex h1 h' ∧ QS 1 h1.length h' (e 3) q.length (flat eI q) ∧ q.length ≤ 25 + 2 * i ∧ (∀ p ∈ q, 0 ≤ p ∧ p < m.n)) m.inners.length
    ⟨0, q0, Nat.zero_le _, rfl, rfl, rfl, x2, qs, by omega, inq⟩ ?_
  clear qs inq lq
  rintro I mm e h' ⟨i, q, hi, hmm, eP, eC, hx, qs, bq, hq⟩ hI
  rw [eP, eC]
  have b3 := b1.ex hx
  have hlx := hx.len
  refine w_offP (w_rdP b3.row (v := vn) rfl (w_len b3.n (w_lss (c_dec (fun p1 => ?_) (fun p1 => ?_)))))
  · obtain ⟨o, ho⟩ := getElem?_of_lt (l := m.inners) (i := i) (by omega)
    have kk := ok.inners o (List.mem_of_getElem? ho)
    have b4 := b3.ex (Ex.res h')
    refine w_offP (w_rdP b4.row (v := vn) rfl ?_)
    refine w_idxN (enc := e3) (fun _ => rfl) b4.n ho fun p hp => w_off hp (Nat.zero_le _) fun p hp => w_rd1 hp rfl ?_
    refine w_offP (w_rdP b4.row (v := vn) rfl ?_)
    refine w_idxN (enc := e3) (fun _ => rfl) b4.n ho fun p hp => w_off hp (by exact (by decide : 2 ≤ 3)) fun p hp => w_rd1 hp rfl ?_
    refine w_some (v := [.int .i64 o.1, .int .i64 o.2.2]) rfl ?_
    refine app_two qs (by omega) (by omega) fun v' h3 q3 k3 l3 => ?_
    refine w_add (by omega) (by omega) ?_
    exact hI (mm - 1) _ _ (by omega) ⟨i + 1, q ++ [o.1, o.2.2], by omega, by omega, eP, rfl, ⟨by omega, fun j hj => (k3 j hj).trans (hx.get j hj)⟩, q3, (by simp; omega), fun p hp => by
      rcases List.mem_append.1 hp with hp | hp
      · exact hq p hp
      · simp only [List.mem_cons, List.not_mem_nil, or_false] at hp
        rcases hp with rfl | rfl
        · exact kk.1
        · exact kk.2.2⟩
  clear hI
  refine loopE_intro (fun mm e h' => ∃ (i : Nat) (q : List Int), i ≤ m.opens.length ∧ mm = m.opens.length - i ∧ e 1 = .pointer (some ⟨h.length, 0, none⟩) ∧ e 5 = .int .i64 i ∧ Ex h1 h' ∧ QS 1 h1.length h' (e 3) q.length (flat eI q) ∧ q.length ≤ 75 + 2 * i ∧ (∀ p ∈ q, 0 ≤ p ∧ p < m.n)) m.opens.length
    ⟨0, q, Nat.zero_le _, rfl, eP, rfl, hx, qs, by omega, hq⟩ ?_
  clear hx hmm hi p1 hlx eC b3 qs hq bq eP
  clear q e
  rintro I mm e h' ⟨i, q, hi, hmm, eP, eC, hx, qs, bq, hq⟩ hI
  rw [eP, eC]
  have b3 := b1.ex hx
  have hlx := hx.len
  refine w_offP (w_rdP b3.row (v := vo) rfl (w_len b3.o (w_lss (c_dec (fun p1 => ?_) (fun p1 => ?_)))))
  · obtain ⟨o, ho⟩ := getElem?_of_lt (l := m.opens) (i := i) (by omega)
    have kk := ok.opens o (List.mem_of_getElem? ho)
    have b4 := b3.ex (Ex.res h')
    refine w_offP (w_rdP b4.row (v := vo) rfl ?_)
    refine w_idxN (enc := e4) (fun _ => rfl) b4.o ho fun p hp => w_off hp (Nat.zero_le _) fun p hp => w_rd1 hp rfl ?_
    refine w_offP (w_rdP b4.row (v := vo) rfl ?_)
    refine w_idxN (enc := e4) (fun _ => rfl) b4.o ho fun p hp => w_off hp (by exact (by decide : 2 ≤ 4)) fun p hp => w_rd1 hp rfl ?_
    refine w_some (v := [.int .i64 o.1, .int .i64 o.2.2.1]) rfl ?_
    refine app_two qs (by omega) (by omega) fun v' h3 q3 k3 l3 => ?_
    refine w_add (by omega) (by omega) ?_
    exact hI (mm - 1) _ _ (by omega) ⟨i + 1, q ++ [o.1, o.2.2.1], by omega, by omega, eP, rfl, ⟨by omega, fun j hj => (k3 j hj).trans (hx.get j hj)⟩, q3, (by simp; omega), fun p hp => by
      rcases List.mem_append.1 hp with hp | hp
      · exact hq p hp
      · simp only [List.mem_cons, List.not_mem_nil, or_false] at hp
        rcases hp with rfl | rfl
        · exact kk.1
        · exact kk.2.2.1⟩
  clear hI
  refine loopE_intro (fun mm e h' => ∃ (i : Nat) (q : List Int), i ≤ m.closes.length ∧ mm = m.closes.length - i ∧ e 1 = .pointer (some ⟨h.length, 0, none⟩) ∧ e 6 = .int .i64 i ∧ Ex h1 h' ∧ QS 1 h1.length h' (e 3) q.length (flat eI q) ∧ q.length ≤ 125 + 2 * i ∧ (∀ p ∈ q, 0 ≤ p ∧ p < m.n)) m.closes.length
    ⟨0, q, Nat.zero_le _, rfl, eP, rfl, hx, qs, by omega, hq⟩ ?_
  clear hx hmm hi p1 hlx eC b3 qs hq bq eP
  clear q e
  rintro I mm e h' ⟨i, q, hi, hmm, eP, eC, hx, qs, bq, hq⟩ hI
  rw [eP, eC]
  have b3 := b1.ex hx
  have hlx := hx.len
  refine w_offP (w_rdP b3.row (v := vc) rfl (w_len b3.c (w_lss (c_dec (fun p1 => ?_) (fun p1 => ?_)))))
  · obtain ⟨o, ho⟩ := getElem?_of_lt (l := m.closes) (i := i) (by omega)
    have kk := ok.closes o (List.mem_of_getElem? ho)
    have b4 := b3.ex (Ex.res h')
    refine w_offP (w_rdP b4.row (v := vc) rfl ?_)
    refine w_idxN (enc := e4) (fun _ => rfl) b4.c ho fun p hp => w_off hp (Nat.zero_le _) fun p hp => w_rd1 hp rfl ?_
    refine w_offP (w_rdP b4.row (v := vc) rfl ?_)
    refine w_idxN (enc := e4) (fun _ => rfl) b4.c ho fun p hp => w_off hp (by exact (by decide : 3 ≤ 4)) fun p hp => w_rd1 hp rfl ?_
    refine w_some (v := [.int .i64 o.1, .int .i64 o.2.2.2]) rfl ?_
    refine app_two qs (by omega) (by omega) fun v' h3 q3 k3 l3 => ?_
    refine w_add (by omega) (by omega) ?_
    exact hI (mm - 1) _ _ (by omega) ⟨i + 1, q ++ [o.1, o.2.2.2], by omega, by omega, eP, rfl, ⟨by omega, fun j hj => (k3 j hj).trans (hx.get j hj)⟩, q3, (by simp; omega), fun p hp => by
      rcases List.mem_append.1 hp with hp | hp
      · exact hq p hp
      · simp only [List.mem_cons, List.not_mem_nil, or_false] at hp
        rcases hp with rfl | rfl
        · exact kk.1
        · exact kk.2.2.1⟩
  clear hI
  refine loopE_intro (fun mm e h' => ∃ i : Nat, i ≤ q.length ∧ mm = q.length - i ∧ e 1 = .pointer (some ⟨h.length, 0, none⟩) ∧ QS 1 h1.length h' (e 3) q.length (flat eI q) ∧ e 7 = .int .i64 i ∧ Ex h1 h') q.length ⟨0, Nat.zero_le _, rfl, eP, qs, rfl, hx⟩ ?_
  have bq' : q.length ≤ 1000 := by omega
  clear hx eP qs hmm hi p1 b3
  rintro I mm e h' ⟨i, hi, hmm, eP, qs, e7, hx⟩ hI
  rw [eP, e7]
  have sq : Ints h' (e 3) q := qs.sl
  have b3 := b1.ex hx
  refine w_len sq (w_lss (c_dec (fun p1 => ?_) (fun p1 => ?_)))
  · obtain ⟨z, hz⟩ := getElem?_of_lt (l := q) (i := i) (by omega)
    have hzz := hq z (List.mem_of_getElem? hz)
    have n1 : ¬ z < 0 := by omega
    have n2 : ¬ m.n ≤ z := by omega
    refine w_idxN eI_len sq hz fun p hp => w_rd1 hp rfl (w_lss ?_)
    refine gd_ff n1 (gd_ff n1 (gd_ff n1 ?_))
    refine w_idxN eI_len sq hz fun p' hp' => ?_
    refine gd_ff n1 (hist_all ?_ fun t ht => by cases ht)
    refine w_rd1 hp' rfl (gd_ff n1 (w_offP ?_))
    refine gd_ff n1 (hist_all ?_ fun t ht => by cases ht)
    refine w_rdP b3.row (v := .int .i64 m.n) rfl (gd_ff n1 (w_geq (pk_ff n1 (c_ff n2 ?_))))
    refine w_add (by omega) (by omega) ?_
    exact hI (mm - 1) _ _ (by omega) ⟨i + 1, by omega, by omega, eP, qs, rfl, hx⟩
  · exact k h' (x1.trans hx)
end Go.Proofs.Ytebbjimmgblcpaa.W
