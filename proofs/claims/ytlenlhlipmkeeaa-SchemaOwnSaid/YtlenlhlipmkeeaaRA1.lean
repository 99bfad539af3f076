/- Parts of a proof, joined by a program. Conditions: none. -/
import Derived.Test.YtlenlhlipmkeeaaRA0
import Derived.Shelf.Strings.OnBuilder
import Derived.LaidEql
import Derived.KernelRfl

section
/- Go's model appends as the abstract machine does, all cases. Conditions: none. -/
namespace Go.AM
open Go
set_option linter.unusedSimpArgs false
variable {P : Program} {β : Bj} {h : AH} {w : World}
theorem run_append_room_any {t tx ty e : TypeId} {i : TypeInfo} (ht : P.underlying t = some (.slice e)) (hi : P.info? e = some i) (a' : Option Addr) (sLen sCap : Nat) (x : Value) (n : Nat) (us : List Value) (hs : Src P i.size tx x n us w) (hroom : sLen + n ≤ sCap) {w' : World}
    (hst : (match a' with | some x => storeCells (x.add (sLen * i.size)) us | none => pure ()).run P w = .ok () w') :
    (Builtin.append_ #[t, tx] ty #[.slice a' sLen sCap, x]).run P w = .ok (.slice a' (sLen + n) sCap) w' := by
  have hl := hs.len
  have hcl := hs.cells
  rcases hs.kind with ⟨e', hk⟩ | hk <;> cases a' with
    | none => simp [Builtin.append_, run_underlying ht, run_underlying hk, sizeOf, typeInfo, hi, hl, hroom, hcl]; simpa using hst
    | some xa =>
      simp only at hst
      simp [Builtin.append_, run_underlying ht, run_underlying hk, sizeOf, typeInfo, hi, hl, hroom, hcl, hst]
theorem sim_appS {D : Nat → Prop} {t tx ty e : TypeId} {i : TypeInfo} {z : List Value} {b b' x x' : Value} {K : Value → AH → Prop} (ht : P.underlying t = some (.slice e)) (hi : P.info? e = some i) (hz : zeroL P e = some z) (hpos : 0 < i.size) (hby : i.bytes ≤ 64)
    (hzl : z.length = i.size) (hkind : ∀ b, x = .string b → P.underlying tx = some .string) (hkind2 : ∀ a l c, x = .slice a l c → ∃ e', P.underlying tx = some (.slice e'))
    (hK : appS i.size b x h K) (hb : VR β b b') (hx : VR β x x') (R : Rel β h w) (hn : ∀ id, D id → id < h.length) :
    ∃ v' w', (Builtin.append_ #[t, tx] ty #[b', x']).run P w = .ok v' w' ∧ SimV D β h w K v' w' := by
  obtain ⟨zv, _, _, hzc, _, _, _⟩ := zeroL_spec (β := β) w hz
  have hinf : i.zero = some zv := by
    obtain ⟨zv', hrun, _⟩ := zeroL_spec (β := β) w hz
    have h2 := ‹(zeroValue e).run P w = .ok zv w›
    simp [zeroValue, run_info w hi] at h2
    split at h2
    · rename_i v hv
      simp at h2
      rw [hv, h2]
    · simp at h2
  have hzs : zv.cells.size = i.size := by rw [hzc]; simpa using hzl
  have grow : ∀ {a a' : Option Addr} {len cap' m : Nat} {old news us : List Value} {h1 : AH} (slot : Option Nat), Rel β h1 w → Ext D β h w β h1 w → SlotOK D β h1 slot → firstL (len * i.size) a h = some old → BaseR β cap' len a a' → len ≤ cap' → Src P i.size tx x' m us w → CellsR β news us.toArray → (∀ v ∈ news, v.oneCell' = true) →
      cap' < len + m → len + m < room40 → newW slot (.row (old ++ news) true) h1 (fun id h' => K (.slice (some ⟨id, 0, none⟩) (len + m) (openCap + i.size)) h') →
      ∃ v' w', (Builtin.append_ #[t, tx] ty #[.slice a' len cap', x']).run P w = .ok v' w' ∧ SimV D β h w K v' w' := by
    intro a a' len cap' m old news us h1 slot R1 E1 hsl hfirst hbase hlc hsrc hnews hn1 hgt hroom hk
    obtain ⟨olds, hrun, hor, ho1, hol⟩ := sim_first (P := P) hpos hfirst R hbase hlc
    have hnl : news.length = m * i.size := by rw [← hsrc.newsLen]; have := hnews.1; simpa using this.symm
    have := run_append_grow_src (P := P) w t tx ty e i zv ht hi hinf a' len cap' olds (hrun w.drew rfl) x' m us hsrc hgt (by have : len + m < 1099511627776 := hroom; omega) (fits64 hgt hroom hby)
    refine ⟨_, _, this, ?_⟩
    obtain ⟨v, h', β', k1, k2, k3, k4⟩ := sim_grow (e := e) (cap' := cap') hzs R1 hor hnews ho1 hn1 (by rw [hol, hnl, Nat.add_mul]) hroom hsl hk
    exact ⟨v, h', β', k1, k2, k3, E1.trans k4⟩
  rcases hK with hK | hK
  · obtain ⟨r, hr, hK⟩ := optW_elim hK
    unfold pAppS at hr
    split at hr
    · rename_i a len cap m news hsrc0
      obtain ⟨us, hsrc, hnews, hn1⟩ := sim_src hkind hkind2 hsrc0 R hx
      have hnl : news.length = m * i.size := by rw [← hsrc.newsLen]; have := hnews.1; simpa using this.symm
      split at hr
      · rename_i hroom
        obtain ⟨a', cap', rfl, hbase, hlc, hco, hex, hop⟩ := hb.slice_base
        split at hr
        · rename_i hc
          obtain rfl := hex hc
          unfold pAppEx at hr
          split at hr
          · rename_i hfit
            cases hst : stAt a (len * i.size) news h with
            | none => rw [hst] at hr; cases hr
            | some h' =>
              rw [hst] at hr
              obtain rfl := Option.some.inj hr
              obtain ⟨w', hrun, R', E⟩ := sim_stAt (P := P) (D := D) hst R hbase hnews hn1 (fun hne h0 => by
                have hm : m = 0 := by omega
                rw [hm, Nat.zero_mul] at hnl
                exact hne (List.eq_nil_of_length_eq_zero hnl))
              refine ⟨_, w', run_append_room_any ht hi a' len cap' x' m us hsrc hfit hrun, _, h', β, hK, ?_, R', E⟩
              rcases hbase with ⟨rfl, rfl, h0, h1⟩ | ⟨id, off, p, xa, rfl, hp, rfl, hxa⟩
              · have h2 : len + m = 0 := by omega
                rw [h2, h0]
                exact .nils
              · exact .slx hp hfit hc hxa
          · rename_i hfit
            cases hfi : firstL (len * i.size) a h with
            | none => rw [hfi] at hr; cases hr
            | some old =>
              rw [hfi] at hr
              obtain rfl := Option.some.inj hr
              exact grow none R (Ext.refl _ _ _ _) ⟨hn, fun r hr => by cases hr⟩ hfi hbase hlc hsrc hnews hn1 (by omega) hroom hK
        · split at hr
          · rename_i hc hcs
            obtain ⟨id, off, p, rfl, hp, hes, hprm⟩ := hop (by omega)
            have hsz : p.es = i.size := by omega
            unfold pAppOp at hr
            simp only at hr
            split at hr
            · rename_i c hrow
              obtain ⟨cc, e0, fr, hbk, h1, h2, h3, h4, h5⟩ := R.obj hp hrow
              split at hr
              · rename_i hle
                have hfit : len + m ≤ cap' := by
                  have h6 : (len + m) * i.size ≤ cap' * i.size := by rw [← hsz] at hle ⊢; omega
                  exact Nat.le_of_mul_le_mul_right h6 hpos
                cases hst : stAt (some ⟨id, off, none⟩) (len * i.size) news h with
                | none => rw [hst] at hr; cases hr
                | some h' =>
                  rw [hst] at hr
                  obtain rfl := Option.some.inj hr
                  obtain ⟨w', hrun, R', E⟩ := sim_stAt (P := P) (D := D) hst R hbase hnews hn1 (fun hne h0 => by
                    have hm : m = 0 := by omega
                    rw [hm, Nat.zero_mul] at hnl
                    exact hne (List.eq_nil_of_length_eq_zero hnl))
                  refine ⟨_, w', run_append_room_any ht hi a' len cap' x' m us hsrc hfit hrun, _, h', β, hK, ?_, R', E⟩
                  rcases hbase with ⟨hnn, _⟩ | ⟨id', off', p', xa, hsome, hp', rfl, hxa⟩
                  · cases hnn
                  · cases hsome
                    rw [hp] at hp'
                    obtain rfl := Option.some.inj hp'
                    rw [← hsz]
                    exact .slo hp hfit hco hprm hxa
              · rename_i hng
                split at hr
                · rename_i hle
                  obtain rfl := Option.some.inj hr
                  obtain ⟨R1, E1⟩ := R_kill (D := D) R hp hrow
                  have hfi : firstL (len * i.size) (some ⟨id, off, none⟩) h = some ((c.drop off).take (len * i.size)) := by
                    unfold firstL
                    split
                    · rename_i h0; rw [h0]; simp
                    · simp [hrow, hle]
                  by_cases hfit : len + m ≤ cap'
                  · -- in place: the old object dies, the new one lies where it lay
                    obtain ⟨p', xa, hxa, hp', hxp⟩ : ∃ p' xa, a' = some xa ∧ β id = some p' ∧ (cap' = 0 ∨ xa = ⟨p'.b, p'.sh + off, none⟩) := by
                      rcases hbase with ⟨hnn, _⟩ | ⟨id', off', p', xa, hsome, hp', ha, hxa⟩
                      · cases hnn
                      · cases hsome; exact ⟨p', xa, ha, hp', hxa⟩
                    rw [hp] at hp'
                    obtain rfl := Option.some.inj hp'
                    subst hxa
                    have hcap0 : cap' ≠ 0 := by
                      intro h0
                      have e1 : len + m = 0 := by omega
                      have e2 : len = 0 := by omega
                      rw [e1, Nat.zero_mul] at hng
                      rw [e2, Nat.zero_mul] at hle
                      exact hng hle
                    obtain rfl := hxp.resolve_left hcap0
                    have hul : us.length = m * i.size := hsrc.newsLen
                    have hroomeq : p.sh + off + cap' * i.size = p.room := by rw [← hsz]; exact hprm
                    have h6 : (len + m) * i.size ≤ cap' * i.size := Nat.mul_le_mul_right _ hfit
                    rw [Nat.add_mul] at h6
                    obtain ⟨cc', i1, i2, i3, i4, i5, i6, i7, i8⟩ := setCells_heap us p.b (p.sh + off + len * i.size) w cc e0 fr hbk (by omega)
                    have hfr : fr.1 = fr.2 ∨ p.room ≤ fr.1 := .inl (by rw [h4 rfl])
                    have hrun : (storeCells ((⟨p.b, p.sh + off, none⟩ : Addr).add (len * i.size)) us).run P w = .ok () (w.setCells p.b (p.sh + off + len * i.size) us) := by
                      rw [add_none]
                      exact run_storeSeg us hbk (by omega) (fun k k1 k2 => by rcases hfr with hfr | hfr <;> omega) hsrc.one
                    have hnone : β h.length = none := by
                      cases eb : β h.length with
                      | none => rfl
                      | some q => have := R.lt eb; omega
                    have hol : ((c.drop off).take (len * i.size)).length = len * i.size := by simp; omega
                    have hobj : ∀ β', BLe β β' → ObjAt β' (.row ((c.drop off).take (len * i.size) ++ news) true) ⟨p.b, p.sh + off, p.room, i.size⟩ (w.setCells p.b (p.sh + off + len * i.size) us) := by
                      intro β' hbl
                      refine ⟨cc', e0, fr, i1, by simp only [List.length_append, hol, hnl]; omega, by rw [i2]; exact h2, fun k hk => ?_, fun _ => h4 rfl, fun v hv => (List.mem_append.1 hv).elim (fun hv => h5 v (mem_drop_take hv)) (hn1 v)⟩
                      rw [List.length_append, hol, hnl] at hk
                      simp only
                      rw [i3, lgetD, hul]
                      by_cases hk1 : k < len * i.size
                      · rw [List.getElem?_append_left (by omega), if_neg (by omega)]
                        have := h3 (off + k) (by omega)
                        rw [lgetD] at this
                        rw [List.getElem?_take_of_lt hk1, List.getElem?_drop, show p.sh + off + k = p.sh + (off + k) by omega]
                        exact this.mono hbl
                      · rw [List.getElem?_append_right (by omega), if_pos (by omega), hol]
                        have := hnews.2 (k - len * i.size) (by omega)
                        rw [lgetD, ← toList_getD] at this
                        rw [show p.sh + off + k - (p.sh + off + len * i.size) = k - len * i.size by omega]
                        exact this.mono hbl
                    have hid : (h.set id .dead ++ [AObj.row ((c.drop off).take (len * i.size) ++ news) true])[h.length]? = some (.row ((c.drop off).take (len * i.size) ++ news) true) := by
                      rw [List.getElem?_append_right (by simp)]; simp
                    have R2 := R1.add (id := h.length) (p := ⟨p.b, p.sh + off, p.room, i.size⟩) (w' := w.setCells p.b (p.sh + off + len * i.size) us) hnone hid
                      (fun j hj hl => by rw [List.getElem?_append_left hl]) (by simp)
                      (fun j q hj hl => by
                        by_cases ej : id = j
                        · subst ej; rw [getElem?_set_same (R.lt hp)] at hl; cases hl
                        · rw [getElem?_set_other ej] at hl
                          exact fun hqb => R.sep ej hp hj (by rw [hrow]; rfl) hl (by rw [hrow]; rfl) hqb.symm)
                      (fun b hb _ => i4 b hb) (hobj _ (upd_le hnone))
                    refine ⟨_, _, run_append_room_any ht hi _ len cap' x' m us hsrc hfit hrun, _, _, upd β h.length ⟨p.b, p.sh + off, p.room, i.size⟩, hK, ?_, R2, ?_⟩
                    · have := VR.slo (β := upd β h.length ⟨p.b, p.sh + off, p.room, i.size⟩) (id := h.length) (off := 0) (len := len + m) (cap := cap') (p := ⟨p.b, p.sh + off, p.room, i.size⟩) (a := ⟨p.b, p.sh + off, none⟩) (upd_same _ _ _) hfit hco (by simp only; omega) (.inr (by simp))
                      exact this
                    · refine ⟨upd_le hnone, fun j hj hd => ?_, by simp, fun j hj hjn => ?_, by rw [i5]; exact Nat.le_refl _, i6, i7, i8, fun b _ hnb => i4 b fun e => hnb ⟨id, p, hp, e.symm, by rw [hrow]; rfl, by rw [hrow]; rfl⟩, ?_⟩
                      · rwa [upd_other (by have := hn j hj; omega)] at hd
                      · rw [List.getElem?_append_left (by simpa using hn j hj)]
                        exact getElem?_set_other fun e => by subst e; rw [hp] at hjn; cases hjn
                      · rintro b ⟨j, q, hj, rfl, l1, l2⟩
                        by_cases ej : j = h.length
                        · subst ej
                          rw [upd_same] at hj
                          obtain rfl := Option.some.inj hj
                          exact .inl ⟨id, p, hp, rfl, by rw [hrow]; rfl, by rw [hrow]; rfl⟩
                        · rw [upd_other ej] at hj
                          rw [List.getElem?_append_left (by simp; exact R.lt hj)] at l1 l2
                          by_cases e2 : id = j
                          · subst e2; rw [getElem?_set_same (R.lt hp)] at l1; cases l1
                          · rw [getElem?_set_other e2] at l1 l2
                            exact .inl ⟨j, q, hj, rfl, l1, l2⟩
                  · refine grow (h1 := h.set id .dead) none R1 E1 ⟨by simpa using hn, fun r hr => by cases hr⟩ hfi hbase hlc hsrc hnews hn1 (by omega) hroom ?_
                    simp only [newW, List.length_set]
                    exact hK
                · cases hr
            · cases hr
          · cases hr
      · cases hr
    · cases hr
  · unfold appBoth at hK
    split at hK
    · rename_i id off len cap m news hsrc0
      obtain ⟨us, hsrc, hnews, hn1⟩ := sim_src hkind hkind2 hsrc0 R hx
      have hnl : news.length = m * i.size := by rw [← hsrc.newsLen]; have := hnews.1; simpa using this.symm
      obtain ⟨hroom, hcs, hK⟩ := hK
      obtain ⟨a', cap', rfl, hbase, hlc, hco, hex, hop⟩ := hb.slice_base
      obtain ⟨id', off', p, hsome, hp, hes, hprm⟩ := hop (by omega)
      cases hsome
      have hsz : p.es = i.size := by omega
      split at hK
      · rename_i c hrow
        obtain ⟨hend, hK1, hK2⟩ := hK
        obtain ⟨cc, e0, fr, hbk, h1, h2, h3, h4, h5⟩ := R.obj hp hrow
        by_cases hfit : len + m ≤ cap'
        · have hul : us.length = m * i.size := hsrc.newsLen
          have hroomeq : p.sh + off + cap' * i.size = p.room := by rw [← hsz]; exact hprm
          have h6 : (len + m) * i.size ≤ cap' * i.size := Nat.mul_le_mul_right _ hfit
          rw [Nat.add_mul] at h6
          have hfr : fr.1 = fr.2 ∨ p.room ≤ fr.1 := .inl (by rw [h4 rfl])
          obtain ⟨cc', i1, i2, i3, i4, i5, i6, i7, i8⟩ := setCells_heap us p.b (p.sh + c.length) w cc e0 fr hbk (by omega)
          have hrun : (match a' with | some x => storeCells (x.add (len * i.size)) us | none => pure ()).run P w = .ok () (w.setCells p.b (p.sh + c.length) us) := by
            rcases hbase with ⟨hnn, _⟩ | ⟨id', off', p', xa, hsome, hp', rfl, hxa⟩
            · cases hnn
            · cases hsome
              rw [hp] at hp'
              obtain rfl := Option.some.inj hp'
              by_cases hc0 : cap' = 0
              · have hm : m = 0 := by omega
                rw [hm, Nat.zero_mul] at hul
                obtain rfl := List.eq_nil_of_length_eq_zero hul
                simp [storeCells, World.setCells]
              · obtain rfl := hxa.resolve_left hc0
                simp only [add_none]
                rw [show p.sh + off + len * i.size = p.sh + c.length by omega]
                exact run_storeSeg us hbk (by omega) (fun k k1 k2 => by rcases hfr with hfr | hfr <;> omega) hsrc.one
          refine ⟨_, _, run_append_room_any ht hi a' len cap' x' m us hsrc hfit hrun, _, _, β, hK1, ?_, ?_, Ext.update hp (by rw [hrow]; rfl) (by rw [hrow]; rfl) i4 i5 i6 i7 i8⟩
          · rcases hbase with ⟨hnn, _⟩ | ⟨id', off', p', xa, hsome, hp', rfl, hxa⟩
            · cases hnn
            · cases hsome
              rw [hp] at hp'
              obtain rfl := Option.some.inj hp'
              rw [hcs, ← hsz]
              exact .slo hp hfit hco hprm hxa
          · refine R.update hp (by rw [hrow]; rfl) (by rw [hrow]; rfl) (fun b hb _ => i4 b hb) ⟨cc', e0, fr, i1, by simp only [List.length_append, hnl]; omega, by rw [i2]; exact h2, fun k hk => ?_, fun _ => h4 rfl, fun v hv => (List.mem_append.1 hv).elim (h5 v) (hn1 v)⟩
            rw [List.length_append, hnl] at hk
            rw [i3, lgetD, hul]
            by_cases hk1 : k < c.length
            · rw [List.getElem?_append_left hk1, if_neg (by omega)]
              have := h3 k hk1
              rwa [lgetD] at this
            · rw [List.getElem?_append_right (by omega), if_pos (by omega)]
              have := hnews.2 (k - c.length) (by omega)
              rw [lgetD, ← toList_getD] at this
              rw [show p.sh + k - (p.sh + c.length) = k - c.length by omega]
              exact this
        · have hfi : firstL (len * i.size) (some ⟨id, off, none⟩) h = some (c.drop off) := by
            unfold firstL
            have hd : (c.drop off).take (len * i.size) = c.drop off := List.take_of_length_le (by simp; omega)
            split
            · rename_i h0
              rw [h0] at hd
              simp at hd
              simp [hd]
            · simp [hrow, hend, hd]
          refine grow none R (Ext.refl _ _ _ _) ⟨hn, fun r hr => by cases hr⟩ hfi hbase hlc hsrc hnews hn1 (by omega) hroom ?_
          rw [← hcs]
          exact hK2
      · exact hK.elim
    · exact hK.elim
end Go.AM
end

section
/- The abstract machine's maps and iterators. Conditions: none. -/
namespace Go.AM
open Go
def keyEq (P : Program) (kt : TypeId) (x y : Value) : Option Bool :=
  match x, y with
  | .agg a, .agg b => sameAgg P kt a.toList b.toList
  | x, y => if isScal P kt x = true ∧ isScal P kt y = true then sameScal x y else none
abbrev Ent := Value × Value × Nat
def findL (P : Program) (kt : TypeId) (k : Value) : List Ent → Nat → Option (Option (Nat × Value))
  | [], _ => some none
  | e :: es, i => match keyEq P kt k e.1 with
    | some true => some (some (i, e.2.1))
    | some false => findL P kt k es (i + 1)
    | none => none
def keyOK (P : Program) (kt : TypeId) (k : Value) : Bool := (keyEq P kt k k).isSome
def zeroV (P : Program) (t : TypeId) : Option Value :=
  match P.info? t with
  | some i => match i.zero with
    | some z => if pureV z = true then some z else none
    | none => none
  | none => none
def entsOf (x : Value) (h : AH) : Option (List Ent) :=
  match x with
  | .map none => some []
  | .map (some id) => match h[id]? with
    | some (.map es _) => some es
    | _ => none
  | _ => none
def okV (ok : Bool) (v : Value) (b : Bool) : Value :=
  match ok with
  | true => .tuple #[v, .bool b]
  | false => v
def pLookup (P : Program) (t : TypeId) (x k : Value) (ok : Bool) (h : AH) : Option Value :=
  match P.underlying t with
  | some (.map kt et) => match zeroV P et, entsOf x h with
    | some z, some es => if keyOK P kt k = true then match findL P kt k es 0 with
        | some (some (_, v)) => some (okV ok v true)
        | some none => some (okV ok z false)
        | none => none
      else none
    | _, _ => none
  | _ => none
def pMapUpd (P : Program) (t : TypeId) (x k v : Value) (h : AH) : Option AH :=
  match P.underlying t, x with
  | some (.map kt _), .map (some id) => match h[id]? with
    | some (.map es ck) => if keyOK P kt k = true then match findL P kt k es 0 with
        | some (some (i, _)) => some (h.set id (.map (es.modify i fun e => (e.1, v, e.2.2)) ck))
        | some none => some (h.set id (.map (es ++ [(k, v, ck)]) (ck + 1)))
        | none => none
      else none
    | _ => none
  | _, _ => none
def pLenMap (x : Value) (h : AH) : Option Value := (entsOf x h).map fun es => .int .i64 es.length
def aRange (P : Program) (t : TypeId) (x : Value) (slot : Option Nat) (h : AH) (K : Value → AH → Prop) : Prop :=
  match P.underlying t, x with
  | some .string, .string s => newW slot (.strIter s 0) h fun id h' => K (.pointer (some ⟨id, 0, none⟩)) h'
  | some (.map ..), .map none => newW slot (.mapIter none 0 [] 0) h fun id h' => K (.pointer (some ⟨id, 0, none⟩)) h'
  | some (.map ..), .map (some m) => match h[m]? with
    | some (.map _ ck) => newW slot (.mapIter (some m) ck [] ck) h fun id h' => K (.pointer (some ⟨id, 0, none⟩)) h'
    | _ => False
  | _, _ => False
def over : Value := .tuple #[.bool false]
def cands (es : List Ent) (since : Nat) (seen : List Nat) : List (Option Ent) :=
  (if ((es.filter fun e => !seen.contains e.2.2).filter fun e => decide (e.2.2 < since)).isEmpty then [none] else []) ++
    (((es.filter fun e => !seen.contains e.2.2).filter fun e => decide (e.2.2 < since)) ++ ((es.filter fun e => !seen.contains e.2.2).filter fun e => decide (e.2.2 ≥ since))).map some
def gone (es : List Ent) (seen : List Nat) (last : Nat) : Bool := !seen.isEmpty && !es.isEmpty && es.all fun e => decide (e.2.2 ≥ last)
def aNext (it : Value) (isString : Bool) (h : AH) (K : Value → AH → Prop) : Prop :=
  match it with
  | .pointer (some ⟨r, 0, none⟩) => match h[r]?, isString with
    | some (.strIter s pos), true =>
      if pos < s.size then K (.tuple #[.bool true, .int .i64 pos, .int .i32 (Utf8.decode s pos).1]) (h.set r (.strIter s (pos + (Utf8.decode s pos).2))) else K over h
    | some (.mapIter none _ _ _), false => K over h
    | some (.mapIter (some m) since seen last), false => match h[m]? with
      | some (.map es ck) => gone es seen last = false ∧ ∀ c ∈ cands es since seen, match c with
          | none => K over h
          | some e => K (.tuple #[.bool true, e.1, e.2.1]) (h.set r (.mapIter (some m) since (seen ++ [e.2.2]) ck))
      | _ => False
    | _, _ => False
  | _ => False
def pEntry (it : Value) (h : AH) : Option Value :=
  match it with
  | .pointer (some ⟨r, 0, none⟩) => match h[r]? with
    | some (.mapIter (some m) _ seen stepped) => match seen.getLast?, h[m]? with
      | some stamp, some (.map es ck) => if ck = stepped then (es.find? fun e => e.2.2 == stamp).map fun e => .tuple #[e.1, e.2.1] else none
      | _, _ => none
    | _ => none
  | _ => none
end Go.AM
end

section
/- Go's model works on maps as the abstract machine does. Conditions: none. -/
namespace Go.AM
open Go
set_option linter.unusedSimpArgs false
variable {P : Program} {β : Bj} {h : AH} {w : World}
theorem keyEq_pure {kt : TypeId} {x y : Value} {r : Bool} (hk : keyEq P kt x y = some r) : pureV x = true ∧ pureV y = true := by
  unfold keyEq at hk
  split at hk
  · have := sameAgg_pure hk
    exact ⟨pureAgg this.1, pureAgg this.2⟩
  · split at hk
    · rename_i hc
      have h1 := isScal_pure hc.1
      have h2 := isScal_pure hc.2
      constructor
      · unfold pureV; split <;> simp_all [pureS]
      · unfold pureV; split <;> simp_all [pureS]
    · cases hk
theorem sim_keyEq {kt : TypeId} {x y : Value} {r : Bool} (hk : keyEq P kt x y = some r) (w : World) : (Op.equal kt x y).run P w = .ok r w := by
  unfold keyEq at hk
  split at hk
  · exact sim_sameAgg w hk 9998
  · split at hk
    · rename_i hc
      exact sim_scal w 9999 hk hc.1 hc.2
    · cases hk
theorem sim_asking {kt : TypeId} {k : Value} : ∀ (es : List Ent) (cs : List MapEntry) (i : Nat) (r : Option (Nat × Value)), EntsR β es cs → findL P kt k es i = some r →
    ∃ r', (Instr.findAsking kt k cs i).run P w = .ok r' w ∧ (match r with | none => r' = none | some (j, v) => ∃ v', r' = some (j, v') ∧ VR β v v' ∧ i ≤ j ∧ ∃ e c, es[j - i]? = some e ∧ cs[j - i]? = some c ∧ c.key = e.1 ∧ keyEq P kt k e.1 = some true)
  | [], [], i, r, _, hf => by
    simp only [findL, Option.some.injEq] at hf
    subst hf
    exact ⟨none, by simp [Instr.findAsking], rfl⟩
  | e :: es, c :: cs, i, r, ⟨⟨hk, hv, hb⟩, hr⟩, hf => by
    simp only [findL] at hf
    cases heq : keyEq P kt k e.1 with
    | none => rw [heq] at hf; cases hf
    | some b =>
      have hck : c.key = e.1 := hk.pure_eq (keyEq_pure heq).2
      have hrun := sim_keyEq heq w
      rw [heq] at hf
      cases b with
      | true =>
        simp only [Option.some.injEq] at hf
        subst hf
        refine ⟨some (i, c.val), by simp [Instr.findAsking, hck, hrun], c.val, rfl, hv, Nat.le_refl _, e, c, by simp, by simp, hck, heq⟩
      | false =>
        simp only at hf
        obtain ⟨r', h1, h2⟩ := sim_asking es cs (i + 1) r hr hf
        refine ⟨r', by simp [Instr.findAsking, hck, hrun, h1], ?_⟩
        cases r with
        | none => exact h2
        | some jv =>
          obtain ⟨v', e1, e2, e3, e', c', e4, e5, e6, e7⟩ := h2
          refine ⟨v', e1, e2, by omega, e', c', ?_, ?_, e6, e7⟩
          · rw [show jv.1 - i = (jv.1 - (i + 1)) + 1 by omega]; simpa using e4
          · rw [show jv.1 - i = (jv.1 - (i + 1)) + 1 by omega]; simpa using e5
  | [], _ :: _, _, _, h, _ => by cases h
  | _ :: _, [], _, _, h, _ => by cases h
theorem sameNow_keyEq {kt : TypeId} {d : TypeDesc} {x y : Value} {r : Bool} (hd : P.underlying kt = some d) (hk : keyEq P kt x y = some r) : Instr.sameNow d x y = none ∨ Instr.sameNow d x y = some r := by
  unfold keyEq at hk
  split at hk
  · left
    cases d <;> rfl
  · split at hk
    · rename_i hc
      right
      unfold isScal at hc
      rw [hd] at hc
      unfold sameScal at hk
      split at hk
      · split at hk
        · rename_i hkk
          subst hkk
          cases d <;> simp_all [Instr.sameNow]
        · cases hk
      · cases d <;> simp_all [Instr.sameNow, beq_toListBytes]
      · cases d <;> simp_all [Instr.sameNow]
      · cases hk
    · cases hk
theorem findNow_asking {kt : TypeId} {d : TypeDesc} {k : Value} (hd : P.underlying kt = some d) : ∀ (es : List Ent) (cs : List MapEntry) (i : Nat) (r : Option (Nat × Value)) (q : Option (Nat × Value)), EntsR β es cs → findL P kt k es i = some r →
    Instr.findNow d k cs i = some q → (Instr.findAsking kt k cs i).run P w = .ok q w
  | [], [], i, r, q, _, hf, hn => by
    simp only [Instr.findNow, Option.some.injEq] at hn
    subst hn
    simp [Instr.findAsking]
  | e :: es, c :: cs, i, r, q, ⟨⟨hk, hv, hb⟩, hr⟩, hf, hn => by
    simp only [findL] at hf
    cases heq : keyEq P kt k e.1 with
    | none => rw [heq] at hf; cases hf
    | some b =>
      have hck : c.key = e.1 := hk.pure_eq (keyEq_pure heq).2
      have hrun := sim_keyEq heq w
      simp only [Instr.findNow, hck] at hn
      rw [heq] at hf
      rcases sameNow_keyEq hd heq with h0 | h0
      · rw [h0] at hn; cases hn
      · rw [h0] at hn
        cases b with
        | true =>
          simp only [Option.some.injEq] at hn
          subst hn
          simp [Instr.findAsking, hck, hrun]
        | false =>
          simp only at hn hf
          have := findNow_asking hd es cs (i + 1) r q hr hf hn
          simp [Instr.findAsking, hck, hrun, this]
  | [], _ :: _, _, _, _, h, _, _ => by cases h
  | _ :: _, [], _, _, _, h, _, _ => by cases h
theorem sim_find {kt : TypeId} {k : Value} {es : List Ent} {cs : List MapEntry} {r : Option (Nat × Value)} (hd : ∃ d, P.underlying kt = some d) (he : EntsR β es cs) (hf : findL P kt k es 0 = some r) :
    ∃ r', (Instr.findKey kt k cs).run P w = .ok r' w ∧ (match r with | none => r' = none | some (j, v) => ∃ v', r' = some (j, v') ∧ VR β v v' ∧ ∃ e c, es[j]? = some e ∧ cs[j]? = some c ∧ c.key = e.1 ∧ keyEq P kt k e.1 = some true) := by
  obtain ⟨d, hd⟩ := hd
  obtain ⟨r', h1, h2⟩ := sim_asking (w := w) es cs 0 r he hf
  refine ⟨r', ?_, ?_⟩
  · simp only [Instr.findKey, Sem.run_bind, run_underlying hd, Result.andThen_ok]
    cases hn : Instr.findNow d k cs 0 with
    | none => exact h1
    | some q =>
      have := findNow_asking (w := w) hd es cs 0 r q he hf hn
      rw [h1] at this
      simp only [Result.ok.injEq] at this
      simp [this.1]
  · cases r with
    | none => exact h2
    | some jv =>
      obtain ⟨v', e1, e2, _, e', c', e4, e5, e6, e7⟩ := h2
      exact ⟨v', e1, e2, e', c', by simpa using e4, by simpa using e5, e6, e7⟩
theorem flat_under {t : TypeId} (hs : flatScalar P t = true) (em : Bool) (n : Nat) (v : Value) (w : World) : (Instr.checkKey em (n + 1) t v).run P w = .ok () w := by
  unfold flatScalar at hs
  split at hs
  · rename_i hu; simp [Instr.checkKey, run_underlying hu]
  · rename_i hu; simp [Instr.checkKey, run_underlying hu]
  · rename_i hu; simp [Instr.checkKey, run_underlying hu]
  · cases hs
theorem isScal_flat {t : TypeId} {v : Value} (h : isScal P t v = true) : flatScalar P t = true := by
  unfold isScal at h
  unfold flatScalar
  split at h <;> simp_all
theorem check_fields (em : Bool) (d : Nat) (a : Array Value) : ∀ (fs : List Field) (i : Nat) (x : List Value) (w : World), flatFields P i fs = true → scalsOf P fs x = true → (∀ j, a[i + j]? = x[j]?) →
    (forIn (m := Sem) fs PUnit.unit fun f _ => do
        if f.name ≠ "_" then
          Instr.checkKey em (d + 1) f.type (← part f.type a f.offset)
        pure (ForInStep.yield PUnit.unit)).run P w = .ok PUnit.unit w
  | [], i, x, w, _, _, _ => by simp
  | f :: fs, i, x, w, hf, hx, ha => by
    cases x with
    | nil => simp [scalsOf] at hx
    | cons x0 xs =>
      simp only [flatFields, Bool.and_eq_true, bne_iff_ne, ne_eq, beq_iff_eq] at hf
      obtain ⟨⟨⟨hn, ho⟩, hs⟩, hfs⟩ := hf
      simp only [scalsOf, Bool.and_eq_true] at hx
      have h0 := run_part_flat w hs a f.offset x0 (by rw [ho]; have := ha 0; simpa using this)
      have ih := check_fields em d a fs (i + 1) xs w hfs hx.2 (fun j => by rw [show i + 1 + j = i + (j + 1) by omega, ha]; simp)
      have hck := flat_under hs em d x0 w
      simp only [List.forIn_cons, hn, ne_eq, not_false_eq_true, if_true, Sem.run_bind, h0, Result.andThen_ok, hck, Sem.run_pure]
      simpa using ih
theorem check_elems {e : TypeId} {i0 : TypeInfo} (hi : P.info? e = some i0) (h1 : i0.size = 1) (hs : flatScalar P e = true) (em : Bool) (d : Nat) (a : Array Value) : ∀ (n i : Nat) (x : List Value) (w : World), x.length = n → (∀ j, a[i + j]? = x[j]?) →
    (forIn (m := Sem) (List.range' i n) PUnit.unit fun i _ => do
        Instr.checkKey em (d + 1) e (← part e a (i * (← sizeOf e)))
        pure (ForInStep.yield PUnit.unit)).run P w = .ok PUnit.unit w
  | 0, i, x, w, _, _ => by simp
  | n + 1, i, x, w, hx, ha => by
    cases x with
    | nil => simp at hx
    | cons x0 xs =>
      have h0 := run_part_flat w hs a (i * 1) x0 (by have := ha 0; simpa using this)
      simp only [Nat.mul_one] at h0
      have hsz := run_size w hi
      rw [h1] at hsz
      have ih := check_elems hi h1 hs em d a n (i + 1) xs w (by simpa using hx) (fun j => by rw [show i + 1 + j = i + (j + 1) by omega, ha]; simp)
      have hck := flat_under hs em d x0 w
      simp only [List.range'_succ, List.forIn_cons, Sem.run_bind, hsz, Result.andThen_ok, Nat.mul_one, h0, hck, Sem.run_pure]
      simpa using ih
theorem sim_check {kt : TypeId} {k : Value} (hk : keyOK P kt k = true) (em : Bool) (w : World) : (Instr.checkKey em 10000 kt k).run P w = .ok () w ∧ (∃ d, P.underlying kt = some d) ∧ pureV k = true := by
  obtain ⟨r, hr⟩ := Option.isSome_iff_exists.1 hk
  have hp := (keyEq_pure hr).1
  unfold keyEq at hr
  split at hr
  · rename_i a
    unfold sameAgg at hr
    split at hr
    · rename_i fs ht
      split at hr
      · rename_i hc
        refine ⟨?_, ⟨_, ht⟩, hp⟩
        have key : ∀ D d, D = d + 1 → (Instr.checkKey em (D + 1) kt (.agg a)).run P w = .ok () w := by
          intro D d hD
          have := check_fields em d a fs.toList 0 a.toList w hc.2.1 hc.2.2.1 (fun j => by simp)
          rw [← hD] at this
          simp only [Instr.checkKey, Sem.run_bind, run_underlying ht, Result.andThen_ok]
          rw [← Array.forIn_toList]
          simp at this ⊢
          simp [this]
        exact key 9999 9998 rfl
      · cases hr
    · rename_i n e ht
      split at hr
      · rename_i hc
        obtain ⟨c1, c2, c3, c4, c5, c6⟩ := hc
        cases hi : P.info? e with
        | none => rw [hi] at c2; cases c2
        | some i0 =>
          rw [hi] at c2
          have h1 : i0.size = 1 := by simpa using c2
          refine ⟨?_, ⟨_, ht⟩, hp⟩
          have key : ∀ D d, D = d + 1 → (Instr.checkKey em (D + 1) kt (.agg a)).run P w = .ok () w := by
            intro D d hD
            have := check_elems hi h1 c1 em d a n 0 a.toList w c3 (fun j => by simp)
            rw [← hD] at this
            simp only [Instr.checkKey, Sem.run_bind, run_underlying ht, Result.andThen_ok, Std.Legacy.Range.forIn_eq_forIn_range', Std.Legacy.Range.size, Nat.sub_zero, Nat.add_sub_cancel, Nat.div_one]
            simp at this ⊢
            simp [this]
          exact key 9999 9998 rfl
      · cases hr
    · cases hr
  · split at hr
    · rename_i hc
      have hf := isScal_flat hc.1
      refine ⟨flat_under hf em 9999 k w, ?_, hp⟩
      unfold flatScalar at hf
      split at hf <;> first | exact ⟨_, ‹_›⟩ | cases hf
    · cases hr
end Go.AM
end

section
/- Go's model looks up, writes and goes through maps as the abstract machine does. Conditions: none. -/
namespace Go.AM
open Go
set_option linter.unusedSimpArgs false
variable {P : Program} {β : Bj} {h : AH} {w : World}
theorem zeroV_spec {t : TypeId} {z : Value} (hz : zeroV P t = some z) (w : World) : (zeroValue t).run P w = .ok z w ∧ pureV z = true := by
  unfold zeroV at hz
  split at hz
  · rename_i i hi
    split at hz
    · rename_i z' hz'
      split at hz
      · rename_i hp
        obtain rfl := Option.some.inj hz
        exact ⟨by simp [zeroValue, run_info w hi, hz'], hp⟩
      · cases hz
    · cases hz
  · cases hz
theorem EntsR.length : ∀ {es : List Ent} {cs : List MapEntry}, EntsR β es cs → es.length = cs.length
  | [], [], _ => rfl
  | _ :: _, _ :: _, ⟨_, h⟩ => by simp [h.length]
theorem sim_ents {x x' : Value} {es : List Ent} (he : entsOf x h = some es) (R : Rel β h w) (hx : VR β x x') :
    (x' = .map none ∧ es = []) ∨ ∃ b ees ck, x' = .map (some b) ∧ w.heap[b]? = some (.map ees ck) ∧ EntsR β es ees.toList := by
  unfold entsOf at he
  split at he
  · cases hx
    obtain rfl := Option.some.inj he
    exact .inl ⟨rfl, rfl⟩
  · split at he
    · rename_i hid
      cases hx
      rename_i p hp
      obtain rfl := Option.some.inj he
      obtain ⟨ees, h1, h2⟩ := R.obj hp hid
      exact .inr ⟨_, ees, _, rfl, h1, h2⟩
    · cases he
  · cases he
theorem run_getMap {b : Nat} {ees : Array MapEntry} {ck : Nat} (hb : w.heap[b]? = some (.map ees ck)) : (getObj b).run P w = .ok (.map ees ck) w := by
  simp [getObj, Sem.run, hb]
theorem okV_R {ok b : Bool} {v v' : Value} (hv : VR β v v') : VR β (okV ok v b) (if ok then .tuple #[v', .bool b] else v') := by
  cases ok
  · exact hv
  · refine .tuple rfl fun i hi => ?_
    have : i = 0 ∨ i = 1 := by simp at hi; omega
    rcases this with rfl | rfl
    · exact hv
    · exact .bool b
theorem sim_lookup {t : TypeId} {x k x' k' v : Value} {ok : Bool} (hl : pLookup P t x k ok h = some v) (R : Rel β h w) (hx : VR β x x') (hk : VR β k k') : ∃ v', (Instr.lookup t x' k' ok).run P w = .ok v' w ∧ VR β v v' := by
  unfold pLookup at hl
  split at hl
  · rename_i kt et ht
    split at hl
    · rename_i z es hz he
      split at hl
      · rename_i hko
        obtain ⟨hck, hd, hkp⟩ := sim_check hko true w
        have hck2 := (sim_check hko false w).1
        obtain rfl := hk.pure_eq hkp
        obtain ⟨hzr, hzp⟩ := zeroV_spec hz w
        have fin : ∀ ees : Array MapEntry, EntsR β es ees.toList → (∀ q u, (Instr.findKey kt k' ees.toList).run P w = .ok (some (q, u)) w → (Instr.lookup t x' k' ok).run P w = .ok (if ok then .tuple #[u, .bool true] else u) w) →
            ((Instr.findKey kt k' ees.toList).run P w = .ok none w → (Instr.lookup t x' k' ok).run P w = .ok (if ok then .tuple #[z, .bool false] else z) w) → ∃ v', (Instr.lookup t x' k' ok).run P w = .ok v' w ∧ VR β v v' := by
          intro ees hees g1 g2
          cases hf : findL P kt k' es 0 with
          | none => rw [hf] at hl; cases hl
          | some r =>
            obtain ⟨r', hr', hrr⟩ := sim_find (w := w) hd hees hf
            rw [hf] at hl
            cases r with
            | none =>
              simp only [Option.some.injEq] at hl
              subst hl
              simp only at hrr
              subst hrr
              exact ⟨_, g2 hr', okV_R (.ofPure hzp)⟩
            | some jv =>
              obtain ⟨j, v0⟩ := jv
              simp only [Option.some.injEq] at hl
              subst hl
              obtain ⟨v', rfl, hv, _⟩ := hrr
              exact ⟨_, g1 _ _ hr', okV_R hv⟩
        rcases sim_ents he R hx with ⟨rfl, rfl⟩ | ⟨b, ees, ck, rfl, hb, hR⟩
        · refine fin #[] trivial (fun q u hq => ?_) (fun hq => ?_)
          · simp [Instr.lookup, run_underlying ht, hck, hq]
          · simp [Instr.lookup, run_underlying ht, hck, hq, hzr]
        · have hcke : (Instr.checkKey ees.isEmpty 10000 kt k').run P w = .ok () w := (sim_check hko ees.isEmpty w).1
          refine fin ees hR (fun q u hq => ?_) (fun hq => ?_)
          · simp only [Instr.lookup, Sem.run_bind, run_underlying ht, Result.andThen_ok, run_getMap (P := P) hb, Sem.run_pure, hcke, hq]
          · simp only [Instr.lookup, Sem.run_bind, run_underlying ht, Result.andThen_ok, run_getMap (P := P) hb, Sem.run_pure, hcke, hq, hzr]
      · cases hl
    · cases hl
  · cases hl
theorem sameBits_scal {x y : Value} (h : sameScal x y = some true) (n : Nat) : Instr.sameBits n x y = true := by
  unfold sameScal at h
  split at h
  · split at h
    · rename_i hk
      simp at h
      simp [Instr.sameBits, hk, h]
    · cases h
  · simp at h
    have : ∀ a b : ByteArray, a.toList = b.toList → a = b := by
      intro a b hab
      rw [ByteArray.toList_eq, ByteArray.toList_eq] at hab
      obtain ⟨⟨x⟩⟩ := a
      obtain ⟨⟨y⟩⟩ := b
      simp at hab
      rw [hab]
    rw [this _ _ h]
    cases n <;> simp [Instr.sameBits, beq_toListBytes]
  · simp at h
    simp [Instr.sameBits, h]
  · cases h
theorem sameBits_scals (n : Nat) : ∀ {x y : List Value}, sameScals x y = some true → x.length = y.length ∧ (x.zip y).all (fun (p : Value × Value) => Instr.sameBits n p.1 p.2) = true
  | [], [], _ => ⟨rfl, rfl⟩
  | a :: x, b :: y, h => by
    simp only [sameScals] at h
    cases e : sameScal a b with
    | none => rw [e] at h; cases h
    | some q =>
      rw [e] at h
      cases q with
      | false => cases h
      | true =>
        obtain ⟨h1, h2⟩ := sameBits_scals n h
        refine ⟨by simp [h1], ?_⟩
        simp only [List.zip_cons_cons, List.all_cons, sameBits_scal e n, Bool.true_and]
        exact h2
  | [], _ :: _, h => by simp [sameScals] at h
  | _ :: _, [], h => by simp [sameScals] at h
theorem sameAgg_scals {t : TypeId} {x y : List Value} {r : Bool} (h : sameAgg P t x y = some r) : sameScals x y = some r := by
  unfold sameAgg at h
  split at h <;> first | (split at h <;> first | exact h | cases h) | cases h
theorem pure_sameScals : ∀ {x y : List Value}, sameScals x y = some true → x = y
  | [], [], _ => rfl
  | a :: x, b :: y, h => by
    simp only [sameScals] at h
    cases e : sameScal a b with
    | none => rw [e] at h; cases h
    | some q =>
      rw [e] at h
      cases q with
      | false => cases h
      | true =>
        have := pure_sameScals h
        subst this
        congr 1
        unfold sameScal at e
        split at e
        · split at e
          · rename_i hk; simp at e; rw [hk, e]
          · cases e
        · simp at e
          have : ∀ a b : ByteArray, a.toList = b.toList → a = b := by
            intro a b hab
            rw [ByteArray.toList_eq, ByteArray.toList_eq] at hab
            obtain ⟨⟨x⟩⟩ := a
            obtain ⟨⟨y⟩⟩ := b
            simp at hab
            rw [hab]
          rw [this _ _ e]
        · simp at e; rw [e]
        · cases e
  | [], _ :: _, h => by simp [sameScals] at h
  | _ :: _, [], h => by simp [sameScals] at h
theorem sim_stays {kt : TypeId} {x y : Value} (h : keyEq P kt x y = some true) (w : World) : (Instr.keyThatStays y x).run P w = .ok x w ∧ x = y := by
  have hxy : x = y ∧ Instr.sameBits 10000 y x = true := by
    unfold keyEq at h
    split at h
    · rename_i a b
      have hs := sameAgg_scals h
      have he := pure_sameScals hs
      have hab : a = b := by apply Array.ext'; exact he
      subst hab
      obtain ⟨h1, h2⟩ := sameBits_scals 9999 hs
      refine ⟨rfl, ?_⟩
      have key : ∀ D, (a.toList.zip a.toList).all (fun (p : Value × Value) => Instr.sameBits D p.1 p.2) = true → Instr.sameBits (D + 1) (.agg a) (.agg a) = true := by
        intro D hD
        simp only [Instr.sameBits, beq_self_eq_true, Bool.true_and]
        exact hD
      exact key 9999 h2
    · split at h
      · have e : sameScals [x] [y] = some true := by simp [sameScals, h]
        have := pure_sameScals e
        simp at this
        subst this
        exact ⟨rfl, sameBits_scal h 10000⟩
      · cases h
  obtain ⟨rfl, hs⟩ := hxy
  exact ⟨by simp [Instr.keyThatStays, hs], rfl⟩
theorem EntsR.modify : ∀ {es : List Ent} {cs : List MapEntry} {v v' k' : Value}, EntsR β es cs → VR β v v' → ∀ (j : Nat) {c : MapEntry}, cs[j]? = some c → k' = c.key → EntsR β (es.modify j fun e => (e.1, v, e.2.2)) (cs.modify j fun e => { e with key := k', val := v' })
  | [], [], v, v', k', _, _, j, c, hc, _ => by simp at hc
  | e :: es, c0 :: cs, v, v', k', ⟨⟨h1, h2, h3⟩, hr⟩, hv, 0, c, hc, hk => by
    simp at hc
    subst hc hk
    exact ⟨⟨h1, hv, h3⟩, hr⟩
  | e :: es, c0 :: cs, v, v', k', ⟨h0, hr⟩, hv, j + 1, c, hc, hk => ⟨h0, EntsR.modify hr hv j (by simpa using hc) hk⟩
theorem EntsR.append : ∀ {es : List Ent} {cs : List MapEntry} {k v k' v' : Value} {b : Nat}, EntsR β es cs → VR β k k' → VR β v v' → EntsR β (es ++ [(k, v, b)]) (cs ++ [{ key := k', val := v', born := b }])
  | [], [], _, _, _, _, _, _, hk, hv => ⟨⟨hk, hv, rfl⟩, trivial⟩
  | _ :: _, _ :: _, _, _, _, _, _, ⟨h0, hr⟩, hk, hv => ⟨h0, hr.append hk hv⟩
theorem sim_setObj {D : Nat → Prop} {id : Nat} {p : Pl} {o' : AObj} {O : Obj} {O0 : Obj} (R : Rel β h w) (hp : β id = some p) (hl : live h[id]? = true) (hro : isRo h[id]? = false) (hb : w.heap[p.b]? = some O0) (hO0 : ∀ c e f, O0 ≠ .cells c e f)
    (ho : ObjAt β o' p { w with heap := w.heap.setIfInBounds p.b O }) :
    (setObj p.b O).run P w = .ok () { w with heap := w.heap.setIfInBounds p.b O } ∧ Rel β (h.set id o') { w with heap := w.heap.setIfInBounds p.b O } ∧ Ext D β h w β (h.set id o') { w with heap := w.heap.setIfInBounds p.b O } := by
  refine ⟨?_, R.update hp hl hro (fun b hb _ => by simp [Array.getElem?_setIfInBounds, Ne.symm hb]) ho, Ext.update hp hl hro (fun b hb => by simp [Array.getElem?_setIfInBounds, Ne.symm hb]) (by simp) rfl rfl rfl⟩
  cases O0 <;> first | exact absurd rfl (hO0 _ _ _) | simp [setObj, Sem.run, hb]
theorem sim_mapUpdate {D : Nat → Prop} {t : TypeId} {x k v x' k' v' : Value} {h' : AH} (hu : pMapUpd P t x k v h = some h') (R : Rel β h w) (hx : VR β x x') (hk : VR β k k') (hv : VR β v v') :
    ∃ w', (Instr.mapUpdate t x' k' v').run P w = .ok () w' ∧ Rel β h' w' ∧ Ext D β h w β h' w' := by
  unfold pMapUpd at hu
  split at hu
  · rename_i kt et id ht
    cases hx
    rename_i p hp
    split at hu
    · rename_i es ck hid
      split at hu
      · rename_i hko
        obtain ⟨ees, hb, hR⟩ := R.obj hp hid
        obtain ⟨hck, hd, hkp⟩ := sim_check hko false w
        obtain rfl := hk.pure_eq hkp
        have hlt := (Array.getElem?_eq_some_iff.1 hb).1
        cases hf : findL P kt k' es 0 with
        | none => rw [hf] at hu; cases hu
        | some r =>
          obtain ⟨r', hr', hrr⟩ := sim_find (w := w) hd hR hf
          rw [hf] at hu
          cases r with
          | none =>
            simp only [Option.some.injEq] at hu
            subst hu
            simp only at hrr
            subst hrr
            obtain ⟨s1, s2, s3⟩ := sim_setObj (P := P) (D := D) (O := .map (ees.push { key := k', val := v', born := ck }) (ck + 1)) (o' := .map (es ++ [(k', v, ck)]) (ck + 1)) R hp (by rw [hid]; rfl) (by rw [hid]; rfl) hb (by simp)
              ⟨ees.push { key := k', val := v', born := ck }, by simp [hlt], by rw [Array.toList_push]; exact hR.append hk hv⟩
            exact ⟨_, by simp [Instr.mapUpdate, run_underlying ht, run_getMap (P := P) hb, hck, hr', s1], s2, s3⟩
          | some jv =>
            obtain ⟨j, v0⟩ := jv
            simp only [Option.some.injEq] at hu
            subst hu
            obtain ⟨v0', rfl, hv0, e, c, he, hc, hck2, hke⟩ := hrr
            obtain ⟨hst, hke2⟩ := sim_stays hke w
            have hcj : ees[j]? = some c := by simpa using hc
            obtain ⟨s1, s2, s3⟩ := sim_setObj (P := P) (D := D) (O := .map (ees.modify j fun e => { e with key := k', val := v' }) ck) (o' := .map (es.modify j fun e => (e.1, v, e.2.2)) ck) R hp (by rw [hid]; rfl) (by rw [hid]; rfl) hb (by simp)
              ⟨ees.modify j fun e => { e with key := k', val := v' }, by simp [hlt], by rw [Array.toList_modify]; exact hR.modify hv j hc (by rw [hck2, hke2])⟩
            refine ⟨_, ?_, s2, s3⟩
            simp only [Instr.mapUpdate, Sem.run_bind, run_underlying ht, Result.andThen_ok, run_getMap (P := P) hb, hck, hr', hcj, Option.map_some, Option.getD_some, hck2, hst, s1]
      · cases hu
    · cases hu
  · cases hu
theorem sim_lenMap {t kt et : TypeId} {ts : Array TypeId} {ty : TypeId} {x x' v : Value} (ht0 : ts[0]? = some t) (ht : P.underlying t = some (.map kt et)) (hl : pLenMap x h = some v) (R : Rel β h w) (hx : VR β x x') : ∃ v', (Builtin.len_ ts ty #[x']).run P w = .ok v' w ∧ VR β v v' := by
  unfold pLenMap at hl
  cases he : entsOf x h with
  | none => rw [he] at hl; cases hl
  | some es =>
    rw [he] at hl
    obtain rfl := Option.some.inj hl
    rcases sim_ents he R hx with ⟨rfl, rfl⟩ | ⟨b, ees, ck, rfl, hb, hR⟩
    · exact ⟨_, by simp [Builtin.len_, ht0, run_underlying ht, goInt], .int _ _⟩
    · refine ⟨.int .i64 ees.size, by simp [Builtin.len_, ht0, run_underlying ht, goInt, run_getMap (P := P) hb], ?_⟩
      have := hR.length
      show VR β (.int .i64 es.length) _
      rw [this]
      simp
      exact .int _ _
end Go.AM
end

section
/- Go's model goes through maps and strings, makes slices and turns bytes to strings as the abstract machine does. Conditions: none. -/
namespace Go.AM
open Go
set_option linter.unusedSimpArgs false
variable {P : Program} {β : Bj} {h : AH} {w : World}
theorem run_getIt {b : Nat} {O : Obj} (hb : w.heap[b]? = some O) (hO : ∀ c e f, O ≠ .cells c e f) : (getObj b).run P w = .ok O w := by
  cases O <;> first | exact absurd rfl (hO _ _ _) | simp [getObj, Sem.run, hb]
theorem sim_range {D : Nat → Prop} {t : TypeId} {x x' : Value} {slot : Option Nat} {K : Value → AH → Prop} (hK : aRange P t x slot h K) (hx : VR β x x') (R : Rel β h w) (hs : SlotOK D β h slot) : ∃ v' w', (Instr.range t x').run P w = .ok v' w' ∧ SimV D β h w K v' w' := by
  unfold aRange at hK
  split at hK
  · rename_i s ht
    cases hx
    refine ⟨.pointer (some ⟨w.heap.size, 0, none⟩), { w with heap := w.heap.push (.stringIter s 0) }, by simp [Instr.range, run_underlying ht], ?_⟩
    obtain ⟨id, h', β', hk, hid, R', E⟩ := sim_new (O := .stringIter s 0) (p := ⟨w.heap.size, 0, 0, 0⟩) (w' := { w with heap := w.heap.push (.stringIter s 0) }) hK R hs rfl rfl rfl rfl rfl fun β' hb => ⟨rfl, by simp⟩
    exact ⟨_, h', β', hk, .ptr hid, R', E⟩
  · rename_i ht
    cases hx
    refine ⟨.pointer (some ⟨w.heap.size, 0, none⟩), { w with heap := w.heap.push (.mapIter none 0 #[] 0) }, by simp [Instr.range, run_underlying ht], ?_⟩
    obtain ⟨id, h', β', hk, hid, R', E⟩ := sim_new (O := .mapIter none 0 #[] 0) (p := ⟨w.heap.size, 0, 0, 0⟩) (w' := { w with heap := w.heap.push (.mapIter none 0 #[] 0) }) hK R hs rfl rfl rfl rfl rfl fun β' hb => ⟨rfl, none, by simp, .nilm⟩
    exact ⟨_, h', β', hk, .ptr hid, R', E⟩
  · rename_i m ht
    split at hK
    · rename_i es ck hm
      cases hx
      rename_i p hp
      obtain ⟨ees, hb, hR⟩ := R.obj hp hm
      refine ⟨.pointer (some ⟨w.heap.size, 0, none⟩), { w with heap := w.heap.push (.mapIter (some p.b) ck #[] ck) }, by simp [Instr.range, run_underlying ht, run_getMap (P := P) hb], ?_⟩
      obtain ⟨id, h', β', hk, hid, R', E⟩ := sim_new (O := .mapIter (some p.b) ck #[] ck) (p := ⟨w.heap.size, 0, 0, 0⟩) (w' := { w with heap := w.heap.push (.mapIter (some p.b) ck #[] ck) }) hK R hs rfl rfl rfl rfl rfl
        fun β' hbl => ⟨rfl, some p.b, by simp, .map (hbl _ _ hp)⟩
      exact ⟨_, h', β', hk, .ptr hid, R', E⟩
    · exact hK.elim
  · exact hK.elim
theorem VR.tup1 {a a' : Value} (h : VR β a a') : VR β (.tuple #[a]) (.tuple #[a']) := .tuple rfl fun i hi => by
  have : i = 0 := by simp at hi; omega
  subst this
  exact h
theorem VR.tup2 {a b a' b' : Value} (h : VR β a a') (k : VR β b b') : VR β (.tuple #[a, b]) (.tuple #[a', b']) := .tuple rfl fun i hi => by
  have : i = 0 ∨ i = 1 := by simp at hi; omega
  rcases this with rfl | rfl
  · exact h
  · exact k
theorem VR.tup3 {a b c a' b' c' : Value} (h : VR β a a') (k : VR β b b') (l : VR β c c') : VR β (.tuple #[a, b, c]) (.tuple #[a', b', c']) := .tuple rfl fun i hi => by
  have : i = 0 ∨ i = 1 ∨ i = 2 := by simp at hi; omega
  rcases this with rfl | rfl | rfl
  · exact h
  · exact k
  · exact l
theorem over_R : VR β over over := VR.tup1 (.bool false)
theorem EntsR.filter (f : Nat → Bool) : ∀ {es : List Ent} {cs : List MapEntry}, EntsR β es cs → EntsR β (es.filter fun e => f e.2.2) (cs.filter fun c => f c.born)
  | [], [], _ => trivial
  | e :: es, c :: cs, ⟨h0, hr⟩ => by
    have hb := h0.2.2
    simp only [List.filter_cons, hb]
    split
    · exact ⟨h0, hr.filter f⟩
    · exact hr.filter f
theorem EntsR.app : ∀ {es : List Ent} {cs : List MapEntry} {fs : List Ent} {ds : List MapEntry}, EntsR β es cs → EntsR β fs ds → EntsR β (es ++ fs) (cs ++ ds)
  | [], [], _, _, _, k => k
  | _ :: _, _ :: _, _, _, ⟨h0, hr⟩, k => ⟨h0, hr.app k⟩
theorem EntsR.get : ∀ {es : List Ent} {cs : List MapEntry}, EntsR β es cs → ∀ {i : Nat} {c : MapEntry}, cs[i]? = some c → ∃ e, es[i]? = some e ∧ EntR β e c
  | [], [], _, i, c, hc => by simp at hc
  | e :: es, d :: cs, ⟨h0, hr⟩, 0, c, hc => by
    simp at hc; subst hc
    exact ⟨e, by simp, h0⟩
  | e :: es, d :: cs, ⟨h0, hr⟩, i + 1, c, hc => by
    obtain ⟨x, h1, h2⟩ := hr.get (i := i) (by simpa using hc)
    exact ⟨x, by simpa using h1, h2⟩
theorem EntsR.isEmpty {es : List Ent} {cs : List MapEntry} (h : EntsR β es cs) : es.isEmpty = cs.isEmpty := by
  cases es <;> cases cs <;> first | rfl | cases h
theorem EntsR.all (f : Nat → Bool) : ∀ {es : List Ent} {cs : List MapEntry}, EntsR β es cs → (es.all fun e => f e.2.2) = (cs.all fun c => f c.born)
  | [], [], _ => rfl
  | e :: es, c :: cs, ⟨h0, hr⟩ => by simp only [List.all_cons, h0.2.2, hr.all f]
theorem EntsR.find (f : Nat → Bool) : ∀ {es : List Ent} {cs : List MapEntry} {e : Ent}, EntsR β es cs → (es.find? fun e => f e.2.2) = some e → ∃ c, (cs.find? fun c => f c.born) = some c ∧ EntR β e c
  | [], [], _, _, h => by simp at h
  | e0 :: es, c :: cs, e, ⟨h0, hr⟩, h => by
    rw [List.find?_cons] at h ⊢
    rw [← h0.2.2]
    split at h
    · simp at h; subst h
      exact ⟨c, by simp [*], h0⟩
    · obtain ⟨d, h1, h2⟩ := hr.find f h
      exact ⟨d, by simp [*], h2⟩
def candsC (es : Array MapEntry) (since : Nat) (seen : List Nat) : Array (Option MapEntry) :=
  (if ((es.filter fun e => !seen.toArray.contains e.born).filter (·.born < since)).isEmpty then #[none] else #[]) ++
    (((es.filter fun e => !seen.toArray.contains e.born).filter (·.born < since)) ++ ((es.filter fun e => !seen.toArray.contains e.born).filter (·.born ≥ since))).map some
def CandR (β : Bj) (e : Option Ent) (c : Option MapEntry) : Prop :=
  match c with
  | none => e = none
  | some c => ∃ e', e = some e' ∧ EntR β e' c
theorem cands_R {es : List Ent} {ees : Array MapEntry} (hR : EntsR β es ees.toList) (since : Nat) (seen : List Nat) {i : Nat} {c : Option MapEntry} (hc : (candsC ees since seen)[i]? = some c) :
    ∃ e, e ∈ cands es since seen ∧ CandR β e c := by
  have h1 := hR.filter (fun b => !seen.contains b)
  have hold := h1.filter (fun b => decide (b < since))
  have hnew := h1.filter (fun b => decide (b ≥ since))
  have hL : (candsC ees since seen).toList = (if ((ees.toList.filter fun c => !seen.contains c.born).filter fun c => decide (c.born < since)).isEmpty then [none] else []) ++
      (((ees.toList.filter fun c => !seen.contains c.born).filter fun c => decide (c.born < since)) ++ ((ees.toList.filter fun c => !seen.contains c.born).filter fun c => decide (c.born ≥ since))).map some := by
    unfold candsC
    have e0 : (ees.filter fun e => !seen.toArray.contains e.born).toList = ees.toList.filter fun c => !seen.contains c.born := by simp
    have e1 : (((ees.filter fun e => !seen.toArray.contains e.born).filter (·.born < since)).isEmpty) = ((ees.toList.filter fun c => !seen.contains c.born).filter fun c => decide (c.born < since)).isEmpty := by
      rw [← Array.isEmpty_toList, Array.toList_filter, e0]
    rw [e1]
    split <;> simp
  have hc' : (candsC ees since seen).toList[i]? = some c := by simpa using hc
  rw [hL] at hc'
  have hmem := List.mem_of_getElem? hc'
  unfold cands
  rcases List.mem_append.1 hmem with hm | hm
  · split at hm
    · rename_i he
      simp at hm
      subst hm
      refine ⟨none, ?_, rfl⟩
      rw [hold.isEmpty, he]
      simp
    · cases hm
  · obtain ⟨d, hd, rfl⟩ := List.mem_map.1 hm
    obtain ⟨k, hk⟩ := List.getElem?_of_mem hd
    obtain ⟨e, he, hER⟩ := (hold.app hnew).get hk
    exact ⟨some e, List.mem_append.2 (.inr (List.mem_map.2 ⟨e, List.mem_of_getElem? he, rfl⟩)), e, rfl, hER⟩
theorem candsC_pos {es : Array MapEntry} {since : Nat} {seen : List Nat} : 0 < (candsC es since seen).size := by
  unfold candsC
  generalize (es.filter fun e => !seen.toArray.contains e.born).filter (·.born < since) = A
  generalize (es.filter fun e => !seen.toArray.contains e.born).filter (·.born ≥ since) = B
  rw [Array.size_append, Array.size_map, Array.size_append]
  cases h : A.isEmpty with
  | true => simp; omega
  | false =>
    have : 0 < A.size := by
      rcases Nat.eq_zero_or_pos A.size with e | e
      · rw [Array.isEmpty, e] at h; cases h
      · exact e
    omega
theorem Rel.draw {k : Nat} (R : Rel β h w) : Rel β h { w with drawn := k } := R.heap rfl
theorem Ext.draw {D : Nat → Prop} {k : Nat} {β' : Bj} {h' : AH} {w' : World} (E : Ext D β h { w with drawn := k } β' h' w') : Ext D β h w β' h' w' :=
  { ble := E.ble, dom := E.dom, len := E.len, afr := E.afr, size := E.size, tape := E.tape, os := E.os, out := E.out, cfr := E.cfr, wb := E.wb }
theorem Ext.drawn {D : Nat → Prop} {k : Nat} : Ext D β h w β h { w with drawn := k } := Ext.draw (k := k) (Ext.refl _ _ _ _)
theorem run_choose_lt (q : Nat) (hq : 0 < q) : ∃ i k, (choose (.mapNext q)).run P w = .ok i { w with drawn := k } ∧ i < q := by
  by_cases h1 : q ≤ 1
  · exact ⟨0, w.drawn, by simp [choose, Sem.run, Question.forced, h1], by omega⟩
  · exact ⟨w.tape w.drawn (.mapNext q) % q, w.drawn + 1, by simp [choose, Sem.run, Question.forced, h1, Question.cut], Nat.mod_lt _ hq⟩
theorem run_next_map {b qb since last ck : Nat} {seen : List Nat} {ees : Array MapEntry} {ty : TypeId} (hb : w.heap[b]? = some (.mapIter (some qb) since seen.toArray last)) (hbm : w.heap[qb]? = some (.map ees ck))
    (hgone : (!seen.toArray.isEmpty && !ees.isEmpty && ees.all (·.born ≥ last)) = false) :
    (Instr.next (.pointer (some ⟨b, 0, none⟩)) false ty).run P w = ((choose (.mapNext (candsC ees since seen).size)).run P w).andThen fun i w1 => (match (candsC ees since seen)[i]? with
      | some (some e) => (do setObj b (.mapIter (some qb) since (seen.toArray.push e.born) ck); pure (.tuple #[.bool true, e.key, e.val]) : Sem Value)
      | some none => pure over
      | none => stuck "Next: no such candidate").run P w1 := by
  simp only [Instr.next, Sem.run_bind, run_getIt (P := P) hb (by simp), Result.andThen_ok, run_getIt (P := P) hbm (by simp), hgone, Bool.false_eq_true, if_false]
  rfl
theorem sim_next {D : Nat → Prop} {it it' : Value} {isS : Bool} {ty : TypeId} {K : Value → AH → Prop} (hK : aNext it isS h K) (hx : VR β it it') (R : Rel β h w) : ∃ v' w', (Instr.next it' isS ty).run P w = .ok v' w' ∧ SimV D β h w K v' w' := by
  unfold aNext at hK
  split at hK
  · rename_i r
    obtain ⟨p, hp, rfl⟩ := hx.ptr_inv
    split at hK
    · rename_i s pos hr
      obtain ⟨hsh, hb⟩ := R.obj hp hr
      split at hK
      · rename_i hpos
        have hlt := (Array.getElem?_eq_some_iff.1 hb).1
        obtain ⟨s1, s2, s3⟩ := sim_setObj (P := P) (D := D) (O := .stringIter s (pos + (Utf8.decode s pos).2)) (o' := .strIter s (pos + (Utf8.decode s pos).2)) R hp (by rw [hr]; rfl) (by rw [hr]; rfl) hb (by simp) ⟨hsh, by simp [hlt]⟩
        refine ⟨_, _, ?_, _, _, β, hK, VR.tup3 (.bool true) (.int _ _) (.int _ _), s2, s3⟩
        simp [Instr.next, hsh, run_getIt (P := P) hb (by simp), hpos, s1, goInt]
      · rename_i hpos
        exact ⟨over, w, by simp [Instr.next, hsh, run_getIt (P := P) hb (by simp), hpos, over], _, h, β, hK, over_R, R, Ext.refl _ _ _ _⟩
    · rename_i s1 s2 s3 hr
      obtain ⟨hsh, m', hb, hm⟩ := R.obj hp hr
      cases hm
      exact ⟨over, w, by simp [Instr.next, hsh, run_getIt (P := P) hb (by simp), over], _, h, β, hK, over_R, R, Ext.refl _ _ _ _⟩
    · rename_i m since seen last hr
      obtain ⟨hsh, m', hb, hm⟩ := R.obj hp hr
      cases hm
      rename_i q hq
      split at hK
      · rename_i es ck hmo
        obtain ⟨hg, hall⟩ := hK
        obtain ⟨ees, hbm, hR⟩ := R.obj hq hmo
        have hgone : (!seen.toArray.isEmpty && !ees.isEmpty && ees.all (·.born ≥ last)) = false := by
          unfold gone at hg
          have e1 := hR.all (fun b => decide (b ≥ last))
          have e2 := hR.isEmpty
          rw [e1, e2] at hg
          rw [← hg]
          rw [← Array.all_toList, ← Array.isEmpty_toList (xs := ees)]
          congr 2
          cases seen <;> rfl
        obtain ⟨i, k, hch, hi⟩ := run_choose_lt (P := P) (w := w) (candsC ees since seen).size candsC_pos
        obtain ⟨c, hci⟩ : ∃ c, (candsC ees since seen)[i]? = some c := ⟨_, Array.getElem?_eq_getElem hi⟩
        obtain ⟨e, hemem, he⟩ := cands_R hR since seen hci
        have hKe := hall e hemem
        have hrun1 := run_next_map (P := P) (w := w) (ty := ty) hb hbm hgone
        rw [hch] at hrun1
        simp only [Result.andThen_ok, hci] at hrun1
        have hsh0 : p.sh + 0 = 0 := by omega
        rw [hsh0]
        cases c with
        | none =>
          have he' : e = none := he
          subst he'
          exact ⟨over, { w with drawn := k }, hrun1, _, h, β, hKe, over_R, R.draw, Ext.drawn⟩
        | some c =>
          obtain ⟨e', rfl, hER⟩ := he
          simp only at hKe
          have hlt := (Array.getElem?_eq_some_iff.1 hb).1
          obtain ⟨t1, t2, t3⟩ := sim_setObj (P := P) (w := { w with drawn := k }) (D := D) (O := .mapIter (some q.b) since (seen.toArray.push c.born) ck) (o' := .mapIter (some m) since (seen ++ [e'.2.2]) ck) R.draw hp (by rw [hr]; rfl) (by rw [hr]; rfl) hb (by simp)
            ⟨hsh, some q.b, by simp [hlt, hER.2.2], .map hq⟩
          refine ⟨_, _, ?_, _, _, β, hKe, VR.tup3 (.bool true) hER.1 hER.2.1, t2, Ext.draw t3⟩
          rw [hrun1]
          simp only [Sem.run_bind, t1, Result.andThen_ok, Sem.run_pure]
      · exact hK.elim
    · exact hK.elim
  · exact hK.elim
theorem sim_entry {it it' v : Value} (he : pEntry it h = some v) (hx : VR β it it') (R : Rel β h w) : ∃ v', (Instr.entry it').run P w = .ok v' w ∧ VR β v v' := by
  unfold pEntry at he
  split at he
  · rename_i r
    obtain ⟨p, hp, rfl⟩ := hx.ptr_inv
    split at he
    · rename_i m since seen stepped hr
      obtain ⟨hsh, m', hb, hm⟩ := R.obj hp hr
      cases hm
      rename_i q hq
      split at he
      · rename_i stamp es ck hst hmo
        obtain ⟨ees, hbm, hR⟩ := R.obj hq hmo
        split at he
        · rename_i hck
          cases hf : es.find? (fun e => e.2.2 == stamp) with
          | none => rw [hf] at he; cases he
          | some e =>
            rw [hf] at he
            obtain rfl := Option.some.inj he
            obtain ⟨c, hc1, hc2⟩ := hR.find (fun b => b == stamp) hf
            have hb2 : seen.toArray.back? = some stamp := by simpa using hst
            have hf2 : ees.find? (fun e => e.born == stamp) = some c := by rw [← Array.find?_toList]; exact hc1
            refine ⟨.tuple #[c.key, c.val], ?_, VR.tup2 hc2.1 hc2.2.1⟩
            simp only [Instr.entry, hsh, Nat.zero_add, Sem.run_bind, run_getIt (P := P) hb (by simp), Result.andThen_ok, hb2, run_getIt (P := P) hbm (by simp), hck, hf2]
            simp
        · cases he
      · cases he
    · cases he
  · cases he
theorem sim_makeSlice {D : Nat → Prop} {t : TypeId} {len cap len' cap' : Value} {slot : Option Nat} {K : Value → AH → Prop} (hK : aMakeSlice P t len cap slot h K) (hl : VR β len len') (hc : VR β cap cap') (R : Rel β h w) (hs : SlotOK D β h slot) :
    ∃ v' w', (Instr.makeSlice t len' cap').run P w = .ok v' w' ∧ SimV D β h w K v' w' := by
  obtain ⟨r, hr, hK⟩ := optW_elim hK
  unfold pMakeSlice at hr
  split at hr
  · rename_i e l c ht
    obtain rfl := hl.int_inv
    obtain rfl := hc.int_inv
    split at hr
    · rename_i i z hi hz
      split at hr
      · rename_i hcond
        obtain ⟨c1, c2, c3, c4, c5⟩ := hcond
        obtain rfl := Option.some.inj hr
        obtain ⟨zv, hrun, _, hzc, hcr, h1, _⟩ := zeroL_spec (β := β) w hz
        have hc40 : c ≤ 1099511627776 := c3
        have hw1 : IntKind.i64.wrap l = l := by unfold IntKind.wrap; simp [IntKind.bits]; omega
        have hw2 : IntKind.i64.wrap c = c := by unfold IntKind.wrap; simp [IntKind.bits]; omega
        have hb : (i.bytes : Int) * c ≤ 256 * c := Int.mul_le_mul_of_nonneg_right (by omega) (by omega)
        have hb2 : ¬ ((281474976710656 : Int) < i.bytes * c) := by omega
        have hcl : ¬ c < 0 := by omega
        have hll : ¬ l < 0 := by omega
        have hlc : ¬ c < l := by omega
        have hzs : zv.cells.size = i.size := by rw [hzc]; simpa using c5
        have hrep : CellsR β (repL z c.toNat) ((Array.range (c.toNat * i.size)).map ((if c.toNat * i.size = 0 then #[] else zv.cells)[· % (if c.toNat * i.size = 0 then #[] else zv.cells).size]!)) := by
          by_cases h0 : c.toNat * i.size = 0
          · simp only [h0, if_true]
            refine ⟨by simp [repL_length, c5, h0], fun j hj => ?_⟩
            rw [repL_length, c5, h0] at hj
            omega
          · simp only [h0, if_false]
            exact rep_R hcr c.toNat (c.toNat * i.size) (by rw [c5])
        refine ⟨.slice (some ⟨w.heap.size, 0, none⟩) l.toNat c.toNat, { w with heap := w.heap.push (.cells ((Array.range (c.toNat * i.size)).map ((if c.toNat * i.size = 0 then #[] else zv.cells)[· % (if c.toNat * i.size = 0 then #[] else zv.cells).size]!)) e) }, ?_, ?_⟩
        · by_cases h0 : c.toNat * i.size = 0
          · simp [Instr.makeSlice, run_underlying ht, asInt, asIntOf, run_info w hi, hw1, hw2, hb2, hcl, hll, hlc, run_size w hi, h0, newRow]
          · simp [Instr.makeSlice, run_underlying ht, asInt, asIntOf, run_info w hi, hw1, hw2, hb2, hcl, hll, hlc, run_size w hi, h0, newRow, hrun]
        · obtain ⟨id, h', β', hk, hid, R', E⟩ := sim_newRow (e := e) (w' := { w with heap := w.heap.push (.cells ((Array.range (c.toNat * i.size)).map ((if c.toNat * i.size = 0 then #[] else zv.cells)[· % (if c.toNat * i.size = 0 then #[] else zv.cells).size]!)) e) }) 0 hK R hs rfl rfl rfl rfl (by rw [hrep.1]; exact Nat.le_refl _) hrep.2 (fun v hv => h1 v (mem_repL hv))
          have hco : c.toNat < openCap := by have : (openCap : Int) = 18446744073709551616 := rfl; omega
          exact ⟨_, h', β', hk, .slx hid (show l.toNat ≤ c.toNat by omega) hco (.inr (by simp)), R', E⟩
      · cases hr
    · cases hr
  · cases hr
theorem sim_appZ {D : Nat → Prop} {t tx ty e : TypeId} {k : IntKind} {i : TypeInfo} {z : List Value} {b b' : Value} {n : Int} {K : Value → AH → Prop} (ht : P.underlying t = some (.slice e)) (hk : P.underlying tx = some (.int k)) (hi : P.info? e = some i) (hz : zeroL P e = some z) (hpos : 0 < i.size) (hby : i.bytes ≤ 64)
    (hzl : z.length = i.size) (hK : appZ i.size z b n h K) (hb : VR β b b') (R : Rel β h w) (hn : ∀ id, D id → id < h.length) :
    ∃ v' w', (Builtin.append_ #[t, tx] ty #[b', .int .i64 n]).run P w = .ok v' w' ∧ SimV D β h w K v' w' := by
  unfold appZ at hK
  split at hK
  · cases hb
    split at hK
    · rename_i h0
      subst h0
      refine ⟨.slice none 0 0, w, ?_, _, h, β, hK, .nils, R, Ext.refl _ _ _ _⟩
      have hw1 : IntKind.i64.wrap 0 = 0 := by decide
      simp [Builtin.append_, run_underlying ht, run_underlying hk, sizeOf, typeInfo, hi, asInt, asIntOf, hw1]
    · split at hK
      · rename_i h0 h1
        obtain ⟨h1, h2⟩ := h1
        have h2' : n < 1099511627776 := h2
        obtain ⟨m, rfl⟩ : ∃ m : Nat, n = (m : Int) := ⟨n.toNat, by omega⟩
        simp only [Int.toNat_natCast] at hK
        obtain ⟨zv, hrun, _, hzc, hcr, hone, _⟩ := zeroL_spec (β := β) w hz
        have hinf : i.zero = some zv := by
          have h2 := hrun
          simp [zeroValue, run_info w hi] at h2
          split at h2
          · rename_i v hv
            simp at h2
            rw [hv, h2]
          · simp at h2
        have hzs : zv.cells.size = i.size := by rw [hzc]; simpa using hzl
        have hw1 : IntKind.i64.wrap (m : Int) = (m : Int) := by unfold IntKind.wrap; simp [IntKind.bits]; omega
        have hfit := fits64 (need := m) (cap' := 0) (bytes := i.bytes) (by omega) (by unfold room40; omega) hby
        have hb1 : (m : Int) * (i.bytes : Int) ≤ (m : Int) * 64 := Int.mul_le_mul_of_nonneg_left (by omega) (by omega)
        have hb2 : ¬ ((281474976710656 : Int) < (m : Int) * i.bytes) := by omega
        have hneg : ¬ (m : Int) < 0 := by omega
        have hn0 : ¬ m = 0 := by omega
        have hs0 : ¬ i.size = 0 := by omega
        have h63 : ¬ ((9223372036854775807 : Int) < (m : Int)) := by omega
        have h48' : ¬ (281474976710656 < Builtin.nextslicecap m 0 * i.bytes) := by omega
        have hrep : CellsR β (repL z m) (Builtin.zeroCells zv.cells m) := by
          unfold Builtin.zeroCells
          exact rep_R hcr m (m * zv.cells.size) (by rw [hzs, hzl])
        have hsg := sim_grow (D := D) (e := e) (z := zv.cells) (K := K) (old := []) (news := repL z m) (olds := []) (us := (Builtin.zeroCells zv.cells m).toList) (need := m) (cap' := 0) hzs R ⟨rfl, fun j hj => by simp at hj⟩ (by simpa using hrep) (fun v hv => by cases hv) (fun v hv => hone v (mem_repL hv))
          (by rw [repL_length, hzl]; simp) (by unfold room40; omega) (slot := none) ⟨hn, fun s h => by cases h⟩ (by simpa [newW] using hK)
        refine ⟨_, _, ?_, hsg⟩
        simp [Builtin.append_, run_underlying ht, run_underlying hk, sizeOf, typeInfo, zeroValue, hi, hinf, asInt, asIntOf, hw1, hb2, hneg, hn0, hs0, h63, h48', Question.forced, newRow, grownCap, Builtin.firstCells]
        intro hms
        exact absurd hms (Nat.mul_ne_zero hn0 hs0)
      · exact hK.elim
  · exact hK.elim
theorem sim_strBytes {D : Nat → Prop} {e : TypeId} {s : ByteArray} {slot : Option Nat} {K : Value → AH → Prop} (hK : aStrBytes s slot h K) (R : Rel β h w) (hs : SlotOK D β h slot) :
    ∃ v' w', (Conv.stringToBytes e s).run P w = .ok v' w' ∧ SimV D β h w K v' w' := by
  obtain ⟨hsz, hK⟩ := hK
  have hb := grownCap_bounds w s.size 0 e (Nat.lt_trans hsz (by decide))
  let C := (s.data.map fun b => Value.int .u8 b.toNat) ++ Array.replicate (grownCap w s.size 0 e - s.size) (.int .u8 0)
  have hC : C.size = grownCap w s.size 0 e := by
    simp only [C, Array.size_append, Array.size_map, Array.size_replicate]
    have : s.data.size = s.size := rfl
    omega
  let w1 : World := { w.drew with heap := w.heap.push (.cells C e (C.size, C.size + 1)) }
  have hrun : (Conv.stringToBytes e s).run P w = .ok (.slice (some ⟨w.heap.size, 0, none⟩) s.size (grownCap w s.size 0 e)) w1 := by
    have hq : (Question.appendCap s.size 0 e).forced = false := rfl
    simp only [Conv.stringToBytes, Sem.run_bind, run_choose, hq, Bool.false_eq_true, if_false, Result.andThen_ok, newRow, run_newObj, Sem.run_pure, markStringish, run_shape]
    have hsh : ∀ (w2 : World), w2.heap = w.heap.push (.cells C e (0, 0)) → w2.shape? w.heap.size = some (e, C.size) := by
      intro w2 h2
      simp [World.shape?, h2]
    change ((Sem.run P (match World.shape? { w.drew with heap := w.heap.push (.cells C e) } w.heap.size with
      | some (_, n) => freeze { block := w.heap.size, off := n } 1
      | x => pure ()) { w.drew with heap := w.heap.push (.cells C e) }).andThen _) = _
    rw [hsh _ rfl]
    simp only [run_freeze, Result.andThen_ok]
    have hf : World.freeze { w.drew with heap := w.heap.push (.cells C e) } ⟨w.heap.size, C.size, none⟩ 1 = w1 := by
      simp only [World.freeze, w1]
      rw [if_neg (by omega)]
      congr 1
      apply Array.ext_getElem?
      intro i
      simp only [Array.getElem?_modify, Array.getElem?_push]
      by_cases hi : i = w.heap.size
      · subst hi; simp
      · simp [hi, Ne.symm hi]
    rw [hf]
    rfl
  refine ⟨_, w1, hrun, ?_⟩
  obtain ⟨id, h', β', hk, hid, R', E⟩ := sim_new (O := .cells C e (C.size, C.size + 1)) (p := ⟨w.heap.size, 0, C.size, 1⟩) (w' := w1) hK R hs rfl rfl rfl rfl rfl fun β' hbl =>
    ⟨C, e, (C.size, C.size + 1), by simp [w1], by
      simp only [Nat.zero_add]
      rw [hC]
      simp [bytesL]
      exact hb.1, Nat.le_refl _, fun i hi => by
        have hi' : i < s.data.size := by simpa [bytesL] using hi
        have e1 : C.getD (0 + i) undef = .int .u8 (s.data[i]).toNat := by
          rw [Nat.zero_add, agetD]
          simp only [C]
          rw [Array.getElem?_append_left (by simpa using hi'), Array.getElem?_map, Array.getElem?_eq_getElem hi']
          rfl
        have e2 : (bytesL s).getD i undef = .int .u8 (s.data[i]).toNat := by
          rw [lgetD, bytesL, List.getElem?_map, Array.getElem?_toList, Array.getElem?_eq_getElem hi']
          rfl
        rw [e1, e2]
        exact .int _ _, (fun hw => by cases hw), bytesL_one s⟩
  exact ⟨_, h', β', hk, .slo (p := ⟨w.heap.size, 0, C.size, 1⟩) hid hb.1 (Nat.lt_trans hb.2 (by decide)) (by simp only [hC]; omega) (.inr (by simp)), R', E⟩
theorem bytesOf_R (f : Value → ByteArray → Sem (ForInStep ByteArray)) (hf : ∀ n s, f (.int .u8 n) s = pure (ForInStep.yield (s.push (UInt8.ofNat n.toNat)))) : ∀ {l : List Value} {bs : List UInt8}, bytesOf l = some bs → ∀ (cs : List Value), (∀ i, i < l.length → VR β (l.getD i undef) (cs.getD i undef)) → cs.length = l.length → ∀ (acc : ByteArray) (w : World),
    (forIn (m := Sem) cs acc f).run P w = .ok ⟨acc.data ++ bs.toArray⟩ w
  | [], bs, h, cs, hR, hl, acc, w => by
    simp only [bytesOf, Option.some.injEq] at h
    subst h
    have : cs = [] := List.eq_nil_of_length_eq_zero (by simpa using hl)
    subst this
    simp
  | v :: r, bs, h, cs, hR, hl, acc, w => by
    cases cs with
    | nil => simp at hl
    | cons c cs =>
      unfold bytesOf at h
      split at h
      · rename_i heq; cases heq
      · rename_i n r' heq
        cases heq
        split at h
        · rename_i l hl0
          obtain rfl := Option.some.inj h
          have h0 := hR 0 (by simp)
          simp only [List.getD_cons_zero] at h0
          cases h0
          have ih := bytesOf_R f hf hl0 cs (fun i hi => by have := hR (i + 1) (by simpa using hi); simpa using this) (by simpa using hl) (acc.push (UInt8.ofNat n.toNat)) w
          simp only [List.forIn_cons, hf, Sem.run_bind, Sem.run_pure, Result.andThen_ok]
          rw [ih]
          congr 2
          simp [ByteArray.push]
        · cases h
      · cases h
theorem sim_bytesStr {x x' v : Value} (hb : pBytesStr x h = some v) (hx : VR β x x') (R : Rel β h w) : ∃ v', (Conv.bytesToString x').run P w = .ok v' w ∧ VR β v v' := by
  unfold pBytesStr at hb
  split at hb
  · cases hx
    obtain rfl := Option.some.inj hb
    exact ⟨.string ⟨#[]⟩, by simp [Conv.bytesToString]; rfl, .str _⟩
  · rename_i id off len cap
    obtain ⟨p, a', cap', hp, rfl, ha, hlc, hco, _, _⟩ := hx.slice_inv
    split at hb
    · rename_i c wr hrow
      split at hb
      · rename_i hle
        obtain rfl := ha.resolve_left (by omega)
        cases hbs : bytesOf ((c.drop off).take len) with
        | none => rw [hbs] at hb; cases hb
        | some bs =>
          rw [hbs] at hb
          obtain rfl := Option.some.inj hb
          obtain ⟨cc, e, fr, hbk, h1, h2, h3, h4, h5⟩ := R.obj hp hrow
          have hl := run_loadSeg (P := P) (w := w) hbk (show p.sh + off + len ≤ cc.size by omega)
          have hcr := seg_R (β := β) h3 hle.2
          have hlen : (segC cc (p.sh + off) len).length = ((c.drop off).take len).length := by have := hcr.1; simpa using this
          have := fun f hf => bytesOf_R (P := P) (β := β) f hf hbs (segC cc (p.sh + off) len) (fun i hi => by have := hcr.2 i hi; rwa [← toList_getD] at this) hlen ByteArray.empty w
          refine ⟨_, ?_, .str _⟩
          simp only [Conv.bytesToString, Sem.run_bind, hl, Result.andThen_ok]
          rw [← Array.forIn_toList]
          rw [this _ (fun n s => rfl)]
          simp
      · split at hb
        · rename_i h0
          obtain rfl := Option.some.inj hb
          subst h0
          refine ⟨.string ⟨#[]⟩, ?_, .str _⟩
          have : (loadCells a' 0).run P w = .ok #[] w := by have := run_loadCells_list (P := P) w a' [] (by simp); simpa using this
          simp [Conv.bytesToString, this]
          rfl
        · cases hb
    · cases hb
  · cases hb
end Go.AM
end

section
/- The one function of Go's library that the abstract machine takes at its word: strings.Join (the kit's contract). Conditions: none. -/
namespace Go.AM
open Go Go.Proofs Go.Shelf
def strV : Value → Option ByteArray
  | .string s => some s
  | _ => none
def strVs : List Value → Option (List ByteArray)
  | [] => some []
  | v :: r => match strV v, strVs r with
    | some s, some ss => some (s :: ss)
    | _, _ => none
def strsL (v : Value) (look : Nat → Option AObj) : Option (List ByteArray) :=
  match v with
  | .slice a 0 _ => match a with
    | none => some []
    | some ⟨_, _, none⟩ => some []
    | _ => none
  | .slice (some ⟨id, off, none⟩) (n + 1) _ => match look id with
    | some (.row c _) => cond (Nat.ble (off + (n + 1)) c.length) (strVs ((c.drop off).take (n + 1))) none
    | _ => none
  | _ => none
def joinS (xs : List ByteArray) (sep : ByteArray) : ByteArray := ⟨(Lib.join (xs.map (·.data.toList)) sep.data.toList).toArray⟩
def isJoin (P : Program) (f : FuncId) : Prop := ∃ ρ : Ren, ρ.f 156 = f ∧ Lays.n156 P ρ ∧ Builder.Extra P ρ
def sjoinW (P : Program) (f : FuncId) (args : List Value) (h : AH) (K : Value → AH → Prop) : Prop :=
  isJoin P f ∧ ∃ v sep xs, args = [v, .string sep] ∧ strsL v (fun i => h[i]?) = some xs ∧ xs.length ≤ 1000000 ∧ (Lib.join (xs.map (·.data.toList)) sep.data.toList).length ≤ 1000000 ∧ K (.string (joinS xs sep)) h
def isPure (P : Program) (f : FuncId) (args : List Value) (R : Value → Prop) : Prop :=
  (∃ fn c, P.funcs[f]? = some fn ∧ fn.body = some c ∧ (fn.name == "runtime.NumGoroutine") = false) ∧ (∀ a ∈ args, pureS a = true) ∧ (∃ v, R v) ∧ (∀ v, R v → pureS v = true) ∧
    ∀ w, Calls P f args.toArray w fun e w' => (∃ v, e = .returned v ∧ R v) ∧ Go.RowKit.Below w.heap.size w w'
def pureW (P : Program) (f : FuncId) (args : List Value) (h : AH) (K : Value → AH → Prop) : Prop := ∃ R, isPure P f args R ∧ ∀ v, R v → K v h
def libW (P : Program) (f : FuncId) (args : List Value) (h : AH) (K : Value → AH → Prop) : Prop := sjoinW P f args h K ∨ pureW P f args h K
theorem libW_mono {P : Program} {f : FuncId} {args : List Value} {h : AH} {K K' : Value → AH → Prop} (hm : ∀ v h, K v h → K' v h) (hk : libW P f args h K) : libW P f args h K' := by
  rcases hk with ⟨h1, v, sep, xs, h2, h3, h4, h5, h6⟩ | ⟨R, h1, h2⟩
  · exact .inl ⟨h1, v, sep, xs, h2, h3, h4, h5, hm _ _ h6⟩
  · exact .inr ⟨R, h1, fun v hv => hm _ _ (h2 v hv)⟩
theorem strsL_set {v : Value} {h : AH} {s : Nat} {ob : AObj} {xs : List ByteArray} (hd : h[s]? = some .dead) (hx : strsL v (fun i => h[i]?) = some xs) : strsL v (fun i => (h.set s ob)[i]?) = some xs := by
  unfold strsL at hx ⊢
  split at hx
  · exact hx
  · rename_i id off n _
    dsimp only at hx ⊢
    by_cases e : s = id
    · subst e
      rw [hd] at hx
      cases hx
    · rw [List.getElem?_set_ne e]
      exact hx
  · cases hx
theorem isJoin_fn {P : Program} {f : FuncId} (hj : isJoin P f) : ∃ fn c, P.funcs[f]? = some fn ∧ fn.body = some c ∧ (fn.name == "runtime.NumGoroutine") = false := by
  obtain ⟨ρ, rfl, L, _⟩ := hj
  exact ⟨_, _, L.f156, rfl, show ("strings.Join" == "runtime.NumGoroutine") = false by decide⟩
theorem strVs_len : ∀ {l : List Value} {xs : List ByteArray}, strVs l = some xs → xs.length = l.length ∧ ∀ (i : Nat) x, xs[i]? = some x → l[i]? = some (.string x)
  | [], xs, h => by cases h; exact ⟨rfl, fun i x h => by simp at h⟩
  | v :: r, xs, h => by
    unfold strVs at h
    split at h
    · rename_i s ss h1 h2
      cases h
      obtain ⟨a, b⟩ := strVs_len h2
      refine ⟨by simp [a], fun i x hi => ?_⟩
      cases i with
      | zero =>
        simp at hi
        subst hi
        unfold strV at h1
        split at h1
        · cases h1; rfl
        · cases h1
      | succ j => simp at hi; simpa using b j x hi
    · cases h
theorem join_calls {P : Program} {f : FuncId} {v : Value} {sep : ByteArray} {xs : List ByteArray} {β : Bj} {h : AH} {w : World} (hj : isJoin P f) (hx : strsL v (fun i => h[i]?) = some xs) (n1 : xs.length ≤ 1000000) (n2 : (Lib.join (xs.map (·.data.toList)) sep.data.toList).length ≤ 1000000)
    {v' : Value} (hv : VR β v v') (R : Rel β h w) : Calls P f #[v', .string sep] w fun e w' => e = .returned (.string (joinS xs sep)) ∧ Go.RowKit.Below w.heap.size w w' := by
  obtain ⟨ρ, rfl, L, X⟩ := hj
  have base : ∀ (a : Option Addr) (c : Nat), xs = [] → v' = .slice a 0 c → Calls P (ρ.f 156) #[v', .string sep] w fun e w' => e = .returned (.string (joinS xs sep)) ∧ Go.RowKit.Below w.heap.size w w' := by
    rintro a c rfl rfl
    exact (Any.strings_Join_none L X a c sep w).mono fun e w' ⟨he, hw⟩ => ⟨he, hw ▸ Go.RowKit.Below.refl _ _⟩
  unfold strsL at hx
  split at hx
  · rename_i a c
    have hnil : xs = [] := by
      split at hx
      · exact (Option.some.inj hx).symm
      · exact (Option.some.inj hx).symm
      · cases hx
    cases hv with
    | nils => exact base _ _ hnil rfl
    | slx => exact base _ _ hnil rfl
    | slo => exact base _ _ hnil rfl
  · rename_i id off n c
    dsimp only at hx
    split at hx
    · rename_i cs wr hrow
      cases hb : Nat.ble (off + (n + 1)) cs.length with
      | false => rw [hb] at hx; cases hx
      | true =>
        rw [hb] at hx
        have hle := Nat.le_of_ble_eq_true hb
        obtain ⟨hl, hg⟩ := strVs_len (hx : strVs _ = some xs)
        rw [List.length_take, List.length_drop] at hl
        have hln : xs.length = n + 1 := by omega
        have key : ∀ (p : Pl) (a : Addr) (cap : Nat), β id = some p → n + 1 ≤ cap → a = ⟨p.b, p.sh + off, none⟩ → v' = .slice (some a) (n + 1) cap → Calls P (ρ.f 156) #[v', .string sep] w fun e w' => e = .returned (.string (joinS xs sep)) ∧ Go.RowKit.Below w.heap.size w w' := by
          rintro p a cap hp hcap rfl rfl
          obtain ⟨cc, el, fr, w1, w2, w3, w4, _, _⟩ := R.obj hp hrow
          have := Any.strings_Join L X p.b (p.sh + off) cap xs sep w (fun j x hj => by
            have h1 := hg j x hj
            have hj' := (List.getElem?_eq_some_iff.1 hj).1
            rw [List.getElem?_take, if_pos (by omega), List.getElem?_drop] at h1
            have h2 := w4 (off + j) (by omega)
            rw [List.getD_eq_getElem?_getD, h1] at h2
            have h3 : cc.getD (p.sh + (off + j)) undef = .string x := by
              generalize cc.getD (p.sh + (off + j)) undef = y at h2
              cases h2
              rfl
            have h4 : p.sh + (off + j) < cc.size := by omega
            have h5 : cc[p.sh + off + j]? = some (.string x) := by
              rw [Array.getD_eq_getD_getElem?] at h3
              rw [← Nat.add_assoc] at h3 h4
              rw [Array.getElem?_eq_getElem h4] at h3 ⊢
              exact congrArg some h3
            simp [World.cell?, w1, h5]) ((Array.getElem?_eq_some_iff.1 w1).1) (by omega) (by omega) (by omega)
          rw [hln] at this
          exact this
        cases hv with
        | slx hp hl2 hc ha => exact key _ _ _ hp hl2 (ha.resolve_left (by omega)) rfl
        | slo hp hl2 hc hr ha => exact key _ _ _ hp hl2 (ha.resolve_left (by omega)) rfl
    · cases hx
  · cases hx
theorem below_rel {β : Bj} {h : AH} {w w' : World} (R : Rel β h w) (b : Go.RowKit.Below w.heap.size w w') : Rel β h w' where
  lt := R.lt
  obj {id p o} hp ho := by
    by_cases hl : live (some o) = true
    · exact (R.obj hp ho).congr (.refl β) (b.block _ ((R.obj hp ho).lt hl))
    · cases o with
      | dead => trivial
      | _ => exact absurd rfl hl
  sep := R.sep
theorem below_ext {D : Nat → Prop} {β : Bj} {h : AH} {w w' : World} (b : Go.RowKit.Below w.heap.size w w') : Ext D β h w β h w' :=
  ⟨.refl β, fun _ _ h => h, Nat.le_refl _, fun _ _ _ => rfl, b.size, b.tape, b.os, b.output, fun k hk _ => b.block k hk, fun _ h => .inl h⟩
end Go.AM
end

section
/- The abstract machine's maps whose keys are a pointer and a number. Conditions: none. -/
namespace Go.AM
open Go
set_option linter.unusedSimpArgs false
def intT (P : Program) (t : TypeId) : Bool := match P.underlying t with
  | some (.int _) => true
  | _ => false
def ptrT (P : Program) (t : TypeId) : Bool := match P.underlying t with
  | some (.pointer e) => match P.info? e with
    | some i => !Nat.beq i.size 0
    | none => false
  | _ => false
def ptrFs (P : Program) (kt : TypeId) : Bool := match P.underlying kt with
  | some (.struct fs) => match fs.toList with
    | [f0, f1] => (f0.name != "_") && (f1.name != "_") && Nat.beq f0.offset 0 && Nat.beq f1.offset 1 && ptrT P f0.type && intT P f1.type && !P.stoodInHeld kt
    | _ => false
  | _ => false
def ptrKeyT (P : Program) (t : TypeId) : Bool := match P.underlying t with
  | some (.map kt _) => ptrFs P kt
  | _ => false
def keyP (v : Value) : Option (Nat × Nat × Int) := match v with
  | .agg a => match a.toList with
    | [.pointer (some ⟨i, o, none⟩), .int .i64 n] => some (i, o, n)
    | _ => none
  | _ => none
def lwO : Option AObj → Bool
  | some (.row _ true) => true
  | _ => false
def eq3 (a b : Nat × Nat × Int) : Bool := Nat.beq a.1 b.1 && Nat.beq a.2.1 b.2.1 && decide (a.2.2 = b.2.2)
def findP (look : Nat → Option AObj) (k : Nat × Nat × Int) : List Ent → Nat → Option (Option (Nat × Value))
  | [], _ => some none
  | e :: es, i => match keyP e.1 with
    | some q => match lwO (look q.1) with
      | true => match eq3 k q with
        | true => some (some (i, e.2.1))
        | false => findP look k es (i + 1)
      | false => none
    | none => none
def entsG (x : Value) (look : Nat → Option AObj) : Option (List Ent) :=
  match x with
  | .map none => some []
  | .map (some id) => match look id with
    | some (.map es _) => some es
    | _ => none
  | _ => none
def pLookupP (P : Program) (t : TypeId) (x k : Value) (ok : Bool) (look : Nat → Option AObj) : Option Value :=
  match P.underlying t, keyP k, entsG x look with
  | some (.map _ et), some q, some es => match zeroV P et, lwO (look q.1) with
    | some z, true => match findP look q es 0 with
      | some (some (_, v)) => some (okV ok v true)
      | some none => some (okV ok z false)
      | none => none
    | _, _ => none
  | _, _, _ => none
def pMapUpdP (P : Program) (t : TypeId) (x k v : Value) (look : Nat → Option AObj) : Option (Nat × AObj) :=
  match P.underlying t, keyP k, x with
  | some (.map _ _), some q, .map (some id) => match look id, lwO (look q.1) with
    | some (.map es ck), true => match findP look q es 0 with
      | some (some (i, _)) => some (id, .map (es.modify i fun e => (e.1, v, e.2.2)) ck)
      | some none => some (id, .map (es ++ [(k, v, ck)]) (ck + 1))
      | none => none
    | _, _ => none
  | _, _, _ => none
def pLook (P : Program) (t : TypeId) (x k : Value) (ok : Bool) (h : AH) : Option Value :=
  match ptrKeyT P t with
  | true => pLookupP P t x k ok (fun i => h[i]?)
  | false => pLookup P t x k ok h
def pMapU (P : Program) (t : TypeId) (x k v : Value) (h : AH) : Option AH :=
  match ptrKeyT P t with
  | true => (pMapUpdP P t x k v (fun i => h[i]?)).map fun u => h.set u.1 u.2
  | false => pMapUpd P t x k v h
variable {P : Program} {β : Bj} {h : AH} {w : World}
theorem lwO_row {o : Option AObj} (hl : lwO o = true) : ∃ c, o = some (.row c true) := by
  unfold lwO at hl
  split at hl
  · exact ⟨_, rfl⟩
  · cases hl
theorem eq3_iff {a b : Nat × Nat × Int} : eq3 a b = true ↔ a = b := by
  obtain ⟨a1, a2, a3⟩ := a
  obtain ⟨b1, b2, b3⟩ := b
  simp [eq3, Bool.and_eq_true, and_assoc]
theorem keyP_VR {k k' : Value} {q : Nat × Nat × Int} (hq : keyP k = some q) (hk : VR β k k') : ∃ p, β q.1 = some p ∧ k' = .agg #[.pointer (some ⟨p.b, p.sh + q.2.1, none⟩), .int .i64 q.2.2] := by
  unfold keyP at hq
  split at hq
  · rename_i a
    split at hq
    · rename_i i o n hl
      cases hq
      cases hk with
      | agg hs h1 hh =>
        rename_i a'
        obtain ⟨la⟩ := a
        have hl : la = [.pointer (some ⟨i, o, none⟩), .int .i64 n] := hl
        subst hl
        obtain ⟨la'⟩ := a'
        have hs' : la'.length = 2 := by simpa using hs.symm
        match la', hs' with
        | [x, y], _ =>
          have e0 : VR β (.pointer (some ⟨i, o, none⟩)) x := by simpa using hh 0 (by simp)
          have e1 : VR β (.int .i64 n) y := by simpa using hh 1 (by simp)
          cases e0 with
          | ptr hp =>
            cases e1
            exact ⟨_, hp, rfl⟩
    · cases hq
  · cases hq
theorem eqP_run {kt : TypeId} {q q' : Nat × Nat × Int} {p p' : Pl} (ht : ptrFs P kt = true) (R : Rel β h w) (hp : β q.1 = some p) (hp' : β q'.1 = some p') (hl : lwO h[q.1]? = true) (hl' : lwO h[q'.1]? = true) :
    (Op.equal kt (.agg #[.pointer (some ⟨p.b, p.sh + q.2.1, none⟩), .int .i64 q.2.2]) (.agg #[.pointer (some ⟨p'.b, p'.sh + q'.2.1, none⟩), .int .i64 q'.2.2])).run P w = .ok (eq3 q q') w := by
  obtain ⟨i, o, n⟩ := q
  obtain ⟨i', o', n'⟩ := q'
  dsimp only at hp hp' hl hl' ⊢
  obtain ⟨c, hc⟩ := lwO_row hl
  obtain ⟨c', hc'⟩ := lwO_row hl'
  obtain ⟨cc, el, fr, w1, _, _, _, w4, _⟩ := R.obj hp hc
  obtain ⟨cc', el', fr', w1', _, _, _, w4', _⟩ := R.obj hp' hc'
  rw [w4 rfl] at w1
  rw [w4' rfl] at w1'
  have addr : (sameAddr ⟨p.b, p.sh + o, none⟩ ⟨p'.b, p'.sh + o', none⟩).run P w = .ok (Nat.beq i i' && Nat.beq o o') w := by
    by_cases e : i = i'
    · subst e
      rw [hp] at hp'
      cases hp'
      by_cases e2 : o = o'
      · subst e2
        rw [run_sameAddr_same, Nat.beq_refl, Nat.beq_refl]
        rfl
      · rw [run_sameAddr_other w (by intro hh; injection hh with h1 h2 _; omega) w1 w1', Bool.eq_false_iff.2 (fun hh => e2 (Nat.eq_of_beq_eq_true hh)), Bool.and_false]
    · have hb : p.b ≠ p'.b := R.sep e hp hp' (by rw [hc]; rfl) (by rw [hc']; rfl) (by rw [hc, hc']; rfl)
      rw [run_sameAddr_other w (by intro hh; injection hh with h1 h2 _; exact hb h1) w1 w1', Bool.eq_false_iff.2 (fun hh => e (Nat.eq_of_beq_eq_true hh)), Bool.false_and]
  unfold ptrFs at ht
  split at ht
  · rename_i fs hu
    split at ht
    · rename_i f0 f1 hfs
      simp only [Bool.and_eq_true, bne_iff_ne, ne_eq, Bool.not_eq_true'] at ht
      obtain ⟨⟨⟨⟨⟨⟨n0, n1⟩, o0⟩, o1⟩, t0⟩, t1⟩, st⟩ := ht
      have o0 : f0.offset = 0 := Nat.eq_of_beq_eq_true o0
      have o1 : f1.offset = 1 := Nat.eq_of_beq_eq_true o1
      have hfo : P.fieldsOf kt = fs := by simp [Program.fieldsOf, hu]
      have gen : ∀ d, (Op.equalIn (d + 2) kt (.agg #[.pointer (some ⟨p.b, p.sh + o, none⟩), .int .i64 n]) (.agg #[.pointer (some ⟨p'.b, p'.sh + o', none⟩), .int .i64 n'])).run P w = .ok (eq3 (i, o, n) (i', o', n')) w := by
        intro d
        rw [run_equalIn_struct w (d + 1) kt _ _ (by rw [hfo]; exact hu) st, hfo, hfs]
        unfold ptrT at t0
        split at t0
        · rename_i e hu0
          split at t0
          · rename_i inf hinf
            have hsz : inf.size ≠ 0 := by
              intro hh
              rw [hh] at t0
              cases t0
            unfold intT at t1
            split at t1
            · rename_i kk hu1
              have pa0 : isAggT P f0.type = some false := by unfold isAggT; rw [hu0]
              have pa1 : isAggT P f1.type = some false := by unfold isAggT; rw [hu1]
              have key : (Op.equalIn (d + 1) f0.type (.pointer (some ⟨p.b, p.sh + o, none⟩)) (.pointer (some ⟨p'.b, p'.sh + o', none⟩))).run P w = .ok (Nat.beq i i' && Nat.beq o o') w := by
                simp only [Op.equalIn, Sem.run_bind, run_underlying hu0, Result.andThen_ok, run_size w hinf]
                rw [if_pos hsz]
                exact addr
              have key1 : (Op.equalIn (d + 1) f1.type (.int .i64 n) (.int .i64 n')).run P w = .ok (n == n') w := by
                simp [Op.equalIn, run_underlying hu1]
              have q0 : ∀ (x y : Value), (part f0.type #[x, y] f0.offset).run P w = .ok x w := fun x y => by rw [o0]; simp [part, run_agg w pa0]
              have q1 : ∀ (x y : Value), (part f1.type #[x, y] f1.offset).run P w = .ok y w := fun x y => by rw [o1]; simp [part, run_agg w pa1]
              have e3 : eq3 (i, o, n) (i', o', n') = ((Nat.beq i i' && Nat.beq o o') && (n == n')) := rfl
              rw [e3]
              simp only [Op.eqFields, n0, n1, ne_eq, not_false_eq_true, if_true, Sem.run_bind, q0, q1, Result.andThen_ok, key]
              cases hb : (Nat.beq i i' && Nat.beq o o') with
              | false => simp
              | true => cases hn : (n == n') <;> (rw [hn] at key1; simp [q1, key1])
            · cases t1
          · cases t0
        · cases t0
      exact gen 9998
    · cases ht
  · cases ht
end Go.AM
end

section
/- Go's model works on maps whose keys are a pointer and a number as the abstract machine does. Conditions: none. -/
namespace Go.AM
open Go
set_option linter.unusedSimpArgs false
variable {P : Program} {β : Bj} {h : AH} {w : World}
def keyC (p : Pl) (q : Nat × Nat × Int) : Value := .agg #[.pointer (some ⟨p.b, p.sh + q.2.1, none⟩), .int .i64 q.2.2]
theorem sim_findP {kt : TypeId} (ht : ptrFs P kt = true) (R : Rel β h w) {q : Nat × Nat × Int} {p : Pl} (hp : β q.1 = some p) (hl : lwO h[q.1]? = true) : ∀ (es : List Ent) (cs : List MapEntry) (i : Nat) (r : Option (Nat × Value)), EntsR β es cs → findP (fun i => h[i]?) q es i = some r →
    ∃ r', (Instr.findAsking kt (keyC p q) cs i).run P w = .ok r' w ∧ (match r with | none => r' = none | some (j, v) => ∃ v', r' = some (j, v') ∧ VR β v v' ∧ i ≤ j ∧ ∃ c, cs[j - i]? = some c ∧ c.key = keyC p q)
  | [], [], i, r, _, hf => by
    simp only [findP, Option.some.injEq] at hf
    subst hf
    exact ⟨none, by simp [Instr.findAsking], rfl⟩
  | e :: es, c :: cs, i, r, ⟨⟨hk, hv, hb⟩, hr⟩, hf => by
    simp only [findP] at hf
    cases hq : keyP e.1 with
    | none => rw [hq] at hf; cases hf
    | some q2 =>
      rw [hq] at hf
      dsimp only at hf
      cases hl2 : lwO h[q2.1]? with
      | false => rw [hl2] at hf; cases hf
      | true =>
        rw [hl2] at hf
        dsimp only at hf
        obtain ⟨p2, hp2, hck⟩ := keyP_VR hq hk
        have hrun : (Op.equal kt (keyC p q) c.key).run P w = .ok (eq3 q q2) w := by rw [hck]; exact eqP_run ht R hp hp2 hl hl2
        cases heq : eq3 q q2 with
        | true =>
          rw [heq] at hf hrun
          simp only [Option.some.injEq] at hf
          subst hf
          have e2 := eq3_iff.1 heq
          subst e2
          rw [hp] at hp2
          cases hp2
          exact ⟨some (i, c.val), by simp [Instr.findAsking, hrun], c.val, rfl, hv, Nat.le_refl _, c, by simp, hck⟩
        | false =>
          rw [heq] at hf hrun
          dsimp only at hf
          obtain ⟨r', h1, h2⟩ := sim_findP ht R hp hl es cs (i + 1) r hr hf
          refine ⟨r', by simp [Instr.findAsking, hrun, h1], ?_⟩
          cases r with
          | none => exact h2
          | some jv =>
            obtain ⟨v', e1, e2, e3, c', e4, e5⟩ := h2
            refine ⟨v', e1, e2, by omega, c', ?_, e5⟩
            rw [show jv.1 - i = (jv.1 - (i + 1)) + 1 by omega]; simpa using e4
  | [], _ :: _, _, _, hh, _ => by cases hh
  | _ :: _, [], _, _, hh, _ => by cases hh
theorem ptrFs_under {kt : TypeId} (ht : ptrFs P kt = true) : ∃ fs, P.underlying kt = some (.struct fs) := by
  unfold ptrFs at ht
  split at ht
  · exact ⟨_, ‹_›⟩
  · cases ht
theorem sim_findKeyP {kt : TypeId} (ht : ptrFs P kt = true) (R : Rel β h w) {q : Nat × Nat × Int} {p : Pl} (hp : β q.1 = some p) (hl : lwO h[q.1]? = true) {es : List Ent} {cs : List MapEntry} {r : Option (Nat × Value)} (he : EntsR β es cs) (hf : findP (fun i => h[i]?) q es 0 = some r) :
    ∃ r', (Instr.findKey kt (keyC p q) cs).run P w = .ok r' w ∧ (match r with | none => r' = none | some (j, v) => ∃ v', r' = some (j, v') ∧ VR β v v' ∧ ∃ c, cs[j]? = some c ∧ c.key = keyC p q) := by
  obtain ⟨fs, hu⟩ := ptrFs_under ht
  obtain ⟨r', h1, h2⟩ := sim_findP ht R hp hl es cs 0 r he hf
  refine ⟨r', ?_, ?_⟩
  · simp only [Instr.findKey, Sem.run_bind, run_underlying hu, Result.andThen_ok]
    cases cs with
    | nil =>
      simp [Instr.findAsking] at h1
      subst h1
      simp [Instr.findNow]
    | cons c cs =>
      have : Instr.findNow (.struct fs) (keyC p q) (c :: cs) 0 = none := by simp [Instr.findNow, Instr.sameNow]
      rw [this]
      exact h1
  · cases r with
    | none => exact h2
    | some jv =>
      obtain ⟨v', e1, e2, _, c, e3, e4⟩ := h2
      exact ⟨v', e1, e2, c, by simpa using e3, e4⟩
theorem sim_checkP {kt : TypeId} (ht : ptrFs P kt = true) (p : Pl) (q : Nat × Nat × Int) (em : Bool) (w : World) : (Instr.checkKey em 10000 kt (keyC p q)).run P w = .ok () w := by
  unfold ptrFs at ht
  split at ht
  · rename_i fs hu
    split at ht
    · rename_i f0 f1 hfs
      simp only [Bool.and_eq_true, bne_iff_ne, ne_eq, Bool.not_eq_true'] at ht
      obtain ⟨⟨⟨⟨⟨⟨n0, n1⟩, o0⟩, o1⟩, t0⟩, t1⟩, st⟩ := ht
      have o0 : f0.offset = 0 := Nat.eq_of_beq_eq_true o0
      have o1 : f1.offset = 1 := Nat.eq_of_beq_eq_true o1
      unfold ptrT at t0
      split at t0
      · rename_i e hu0
        unfold intT at t1
        split at t1
        · rename_i kk hu1
          have pa0 : isAggT P f0.type = some false := by unfold isAggT; rw [hu0]
          have pa1 : isAggT P f1.type = some false := by unfold isAggT; rw [hu1]
          have q0 : ∀ (x y : Value) (w : World), (part f0.type #[x, y] f0.offset).run P w = .ok x w := fun x y w => by rw [o0]; simp [part, run_agg w pa0]
          have q1 : ∀ (x y : Value) (w : World), (part f1.type #[x, y] f1.offset).run P w = .ok y w := fun x y w => by rw [o1]; simp [part, run_agg w pa1]
          have c0 : ∀ d (v : Value) (w : World), (Instr.checkKey em (d + 1) f0.type v).run P w = .ok () w := fun d v w => by simp [Instr.checkKey, run_underlying hu0]
          have c1 : ∀ d (v : Value) (w : World), (Instr.checkKey em (d + 1) f1.type v).run P w = .ok () w := fun d v w => by simp [Instr.checkKey, run_underlying hu1]
          have key : ∀ D d, D = d + 1 → (Instr.checkKey em (D + 1) kt (keyC p q)).run P w = .ok () w := by
            intro D d hD
            have c0 : ∀ (v : Value) (w : World), (Instr.checkKey em D f0.type v).run P w = .ok () w := fun v w => by rw [hD]; exact c0 d v w
            have c1 : ∀ (v : Value) (w : World), (Instr.checkKey em D f1.type v).run P w = .ok () w := fun v w => by rw [hD]; exact c1 d v w
            unfold keyC
            simp only [Instr.checkKey, Sem.run_bind, run_underlying hu, Result.andThen_ok]
            rw [← Array.forIn_toList, hfs]
            simp only [List.forIn_cons, List.forIn_nil, n0, n1, ne_eq, not_false_eq_true, if_true, Sem.run_bind, q0, q1, Result.andThen_ok, c0, c1, Sem.run_pure]
          exact key 9999 9998 rfl
        · cases t1
      · cases t0
    · cases ht
  · cases ht
theorem sim_staysP (p : Pl) (q : Nat × Nat × Int) (w : World) : (Instr.keyThatStays (keyC p q) (keyC p q)).run P w = .ok (keyC p q) w := by
  have key : ∀ D, Instr.sameBits (D + 2) (keyC p q) (keyC p q) = true := by
    intro D
    simp [keyC, Instr.sameBits]
  have := key 9998
  simp [Instr.keyThatStays, this]
end Go.AM
end

section
/- Look-ups and writes in maps of both kinds. Conditions: none. -/
namespace Go.AM
open Go
set_option linter.unusedSimpArgs false
variable {P : Program} {β : Bj} {h : AH} {w : World}
theorem entsG_eq (x : Value) (h : AH) : entsG x (fun i => h[i]?) = entsOf x h := rfl
theorem ptrKeyT_fs {t kt et : TypeId} (hk : ptrKeyT P t = true) (hu : P.underlying t = some (.map kt et)) : ptrFs P kt = true := by
  unfold ptrKeyT at hk
  rw [hu] at hk
  exact hk
theorem sim_look {t : TypeId} {x k x' k' v : Value} {ok : Bool} (hl : pLook P t x k ok h = some v) (R : Rel β h w) (hx : VR β x x') (hk : VR β k k') : ∃ v', (Instr.lookup t x' k' ok).run P w = .ok v' w ∧ VR β v v' := by
  unfold pLook at hl
  split at hl
  · rename_i hpk
    unfold pLookupP at hl
    split at hl
    · rename_i kt et q es hu hq hes
      split at hl
      · rename_i z hz hlw
        have ht := ptrKeyT_fs hpk hu
        obtain ⟨p, hp, hk2⟩ := keyP_VR hq hk
        have hk2 : k' = keyC p q := hk2
        subst hk2
        obtain ⟨hzr, hzp⟩ := zeroV_spec hz w
        have fin : ∀ ees : Array MapEntry, EntsR β es ees.toList → (∀ q' u, (Instr.findKey kt (keyC p q) ees.toList).run P w = .ok (some (q', u)) w → (Instr.lookup t x' (keyC p q) ok).run P w = .ok (if ok then .tuple #[u, .bool true] else u) w) →
            ((Instr.findKey kt (keyC p q) ees.toList).run P w = .ok none w → (Instr.lookup t x' (keyC p q) ok).run P w = .ok (if ok then .tuple #[z, .bool false] else z) w) → ∃ v', (Instr.lookup t x' (keyC p q) ok).run P w = .ok v' w ∧ VR β v v' := by
          intro ees hees g1 g2
          cases hf : findP (fun i => h[i]?) q es 0 with
          | none => rw [hf] at hl; cases hl
          | some r =>
            obtain ⟨r', hr', hrr⟩ := sim_findKeyP ht R hp hlw hees hf
            rw [hf] at hl
            cases r with
            | none =>
              simp only [Option.some.injEq] at hl
              subst hl
              simp only at hrr
              subst hrr
              exact ⟨_, g2 hr', okV_R (.ofPure hzp)⟩
            | some jv =>
              obtain ⟨j, v0⟩ := jv
              simp only [Option.some.injEq] at hl
              subst hl
              obtain ⟨v', rfl, hv, _⟩ := hrr
              exact ⟨_, g1 _ _ hr', okV_R hv⟩
        rw [entsG_eq] at hes
        rcases sim_ents hes R hx with ⟨rfl, rfl⟩ | ⟨b, ees, ck, rfl, hb, hR⟩
        · have hck := sim_checkP ht p q true w
          refine fin #[] trivial (fun q' u hq' => ?_) (fun hq' => ?_)
          · simp [Instr.lookup, run_underlying hu, hck, hq']
          · simp [Instr.lookup, run_underlying hu, hck, hq', hzr]
        · have hcke := sim_checkP ht p q ees.isEmpty w
          refine fin ees hR (fun q' u hq' => ?_) (fun hq' => ?_)
          · simp only [Instr.lookup, Sem.run_bind, run_underlying hu, Result.andThen_ok, run_getMap (P := P) hb, Sem.run_pure, hcke, hq']
          · simp only [Instr.lookup, Sem.run_bind, run_underlying hu, Result.andThen_ok, run_getMap (P := P) hb, Sem.run_pure, hcke, hq', hzr]
      · cases hl
    · cases hl
  · exact sim_lookup hl R hx hk
theorem sim_mapU {D : Nat → Prop} {t : TypeId} {x k v x' k' v' : Value} {h' : AH} (hu : pMapU P t x k v h = some h') (R : Rel β h w) (hx : VR β x x') (hk : VR β k k') (hv : VR β v v') :
    ∃ w', (Instr.mapUpdate t x' k' v').run P w = .ok () w' ∧ Rel β h' w' ∧ Ext D β h w β h' w' := by
  unfold pMapU at hu
  split at hu
  · rename_i hpk
    cases hup : pMapUpdP P t x k v (fun i => h[i]?) with
    | none => rw [hup] at hu; cases hu
    | some u =>
      rw [hup] at hu
      have hu : h.set u.1 u.2 = h' := Option.some.inj hu
      subst hu
      unfold pMapUpdP at hup
      split at hup
      · rename_i kt et q id ht0 hq
        cases hx
        rename_i pm hpm
        split at hup
        · rename_i es ck hid hlw
          have ht := ptrKeyT_fs hpk ht0
          obtain ⟨p, hp, hk2⟩ := keyP_VR hq hk
          have hk2 : k' = keyC p q := hk2
          subst hk2
          have hid : h[id]? = some (.map es ck) := hid
          obtain ⟨ees, hb, hR⟩ := R.obj hpm hid
          have hck := sim_checkP ht p q false w
          have hlt := (Array.getElem?_eq_some_iff.1 hb).1
          cases hf : findP (fun i => h[i]?) q es 0 with
          | none => rw [hf] at hup; cases hup
          | some r =>
            obtain ⟨r', hr', hrr⟩ := sim_findKeyP ht R hp hlw hR hf
            rw [hf] at hup
            cases r with
            | none =>
              simp only [Option.some.injEq] at hup
              subst hup
              simp only at hrr
              subst hrr
              obtain ⟨s1, s2, s3⟩ := sim_setObj (P := P) (D := D) (O := .map (ees.push { key := keyC p q, val := v', born := ck }) (ck + 1)) (o' := .map (es ++ [(k, v, ck)]) (ck + 1)) R hpm (by rw [hid]; rfl) (by rw [hid]; rfl) hb (by simp)
                ⟨ees.push { key := keyC p q, val := v', born := ck }, by simp [hlt], by rw [Array.toList_push]; exact hR.append hk hv⟩
              exact ⟨_, by simp [Instr.mapUpdate, run_underlying ht0, run_getMap (P := P) hb, hck, hr', s1], s2, s3⟩
            | some jv =>
              obtain ⟨j, v0⟩ := jv
              simp only [Option.some.injEq] at hup
              subst hup
              obtain ⟨v0', rfl, hv0, c, hc, hck2⟩ := hrr
              have hst := sim_staysP (P := P) p q w
              have hcj : ees[j]? = some c := by simpa using hc
              obtain ⟨s1, s2, s3⟩ := sim_setObj (P := P) (D := D) (O := .map (ees.modify j fun e => { e with key := keyC p q, val := v' }) ck) (o' := .map (es.modify j fun e => (e.1, v, e.2.2)) ck) R hpm (by rw [hid]; rfl) (by rw [hid]; rfl) hb (by simp)
                ⟨ees.modify j fun e => { e with key := keyC p q, val := v' }, by simp [hlt], by rw [Array.toList_modify]; exact hR.modify hv j hc hck2.symm⟩
              refine ⟨_, ?_, s2, s3⟩
              simp only [Instr.mapUpdate, Sem.run_bind, run_underlying ht0, Result.andThen_ok, run_getMap (P := P) hb, hck, hr', hcj, Option.map_some, Option.getD_some, hck2, hst, s1]
        · cases hup
      · cases hup
  · exact sim_mapUpdate hu R hx hk hv
theorem lwO_set {s j : Nat} {ob : AObj} (hd : h[s]? = some .dead) (hl : lwO h[j]? = true) : lwO (h.set s ob)[j]? = true := by
  by_cases e : s = j
  · subst e; rw [hd] at hl; cases hl
  · rw [List.getElem?_set_ne e]; exact hl
theorem findP_set {s : Nat} {ob : AObj} (hd : h[s]? = some .dead) (q : Nat × Nat × Int) : ∀ (es : List Ent) (i : Nat) {r : Option (Nat × Value)}, findP (fun i => h[i]?) q es i = some r → findP (fun i => (h.set s ob)[i]?) q es i = some r
  | [], i, r, hf => hf
  | e :: es, i, r, hf => by
    simp only [findP] at hf ⊢
    cases hq : keyP e.1 with
    | none => rw [hq] at hf; cases hf
    | some q2 =>
      rw [hq] at hf
      dsimp only at hf ⊢
      cases hl2 : lwO h[q2.1]? with
      | false => rw [hl2] at hf; cases hf
      | true =>
        rw [hl2] at hf
        rw [lwO_set hd hl2]
        dsimp only at hf ⊢
        cases heq : eq3 q q2 with
        | true => rw [heq] at hf; exact hf
        | false => rw [heq] at hf; exact findP_set hd q es (i + 1) hf
theorem entsG_set {s : Nat} {ob : AObj} {x : Value} {es : List Ent} (hd : h[s]? = some .dead) (he : entsG x (fun i => h[i]?) = some es) : entsG x (fun i => (h.set s ob)[i]?) = some es := by
  unfold entsG at he ⊢
  split at he
  · exact he
  · rename_i id
    dsimp only at he ⊢
    by_cases e : s = id
    · subst e; rw [hd] at he; cases he
    · rw [List.getElem?_set_ne e]; exact he
  · cases he
theorem pLookupP_set {t : TypeId} {x k v : Value} {ok : Bool} {s : Nat} {ob : AObj} (hd : h[s]? = some .dead) (hr : pLookupP P t x k ok (fun i => h[i]?) = some v) : pLookupP P t x k ok (fun i => (h.set s ob)[i]?) = some v := by
  unfold pLookupP at hr ⊢
  split at hr
  · rename_i kt et q es hu hq hes
    rw [entsG_set hd hes]
    simp only [hu, hq]
    split at hr
    · rename_i z hz hlw
      simp only [hz, lwO_set hd hlw]
      cases hf : findP (fun i => h[i]?) q es 0 with
      | none => rw [hf] at hr; cases hr
      | some r => rw [findP_set hd q es 0 hf]; rw [hf] at hr; exact hr
    · cases hr
  · cases hr
theorem pMapUpdP_set {t : TypeId} {x k v : Value} {u : Nat × AObj} {s : Nat} {ob : AObj} (hd : h[s]? = some .dead) (hr : pMapUpdP P t x k v (fun i => h[i]?) = some u) : pMapUpdP P t x k v (fun i => (h.set s ob)[i]?) = some u ∧ u.1 ≠ s ∧ u.2 ≠ .dead := by
  unfold pMapUpdP at hr ⊢
  split at hr
  · rename_i kt et q id hu hq
    simp only [hu, hq]
    split at hr
    · rename_i es ck hid hlw
      have hid : h[id]? = some (.map es ck) := hid
      have e : s ≠ id := by intro e; subst e; rw [hd] at hid; cases hid
      simp only [List.getElem?_set_ne e, hid, lwO_set hd hlw]
      cases hf : findP (fun i => h[i]?) q es 0 with
      | none => rw [hf] at hr; cases hr
      | some r =>
        rw [findP_set hd q es 0 hf]
        rw [hf] at hr
        cases r with
        | none =>
          simp only [Option.some.injEq] at hr
          subst hr
          exact ⟨rfl, Ne.symm e, by simp⟩
        | some jv =>
          simp only [Option.some.injEq] at hr
          subst hr
          exact ⟨rfl, Ne.symm e, by simp⟩
    · cases hr
  · cases hr
end Go.AM
end

section
/- The abstract machine: operations, regions, code, calls, as predicates on what may come behind. Conditions: none. -/
namespace Go.AM
open Go
abbrev CallT := FuncId → List Value → AH → (Value → AH → Prop) → Prop
def evParts (e : Env) (ps : List (Nat × Operand)) : List (Nat × Value) := ps.map fun p => (p.1, ev e p.2)
def convW (P : Program) (s d : TypeId) (x : Value) (slot : Option Nat) (h : AH) (K : Value → AH → Prop) : Prop :=
  match P.underlying s, P.underlying d with
  | some .string, some (.slice e) => match P.underlying e, x with
    | some (.int .u8), .string b => aStrBytes b slot h K
    | _, _ => False
  | some (.slice e), some .string => match P.underlying e with
    | some (.int .u8) => optW (pBytesStr x h) fun v => K v h
    | _ => False
  | some (.slice _), some (.slice e) => match P.underlying e, x, s == d with
    | some (.int .u8), .slice (some ⟨id, off, none⟩) (len + 1) cap, true => match h[id]? with
      | some (.row _ true) => False
      | _ => False
    | _, _, _ => False
  | _, _ => optW (pConv P s d x) fun v => K v h
def lenW (P : Program) (t : TypeId) (x : Value) (h : AH) : Option Value :=
  match P.underlying t with
  | some (.map ..) => pLenMap x h
  | _ => pLen P t x
def callOpW (P : Program) (X : CallT) (c : Call) (e : Env) (h : AH) (K : Value → AH → Prop) : Prop :=
  match c.callee with
  | .builtin b => match b, c.args.toList, c.argTypes.toList with
    | .len, [x], t :: _ => optW (lenW P t (ev e x) h) fun v => K v h
    | .append, [x, y], [t, u] => aAppend P #[t, u] (ev e x) (ev e y) h K
    | .max, [x, y], _ => optW (pMax2 true (ev e x) (ev e y)) fun v => K v h
    | .min, [x, y], _ => optW (pMax2 false (ev e x) (ev e y)) fun v => K v h
    | .cap, [x], t :: _ => optW (pCap P t (ev e x)) fun v => K v h
    | _, _, _ => False
  | .value f => match ev e f with
    | .func (.func g) a b => X g (a.toList ++ c.args.toList.map (ev e) ++ b.toList) h K
    | _ => False
  | .invoke .. => False
def opW (P : Program) (X : CallT) (slot : Option Nat) (o : Oper) (e : Env) (h : AH) (K : Value → AH → Prop) : Prop :=
  match o.op with
  | .move x | .assign x => K (ev e x) h
  | .pick c a b => optW (pPick (ev e c) (ev e a) (ev e b)) fun v => K v h
  | .alloc t => aAlloc P t slot h K
  | .box _ x => aBox (ev e x) slot h K
  | .build t ps => optW (pBuild P t (evParts e ps.toList)) fun v => K v h
  | .buildSlice t n ps => aBuildSlice P t n (evParts e ps.toList) slot h K
  | .load t x => optW (pLoad P t (ev e x) h) fun v => K v h
  | .store t x v => optW (stOf P t (ev e x) (ev e v) h) fun h' => K undef h'
  | .nilCheck x => optW (pNilCheck (ev e x)) fun v => K v h
  | .binOp op t x y _ => optW (pBin P op t (ev e x) (ev e y)) fun v => K v h
  | .unOp op _ x => optW (pUn op (ev e x)) fun v => K v h
  | .convert s d x => convW P s d (ev e x) slot h K
  | .makeFunc fn a b => K (.func fn (a.map (ev e)) (b.map (ev e))) h
  | .makeMap _ none => aMakeMap slot h K
  | .makeSlice t l c => aMakeSlice P t (ev e l) (ev e c) slot h K
  | .slice t x lo hi mx => optW (pSlice P t (ev e x) (lo.map (ev e)) (hi.map (ev e)) (mx.map (ev e))) fun v => K v h
  | .fieldAddr s x f => optW (pFieldAddr P s f (ev e x)) fun v => K v h
  | .field t x f => optW (pField P t (ev e x) f) fun v => K v h
  | .indexAddr t x i => optW (pIndexAddr P t (ev e x) (ev e i)) fun v => K v h
  | .index t x i => optW (pIndex P t (ev e x) (ev e i)) fun v => K v h
  | .lookup t x i ok => optW (pLook P t (ev e x) (ev e i) ok h) fun v => K v h
  | .mapUpdate t m k v => optW (pMapU P t (ev e m) (ev e k) (ev e v) h) fun h' => K undef h'
  | .range t x => aRange P t (ev e x) slot h K
  | .next it s => aNext (ev e it) s h K
  | .entry it => optW (pEntry (ev e it) h) fun v => K v h
  | .extract t i => optW (pExtract (ev e t) i) fun v => K v h
  | .call c => callOpW P X c e h K
  | _ => False
def gB (v : Value) (want : Bool) : Bool :=
  match v with
  | .bool b => b == want
  | _ => false
def gval (ops : Array Oper) (o : Oper) (e : Env) : Bool :=
  match o.guard with
  | none => true
  | some (j, want) => match (ops[j]?).bind (·.dst) with
    | some t => gB (e t) want
    | none => false
def gopW (g : Bool) (op : (Value → AH → Prop) → Prop) (h : AH) (K : Value → AH → Prop) : Prop :=
  match g with
  | true => op K
  | false => K undef h
def ordW (P : Program) (X : CallT) (ops : Array Oper) (slotOf : Nat → Option Nat) : List Nat → Env → AH → (Env → AH → Prop) → Prop
  | [], e, h, Q => Q e h
  | i :: r, e, h, Q => match ops[i]? with
    | none => ordW P X ops slotOf r e h Q
    | some o => gopW (gval ops o e) (opW P X (slotOf i) o e h) h fun v h' => ordW P X ops slotOf r (putE e o.dst v) h' Q
inductive Cl where
  | pure | rd | al | eff | call | bad
  deriving DecidableEq
def clOf (P : Program) (o : Oper) : Cl :=
  match o.op with
  | .move _ | .assign _ | .pick .. | .build .. | .nilCheck _ | .binOp .. | .unOp .. | .makeFunc .. | .slice .. | .fieldAddr .. | .field .. | .indexAddr .. | .index .. | .extract .. => .pure
  | .convert s d _ => match P.underlying s, P.underlying d with
    | some .string, some (.slice _) => .al
    | some (.slice _), some .string => .rd
    | some (.slice _), some (.slice _) => .bad
    | _, _ => .pure
  | .alloc _ | .box .. | .buildSlice .. | .makeMap .. | .makeSlice .. => .al
  | .load .. => .rd
  | .lookup t _ _ _ => match ptrKeyT P t with
    | true => .bad
    | false => .rd
  | .call c => match c.callee with
    | .builtin .len => match c.argTypes.toList with
      | t :: _ => match P.underlying t with
        | some (.map ..) => .rd
        | _ => .pure
      | [] => .bad
    | .builtin .max | .builtin .min => .pure
    | .builtin .append => .call
    | .value _ => .call
    | _ => .bad
  | .store .. => .eff
  | .mapUpdate t _ _ _ => match ptrKeyT P t with
    | true => .bad
    | false => .eff
  | _ => .bad
def slots (P : Program) : List Oper → Nat → List (Option Nat)
  | [], _ => []
  | o :: r, n => match clOf P o with
    | .al => some n :: slots P r (n + 1)
    | _ => none :: slots P r n
def countAl (P : Program) : List Oper → Nat
  | [] => 0
  | o :: r => match clOf P o with
    | .al => countAl P r + 1
    | _ => countAl P r
def reserve : Nat → AH → AH
  | 0, h => h
  | n + 1, h => reserve n (h ++ [.dead])
def slotAt (l : List (Option Nat)) (i : Nat) : Option Nat := (l[i]?).getD none
def idOf (v : Value) : List Nat :=
  match v with
  | .pointer (some a) => [a.block]
  | .slice (some a) _ _ => [a.block]
  | .map (some i) => [i]
  | _ => []
inductive Loc where
  | obj (i : Nat)
  | cells (i off n : Nat)
def Loc.id : Loc → Nat
  | .obj i => i
  | .cells i _ _ => i
def vwO : Loc → Option AObj → Option AObj
  | .obj _, o => o
  | .cells _ off n, o => match o with
    | some (.row c _) => if off + n ≤ c.length then some (.row ((c.drop off).take n) true) else none
    | _ => none
def vw (x : Loc) (h : AH) : Option AObj := vwO x h[x.id]?
theorem vw_eq {x : Loc} {a b : AH} (h : a[x.id]? = b[x.id]?) : vw x a = vw x b := by
  unfold vw
  rw [h]
def obOf (v : Value) : List Loc := (idOf v).map Loc.obj
def ceOf (n : Nat) (v : Value) : List Loc :=
  match v with
  | .pointer (some ⟨id, off, none⟩) => [.cells id off n]
  | _ => []
def touch (P : Program) (o : Oper) (e : Env) : List Loc :=
  match o.op with
  | .load t x => match P.info? t with
    | some i => ceOf i.size (ev e x)
    | none => []
  | .lookup _ x _ _ => obOf (ev e x)
  | .convert _ _ x => obOf (ev e x)
  | .store _ x _ => obOf (ev e x)
  | .mapUpdate _ m _ _ => obOf (ev e m)
  | .call c => match c.args.toList with
    | [x] => obOf (ev e x)
    | [x, y] => obOf (ev e x) ++ obOf (ev e y)
    | _ => []
  | _ => []
def free (b : Array Nat) (i j : Nat) : Bool := !((b.getD j 0).testBit i)
def histC (b : Array Nat) (j : Nat) (xs : List Loc) : List (Nat × AH × AH) → Prop → Prop
  | [], K => K
  | (k, hb, ha) :: r, K => match free b k j && Nat.blt k j with
    | true => (∀ x ∈ xs, vw x hb = vw x ha) ∧ histC b j xs r K
    | false => histC b j xs r K
def readC (b : Array Nat) (j : Nat) (hb ha : AH) : List (Nat × List Loc) → Prop → Prop
  | [], K => K
  | (k, xs) :: r, K => match free b k j && Nat.blt k j with
    | true => (∀ x ∈ xs, vw x hb = vw x ha) ∧ readC b j hb ha r K
    | false => readC b j hb ha r K
abbrev HT := List (Nat × AH × AH)
abbrev ST := List (Nat × List Loc)
def opD (P : Program) (X : CallT) (b : Array Nat) (sl : List (Option Nat)) (i : Nat) (o : Oper) (H : HT) (S : ST) (e : Env) (h : AH) (K : Value → AH → HT → ST → Prop) : Prop :=
  match clOf P o with
  | .pure => opW P X none o e h fun v h' => K v h' H S
  | .rd => histC b i (touch P o e) H (opW P X none o e h fun v h' => K v h' H ((i, touch P o e) :: S))
  | .al => opW P X (slotAt sl i) o e h fun v h' => K v h' ((i, h, h') :: H) S
  | .eff => histC b i (touch P o e) H (opW P X none o e h fun v h' => readC b i h h' S (K v h' ((i, h, h') :: H) S))
  | .call => opW P X none o e h fun v h' => readC b i h h' S (K v h' ((i, h, h') :: H) S)
  | .bad => False
def gopD (g : Bool) (op : (Value → AH → HT → ST → Prop) → Prop) (h : AH) (H : HT) (S : ST) (K : Value → AH → HT → ST → Prop) : Prop :=
  match g with
  | true => op K
  | false => K undef h H S
def textD (P : Program) (X : CallT) (ops : Array Oper) (b : Array Nat) (sl : List (Option Nat)) : List Nat → HT → ST → Env → AH → (Env → AH → Prop) → Prop
  | [], _, _, e, h, Q => Q e h
  | i :: r, H, S, e, h, Q => match ops[i]? with
    | none => False
    | some o => gopD (gval ops o e) (opD P X b sl i o H S e h) h H S fun v h' H' S' => textD P X ops b sl r H' S' (putE e o.dst v) h' Q
def opndT : Operand → List Nat
  | .tmp t => [t]
  | _ => []
def readsT (ops : Array Oper) (o : Oper) : List Nat :=
  o.op.operands.toList.flatMap opndT ++ match o.guard with
    | none => []
    | some (j, _) => match (ops[j]?).bind (·.dst) with
      | some t => [t]
      | none => []
def writesT (o : Oper) : List Nat := o.dst.toList
def disj (a b : List Nat) : Bool := a.all fun x => !b.contains x
def mayFloat (P : Program) (ops : Array Oper) (x y : Oper) : Bool :=
  disj (writesT x) (readsT ops y) && disj (writesT y) (readsT ops x) && disj (writesT x) (writesT y) &&
  match clOf P x, clOf P y with
  | .bad, _ | _, .bad => false
  | .al, .call => false
  | .eff, .eff | .eff, .call | .call, .eff | .call, .call => false
  | _, _ => true
def pairsOK (P : Program) (ops : Array Oper) (b : Array Nat) (j : Nat) (y : Oper) : List Oper → Nat → Bool
  | [], _ => true
  | x :: r, i => (!(free b i j) || mayFloat P ops x y) && pairsOK P ops b j y r (i + 1)
def drawOKFrom (P : Program) (ops : Array Oper) (b : Array Nat) : List Oper → List Oper → Nat → Bool
  | _, [], _ => true
  | done, y :: r, j => pairsOK P ops b j y done 0 && (y.after.toList.all fun e => !Region.binds .any e || decide (e.on < j)) && drawOKFrom P ops b (done ++ [y]) r (j + 1)
def drawOK (P : Program) (ops : Array Oper) : Bool := drawOKFrom P ops (Region.before ops) [] ops.toList 0
def regW (P : Program) (X : CallT) (ops : Array Oper) (draw : Bool) (e : Env) (h : AH) (Q : Env → AH → Prop) : Prop :=
  match draw with
  | false => ordW P X ops (fun _ => none) (List.range ops.size) e h Q
  | true => match drawOK P ops with
    | true => textD P X ops (Region.before ops) (slots P ops.toList h.length) (List.range ops.size) [] [] e (reserve (countAl P ops.toList) h) Q
    | false => False
def thenW (N : Env → AH → Prop) (Q : Exit → Env → AH → Prop) : Exit → Env → AH → Prop
  | .normal, e, h => N e h
  | x, e, h => Q x e h
def blockW (id : Nat) (Q : Exit → Env → AH → Prop) : Exit → Env → AH → Prop
  | .exit id', e, h => match Nat.beq id' id with
    | true => Q .normal e h
    | false => Q (.exit id') e h
  | x, e, h => Q x e h
def condW (v : Value) (a b : Prop) : Prop :=
  match v with
  | .bool true => a
  | .bool false => b
  | _ => False
def loopW (B : (Exit → Env → AH → Prop) → Env → AH → Prop) (Q : Exit → Env → AH → Prop) (e : Env) (h : AH) : Prop :=
  ∀ I : Env → AH → Prop, (∀ e h, B (thenW I Q) e h → I e h) → I e h
def cwp (P : Program) (X : CallT) : Code → (Exit → Env → AH → Prop) → Env → AH → Prop
  | .skip, Q, e, h => Q .normal e h
  | .region _ ops draw, Q, e, h => regW P X ops draw e h (Q .normal)
  | .seq a b, Q, e, h => cwp P X a (thenW (cwp P X b Q) Q) e h
  | .cond c a b, Q, e, h => condW (ev e c) (cwp P X a Q e h) (cwp P X b Q e h)
  | .block id c, Q, e, h => cwp P X c (blockW id Q) e h
  | .loop c, Q, e, h => loopW (cwp P X c) Q e h
  | .exit id, Q, e, h => Q (.exit id) e h
  | .ret, Q, e, h => Q .ret e h
  | _, _, _, _ => False
def envOf (args : List Value) : Env := fun i => args.getD i undef
def resCell (P : Program) (e : Env) (h : AH) : ResultVar → Option Value
  | .tmp t => some (e t)
  | .cell a t => pLoad P t (e a) h
def resList (P : Program) (e : Env) (h : AH) : List ResultVar → Option (List Value)
  | [] => some []
  | r :: rs => match resCell P e h r with
    | some v => match resList P e h rs with
      | some vs => some (v :: vs)
      | none => none
    | none => none
def resOf (vs : List Value) : Value :=
  match vs with
  | [v] => v
  | vs => .tuple vs.toArray
def resW (P : Program) (fn : Func) (e : Env) (h : AH) (K : Value → AH → Prop) : Prop :=
  optW (resList P e h fn.results.toList) fun vs => K (resOf vs) h
def endW (P : Program) (fn : Func) (K : Value → AH → Prop) : Exit → Env → AH → Prop
  | .normal, e, h | .ret, e, h => resW P fn e h K
  | _, _, _ => False
def opndOK : Operand → Bool
  | .tmp _ => true
  | .const v => pureV v
  | .global _ => false
  | .func _ => true
def operOK (nt : Nat) (o : Oper) : Bool := o.op.operands.toList.all opndOK && match o.dst with
  | some d => decide (d < nt)
  | none => true
def codeOK (nt : Nat) : Code → Bool
  | .region _ ops _ => ops.toList.all (operOK nt)
  | .seq a b => codeOK nt a && codeOK nt b
  | .cond c a b => opndOK c && codeOK nt a && codeOK nt b
  | .block _ c => codeOK nt c
  | .loop c => codeOK nt c
  | _ => true
def fnOK (fn : Func) : Bool := !(fn.name == "runtime.NumGoroutine") && match fn.body with
  | some c => codeOK fn.ntmps c
  | none => false
def stepF (P : Program) (X : CallT) : CallT := fun f args h K =>
  match P.funcs[f]? with
  | some fn => match fn.body, fnOK fn && decide (args.length ≤ fn.ntmps) with
    | some c, true => cwp P X c (endW P fn K) (envOf args) h
    | _, _ => False
  | none => False
def stepW (P : Program) (X : CallT) : CallT := fun f args h K => libW P f args h K ∨ stepF P X f args h K
def callW (P : Program) : CallT := fun f args h K => ∀ X : CallT, (∀ f args h K, stepW P X f args h K → X f args h K) → X f args h K
end Go.AM
end

section
/- The abstract machine: what holds behind more holds behind less; something comes behind; what fills a kept place turns nothing else. Conditions: none. -/
namespace Go.AM
open Go
set_option linter.unusedSimpArgs false
set_option linter.unusedVariables false
variable {P : Program}
def XMono (X Y : CallT) : Prop := ∀ f args h (K K' : Value → AH → Prop), (∀ v h, K v h → K' v h) → X f args h K → Y f args h K'
theorem optW_mono {α : Type} {o : Option α} {K K' : α → Prop} (h : ∀ v, K v → K' v) (hk : optW o K) : optW o K' := by
  cases o with
  | none => exact hk
  | some v => exact h v hk
theorem newW_mono {slot : Option Nat} {o : AObj} {h : AH} {K K' : Nat → AH → Prop} (hm : ∀ i h, K i h → K' i h) (hk : newW slot o h K) : newW slot o h K' := by
  cases slot <;> exact hm _ _ hk
theorem appS_mono {s : Nat} {b x : Value} {h : AH} {K K' : Value → AH → Prop} (hm : ∀ v h, K v h → K' v h) (hk : appS s b x h K) : appS s b x h K' := by
  rcases hk with hk | hk
  · exact .inl (optW_mono (fun r => hm _ _) hk)
  · right
    unfold appBoth at hk ⊢
    split at hk
    · rename_i id off len cap m news hs
      try simp only [hs]
      obtain ⟨h1, h2, h3⟩ := hk
      refine ⟨h1, h2, ?_⟩
      split at h3
      · rename_i c hr
        try simp only [hr]
        exact ⟨h3.1, hm _ _ h3.2.1, hm _ _ h3.2.2⟩
      · exact h3.elim
    · exact hk.elim
theorem appZ_mono {s : Nat} {z : List Value} {b : Value} {n : Int} {h : AH} {K K' : Value → AH → Prop} (hm : ∀ v h, K v h → K' v h) (hk : appZ s z b n h K) : appZ s z b n h K' := by
  unfold appZ at hk ⊢
  split at hk
  · split at hk
    · rename_i h0; rw [if_pos h0]; exact hm _ _ hk
    · rename_i h0
      rw [if_neg h0]
      split at hk
      · rename_i h1; rw [if_pos h1]; exact hm _ _ hk
      · exact hk.elim
  · exact hk.elim
theorem aAppend_mono {ts : Array TypeId} {b x : Value} {h : AH} {K K' : Value → AH → Prop} (hm : ∀ v h, K v h → K' v h) (hk : aAppend P ts b x h K) : aAppend P ts b x h K' := by
  unfold aAppend at hk ⊢
  split at hk
  · rename_i t tx h0
    try simp only [h0]
    split at hk
    · rename_i e e2 a l c h1 h2
      try simp only [h1, h2]
      split at hk
      · rename_i i z h3 h4
        try simp only [h3, h4]
        split at hk
        · rename_i hc
          rw [if_pos hc]
          exact appS_mono hm hk
        · exact hk.elim
      · exact hk.elim
    · rename_i e b h1 h2
      try simp only [h1, h2]
      split at hk
      · rename_i i z h3 h4
        try simp only [h3, h4]
        split at hk
        · rename_i hc
          rw [if_pos hc]
          exact appS_mono hm hk
        · exact hk.elim
      · exact hk.elim
    · rename_i e k b h1 h2
      try simp only [h1, h2]
      split at hk
      · rename_i i z h3 h4
        try simp only [h3, h4]
        split at hk
        · rename_i hc
          rw [if_pos hc]
          exact appZ_mono hm hk
        · exact hk.elim
      · exact hk.elim
    · exact hk.elim
  · exact hk.elim
theorem convW_mono {s d : TypeId} {x : Value} {slot : Option Nat} {h : AH} {K K' : Value → AH → Prop} (hm : ∀ v h, K v h → K' v h) (hk : convW P s d x slot h K) : convW P s d x slot h K' := by
  unfold convW at hk ⊢
  split at hk
  · rename_i e h1 h2
    try simp only [h1, h2]
    split at hk
    · rename_i b h3
      try simp only [h3]
      exact ⟨hk.1, newW_mono (fun _ _ => hm _ _) hk.2⟩
    · exact hk.elim
  · rename_i e h1 h2
    try simp only [h1, h2]
    split at hk
    · rename_i h3
      try simp only [h3]
      exact optW_mono (fun v => hm _ _) hk
    · exact hk.elim
  · rename_i e0 e h1 h2
    try simp only [h1, h2]
    split at hk
    · rename_i id off len cap h3 h4
      try simp only [h3, h4]
      split at hk
      · exact hk.elim
      · exact hk.elim
    · exact hk.elim
  · exact optW_mono (fun v => hm _ _) hk
theorem aRange_mono {t : TypeId} {x : Value} {slot : Option Nat} {h : AH} {K K' : Value → AH → Prop} (hm : ∀ v h, K v h → K' v h) (hk : aRange P t x slot h K) : aRange P t x slot h K' := by
  unfold aRange at hk ⊢
  split at hk
  · rename_i s h1
    try simp only [h1]
    exact newW_mono (fun _ _ => hm _ _) hk
  · rename_i h1
    try simp only [h1]
    exact newW_mono (fun _ _ => hm _ _) hk
  · rename_i m h1
    try simp only [h1]
    split at hk
    · rename_i es ck h2
      try simp only [h2]
      exact newW_mono (fun _ _ => hm _ _) hk
    · exact hk.elim
  · exact hk.elim
theorem aNext_mono {it : Value} {s : Bool} {h : AH} {K K' : Value → AH → Prop} (hm : ∀ v h, K v h → K' v h) (hk : aNext it s h K) : aNext it s h K' := by
  unfold aNext at hk ⊢
  split at hk
  · rename_i r
    try simp only
    split at hk
    · rename_i st pos h1
      try simp only [h1]
      split at hk
      · rename_i hp; rw [if_pos hp]; exact hm _ _ hk
      · rename_i hp; rw [if_neg hp]; exact hm _ _ hk
    · rename_i a b c h1
      try simp only [h1]
      exact hm _ _ hk
    · rename_i m a b c h1
      try simp only [h1]
      split at hk
      · rename_i es ck h2
        try simp only [h2]
        refine ⟨hk.1, fun c hc => ?_⟩
        have := hk.2 c hc
        cases c <;> exact hm _ _ this
      · exact hk.elim
    · exact hk.elim
  · exact hk.elim
theorem callOpW_mono {X Y : CallT} (hX : XMono X Y) {c : Call} {e : Env} {h : AH} {K K' : Value → AH → Prop} (hm : ∀ v h, K v h → K' v h) (hk : callOpW P X c e h K) : callOpW P Y c e h K' := by
  unfold callOpW at hk ⊢
  split at hk
  · split at hk
    · exact optW_mono (fun v => hm _ _) hk
    · exact aAppend_mono hm hk
    · exact optW_mono (fun v => hm _ _) hk
    · exact optW_mono (fun v => hm _ _) hk
    · exact optW_mono (fun v => hm _ _) hk
    · exact hk.elim
  · split at hk
    · exact hX _ _ _ _ _ hm hk
    · exact hk.elim
  · exact hk.elim
theorem opW_mono {X Y : CallT} (hX : XMono X Y) {slot : Option Nat} {o : Oper} {e : Env} {h : AH} {K K' : Value → AH → Prop} (hm : ∀ v h, K v h → K' v h) (hk : opW P X slot o e h K) : opW P Y slot o e h K' := by
  unfold opW at hk ⊢
  split at hk
  all_goals first
    | exact hm _ _ hk
    | exact optW_mono (fun v => hm _ _) hk
    | exact optW_mono (fun c hc => newW_mono (fun _ _ => hm _ _) hc) hk
    | exact ⟨hk.1, newW_mono (fun _ _ => hm _ _) hk.2⟩
    | exact newW_mono (fun _ _ => hm _ _) hk
    | exact convW_mono hm hk
    | exact aRange_mono hm hk
    | exact aNext_mono hm hk
    | exact callOpW_mono hX hm hk
    | exact hk.elim
theorem ordW_mono {X Y : CallT} (hX : XMono X Y) {ops : Array Oper} {sl : Nat → Option Nat} {Q Q' : Env → AH → Prop} (hm : ∀ e h, Q e h → Q' e h) : ∀ (l : List Nat) {e : Env} {h : AH}, ordW P X ops sl l e h Q → ordW P Y ops sl l e h Q'
  | [], e, h, hk => hm _ _ hk
  | i :: l, e, h, hk => by
    simp only [ordW] at hk ⊢
    cases ho : ops[i]? with
    | none => rw [ho] at hk; exact ordW_mono hX hm l hk
    | some o =>
      rw [ho] at hk
      simp only at hk ⊢
      cases hg : gval ops o e with
      | true => rw [hg] at hk; simp only [gopW] at hk ⊢; exact opW_mono hX (fun v h' => ordW_mono hX hm l) hk
      | false => rw [hg] at hk; simp only [gopW] at hk ⊢; exact ordW_mono hX hm l hk
theorem histC_iff {b : Array Nat} {j : Nat} {xs : List Loc} {K : Prop} : ∀ {H : HT}, histC b j xs H K ↔ (∀ y ∈ H, (free b y.1 j && Nat.blt y.1 j) = true → ∀ x ∈ xs, vw x y.2.1 = vw x y.2.2) ∧ K
  | [] => by simp [histC]
  | (k, hb, ha) :: r => by
    simp only [histC, List.forall_mem_cons]
    cases h : (free b k j && Nat.blt k j) with
    | true =>
      simp only [histC_iff (H := r), true_implies]
      constructor
      · rintro ⟨h1, h2, h3⟩; exact ⟨⟨h1, h2⟩, h3⟩
      · rintro ⟨⟨h1, h2⟩, h3⟩; exact ⟨h1, h2, h3⟩
    | false =>
      simp only [histC_iff (H := r)]
      constructor
      · rintro ⟨h2, h3⟩; exact ⟨⟨fun hc => (by cases hc), h2⟩, h3⟩
      · rintro ⟨⟨_, h2⟩, h3⟩; exact ⟨h2, h3⟩
theorem readC_iff {b : Array Nat} {j : Nat} {hb ha : AH} {K : Prop} : ∀ {S : ST}, readC b j hb ha S K ↔ (∀ y ∈ S, (free b y.1 j && Nat.blt y.1 j) = true → ∀ x ∈ y.2, vw x hb = vw x ha) ∧ K
  | [] => by simp [readC]
  | (k, xs) :: r => by
    simp only [readC, List.forall_mem_cons]
    cases h : (free b k j && Nat.blt k j) with
    | true =>
      simp only [readC_iff (S := r), true_implies]
      constructor
      · rintro ⟨h1, h2, h3⟩; exact ⟨⟨h1, h2⟩, h3⟩
      · rintro ⟨⟨h1, h2⟩, h3⟩; exact ⟨h1, h2, h3⟩
    | false =>
      simp only [readC_iff (S := r)]
      constructor
      · rintro ⟨h2, h3⟩; exact ⟨⟨fun hc => (by cases hc), h2⟩, h3⟩
      · rintro ⟨⟨_, h2⟩, h3⟩; exact ⟨h2, h3⟩
theorem opD_mono {X Y : CallT} (hX : XMono X Y) {b : Array Nat} {sl : List (Option Nat)} {i : Nat} {o : Oper} {H : HT} {S : ST} {e : Env} {h : AH} {K K' : Value → AH → HT → ST → Prop} (hm : ∀ v h H S, K v h H S → K' v h H S) (hk : opD P X b sl i o H S e h K) : opD P Y b sl i o H S e h K' := by
  unfold opD at hk ⊢
  split at hk
  · exact opW_mono hX (fun v h' => hm _ _ _ _) hk
  · rw [histC_iff] at hk ⊢
    exact ⟨hk.1, opW_mono hX (fun v h' => hm _ _ _ _) hk.2⟩
  · exact opW_mono hX (fun v h' => hm _ _ _ _) hk
  · rw [histC_iff] at hk ⊢
    exact ⟨hk.1, opW_mono hX (fun v h' hh => by rw [readC_iff] at hh ⊢; exact ⟨hh.1, hm _ _ _ _ hh.2⟩) hk.2⟩
  · exact opW_mono hX (fun v h' hh => by rw [readC_iff] at hh ⊢; exact ⟨hh.1, hm _ _ _ _ hh.2⟩) hk
  · exact hk.elim
theorem textD_mono {X Y : CallT} (hX : XMono X Y) {ops : Array Oper} {b : Array Nat} {sl : List (Option Nat)} {Q Q' : Env → AH → Prop} (hm : ∀ e h, Q e h → Q' e h) : ∀ (l : List Nat) {H : HT} {S : ST} {e : Env} {h : AH}, textD P X ops b sl l H S e h Q → textD P Y ops b sl l H S e h Q'
  | [], _, _, e, h, hk => hm _ _ hk
  | i :: l, H, S, e, h, hk => by
    simp only [textD] at hk ⊢
    cases ho : ops[i]? with
    | none => rw [ho] at hk; exact hk.elim
    | some o =>
      rw [ho] at hk
      simp only at hk ⊢
      cases hg : gval ops o e with
      | true => rw [hg] at hk; simp only [gopD] at hk ⊢; exact opD_mono hX (fun v h' H S => textD_mono hX hm l) hk
      | false => rw [hg] at hk; simp only [gopD] at hk ⊢; exact textD_mono hX hm l hk
theorem regW_mono {X Y : CallT} (hX : XMono X Y) {ops : Array Oper} {d : Bool} {e : Env} {h : AH} {Q Q' : Env → AH → Prop} (hm : ∀ e h, Q e h → Q' e h) (hk : regW P X ops d e h Q) : regW P Y ops d e h Q' := by
  unfold regW at hk ⊢
  cases d with
  | false => exact ordW_mono hX hm _ hk
  | true =>
    simp only at hk ⊢
    cases hd : drawOK P ops with
    | true => rw [hd] at hk; exact textD_mono hX hm _ hk
    | false => rw [hd] at hk; exact hk.elim
theorem cwp_mono {X Y : CallT} (hX : XMono X Y) : ∀ (c : Code) {Q Q' : Exit → Env → AH → Prop} {e : Env} {h : AH}, (∀ x e h, Q x e h → Q' x e h) → cwp P X c Q e h → cwp P Y c Q' e h
  | .skip, _, _, _, _, hm, hk => hm _ _ _ hk
  | .region _ ops d, _, _, _, _, hm, hk => regW_mono hX (fun e h => hm _ _ _) hk
  | .seq a b, _, _, _, _, hm, hk => cwp_mono hX a (fun x e h hq => by
      cases x with
      | normal => exact cwp_mono hX b hm hq
      | _ => exact hm _ _ _ hq) hk
  | .cond c a b, _, _, e, _, hm, hk => by
    simp only [cwp] at hk ⊢
    unfold condW at hk ⊢
    split at hk
    · exact cwp_mono hX a hm hk
    · exact cwp_mono hX b hm hk
    · exact hk.elim
  | .block id c, _, _, _, _, hm, hk => cwp_mono hX c (fun x e h hq => by
      cases x with
      | exit id' =>
        simp only [blockW] at hq ⊢
        cases hb : Nat.beq id' id <;> rw [hb] at hq <;> exact hm _ _ _ hq
      | _ => exact hm _ _ _ hq) hk
  | .loop c, _, _, e, h, hm, hk => fun I hI => hk I fun e h hB => hI e h (cwp_mono hX c (fun x e h hq => by
      cases x with
      | normal => exact hq
      | _ => exact hm _ _ _ hq) hB)
  | .exit _, _, _, _, _, hm, hk => hm _ _ _ hk
  | .ret, _, _, _, _, hm, hk => hm _ _ _ hk
  | .rangeFunc .., _, _, _, _, _, hk => hk.elim
  | .scope _, _, _, _, _, _, hk => hk.elim
  | .label _, _, _, _, _, _, hk => hk.elim
  | .goto _, _, _, _, _, _, hk => hk.elim
  | .refuse _, _, _, _, _, _, hk => hk.elim
theorem endW_mono {fn : Func} {K K' : Value → AH → Prop} (hm : ∀ v h, K v h → K' v h) (x : Exit) (e : Env) (h : AH) (hk : endW P fn K x e h) : endW P fn K' x e h := by
  cases x with
  | normal => exact optW_mono (fun v => hm _ _) hk
  | ret => exact optW_mono (fun v => hm _ _) hk
  | _ => exact hk.elim
theorem stepF_mono {X Y : CallT} (hX : XMono X Y) : XMono (stepF P X) (stepF P Y) := by
  intro f args h K K' hm hk
  unfold stepF at hk ⊢
  split at hk
  · rename_i fn hf
    try simp only [hf]
    split at hk
    · rename_i c hb hok
      try simp only [hb, hok]
      exact cwp_mono hX c (endW_mono hm) hk
    · exact hk.elim
  · exact hk.elim
theorem stepW_mono {X Y : CallT} (hX : XMono X Y) : XMono (stepW P X) (stepW P Y) := fun f args h K K' hm hk => hk.imp (libW_mono hm) (stepF_mono hX f args h K K' hm)
theorem callW_mono : XMono (callW P) (callW P) := by
  intro f args h K K' hm hk
  refine hk (fun f args h K => ∀ K', (∀ v h, K v h → K' v h) → callW P f args h K') ?_ K' hm
  intro f args h K hs K' hm X hX
  refine hX _ _ _ _ (stepW_mono ?_ f args h K K' hm hs)
  intro f args h K K' hm hx
  exact hx K' hm X hX
theorem callW_step {f : FuncId} {args : List Value} {h : AH} {K : Value → AH → Prop} (hs : stepW P (callW P) f args h K) : callW P f args h K := by
  intro X hX
  refine hX _ _ _ _ (stepW_mono ?_ f args h K K (fun _ _ h => h) hs)
  intro f args h K K' hm hx
  exact callW_mono f args h K K' hm hx X hX
def XStrict (X : CallT) : Prop := ∀ f args h K, X f args h K → ∃ v h', K v h'
theorem optW_strict {α : Type} {o : Option α} {K : α → Prop} (hk : optW o K) : ∃ v, K v := by
  cases o with
  | none => exact hk.elim
  | some v => exact ⟨v, hk⟩
theorem newW_strict {slot : Option Nat} {o : AObj} {h : AH} {K : Nat → AH → Prop} (hk : newW slot o h K) : ∃ i h', K i h' := by
  cases slot <;> exact ⟨_, _, hk⟩
theorem cands_ne (es : List Ent) (since : Nat) (seen : List Nat) : ∃ c, c ∈ cands es since seen := by
  refine List.exists_mem_of_ne_nil _ fun h0 => ?_
  unfold cands at h0
  rw [List.append_eq_nil_iff] at h0
  obtain ⟨h1, h3⟩ := h0
  split at h1
  · cases h1
  · rename_i hne
    rw [List.map_eq_nil_iff, List.append_eq_nil_iff] at h3
    exact hne (by rw [h3.1]; rfl)
theorem appS_strict {s : Nat} {b x : Value} {h : AH} {K : Value → AH → Prop} (hk : appS s b x h K) : ∃ v h', K v h' := by
  rcases hk with hk | hk
  · obtain ⟨v, hv⟩ := optW_strict hk; exact ⟨_, _, hv⟩
  · unfold appBoth at hk
    split at hk
    · obtain ⟨_, _, hk⟩ := hk
      split at hk
      · exact ⟨_, _, hk.2.1⟩
      · exact hk.elim
    · exact hk.elim
theorem opW_strict {X : CallT} (hX : XStrict X) {slot : Option Nat} {o : Oper} {e : Env} {h : AH} {K : Value → AH → Prop} (hk : opW P X slot o e h K) : ∃ v h', K v h' := by
  unfold opW at hk
  split at hk
  all_goals first
    | exact ⟨_, _, hk⟩
    | (obtain ⟨v, hv⟩ := optW_strict hk; exact ⟨_, _, hv⟩)
    | (obtain ⟨v, hv⟩ := optW_strict hk; obtain ⟨i, h', h2⟩ := newW_strict hv; exact ⟨_, _, h2⟩)
    | (obtain ⟨i, h', h2⟩ := newW_strict hk.2; exact ⟨_, _, h2⟩)
    | (obtain ⟨i, h', h2⟩ := newW_strict hk; exact ⟨_, _, h2⟩)
    | skip
  case _ =>
    unfold convW at hk
    split at hk
    · split at hk
      · obtain ⟨i, h', h2⟩ := newW_strict hk.2; exact ⟨_, _, h2⟩
      · exact hk.elim
    · split at hk
      · obtain ⟨v, hv⟩ := optW_strict hk; exact ⟨_, _, hv⟩
      · exact hk.elim
    · split at hk
      · split at hk
        · exact hk.elim
        · exact hk.elim
      · exact hk.elim
    · obtain ⟨v, hv⟩ := optW_strict hk; exact ⟨_, _, hv⟩
  case _ =>
    unfold aRange at hk
    split at hk
    · obtain ⟨i, h', h2⟩ := newW_strict hk; exact ⟨_, _, h2⟩
    · obtain ⟨i, h', h2⟩ := newW_strict hk; exact ⟨_, _, h2⟩
    · split at hk
      · obtain ⟨i, h', h2⟩ := newW_strict hk; exact ⟨_, _, h2⟩
      · exact hk.elim
    · exact hk.elim
  case _ =>
    unfold aNext at hk
    split at hk
    · split at hk
      · split at hk <;> exact ⟨_, _, hk⟩
      · exact ⟨_, _, hk⟩
      · split at hk
        · rename_i es ck h2
          obtain ⟨hk1, hk2⟩ := hk
          obtain ⟨c, hc⟩ := cands_ne es _ _
          have := hk2 c hc
          cases c <;> exact ⟨_, _, this⟩
        · exact hk.elim
      · exact hk.elim
    · exact hk.elim
  case _ =>
    unfold callOpW at hk
    split at hk
    · split at hk
      · obtain ⟨v, hv⟩ := optW_strict hk; exact ⟨_, _, hv⟩
      · unfold aAppend at hk
        simp only at hk
        split at hk
        · split at hk
          · split at hk
            · exact appS_strict hk
            · exact hk.elim
          · exact hk.elim
        · split at hk
          · split at hk
            · exact appS_strict hk
            · exact hk.elim
          · exact hk.elim
        · split at hk
          · split at hk
            · unfold appZ at hk
              split at hk
              · split at hk
                · exact ⟨_, _, hk⟩
                · split at hk
                  · exact ⟨_, _, hk⟩
                  · exact hk.elim
              · exact hk.elim
            · exact hk.elim
          · exact hk.elim
        · exact hk.elim
      · obtain ⟨v, hv⟩ := optW_strict hk; exact ⟨_, _, hv⟩
      · obtain ⟨v, hv⟩ := optW_strict hk; exact ⟨_, _, hv⟩
      · obtain ⟨v, hv⟩ := optW_strict hk; exact ⟨_, _, hv⟩
      · exact hk.elim
    · split at hk
      · exact hX _ _ _ _ hk
      · exact hk.elim
    · exact hk.elim
  case _ => exact hk.elim
theorem ordW_strict {X : CallT} (hX : XStrict X) {ops : Array Oper} {sl : Nat → Option Nat} {Q : Env → AH → Prop} : ∀ (l : List Nat) {e : Env} {h : AH}, ordW P X ops sl l e h Q → ∃ e h, Q e h
  | [], e, h, hk => ⟨_, _, hk⟩
  | i :: l, e, h, hk => by
    simp only [ordW] at hk
    cases ho : ops[i]? with
    | none => rw [ho] at hk; exact ordW_strict hX l hk
    | some o =>
      rw [ho] at hk
      simp only at hk
      cases hg : gval ops o e with
      | true => rw [hg] at hk; simp only [gopW] at hk; obtain ⟨v, h', h2⟩ := opW_strict hX hk; exact ordW_strict hX l h2
      | false => rw [hg] at hk; simp only [gopW] at hk; exact ordW_strict hX l hk
theorem opD_strict {X : CallT} (hX : XStrict X) {b : Array Nat} {sl : List (Option Nat)} {i : Nat} {o : Oper} {H : HT} {S : ST} {e : Env} {h : AH} {K : Value → AH → HT → ST → Prop} (hk : opD P X b sl i o H S e h K) : ∃ v h' H' S', K v h' H' S' := by
  unfold opD at hk
  split at hk
  · obtain ⟨v, h', h2⟩ := opW_strict hX hk; exact ⟨_, _, _, _, h2⟩
  · rw [histC_iff] at hk; obtain ⟨v, h', h2⟩ := opW_strict hX hk.2; exact ⟨_, _, _, _, h2⟩
  · obtain ⟨v, h', h2⟩ := opW_strict hX hk; exact ⟨_, _, _, _, h2⟩
  · rw [histC_iff] at hk; obtain ⟨v, h', h2⟩ := opW_strict hX hk.2; rw [readC_iff] at h2; exact ⟨_, _, _, _, h2.2⟩
  · obtain ⟨v, h', h2⟩ := opW_strict hX hk; rw [readC_iff] at h2; exact ⟨_, _, _, _, h2.2⟩
  · exact hk.elim
theorem textD_strict {X : CallT} (hX : XStrict X) {ops : Array Oper} {b : Array Nat} {sl : List (Option Nat)} {Q : Env → AH → Prop} : ∀ (l : List Nat) {H : HT} {S : ST} {e : Env} {h : AH}, textD P X ops b sl l H S e h Q → ∃ e h, Q e h
  | [], _, _, e, h, hk => ⟨_, _, hk⟩
  | i :: l, H, S, e, h, hk => by
    simp only [textD] at hk
    cases ho : ops[i]? with
    | none => rw [ho] at hk; exact hk.elim
    | some o =>
      rw [ho] at hk
      simp only at hk
      cases hg : gval ops o e with
      | true => rw [hg] at hk; simp only [gopD] at hk; obtain ⟨v, h', _, _, h2⟩ := opD_strict hX hk; exact textD_strict hX l h2
      | false => rw [hg] at hk; simp only [gopD] at hk; exact textD_strict hX l hk
theorem cwp_strict {X : CallT} (hX : XStrict X) : ∀ (c : Code) {Q : Exit → Env → AH → Prop} {e : Env} {h : AH}, cwp P X c Q e h → ∃ x e h, Q x e h
  | .skip, _, _, _, hk => ⟨_, _, _, hk⟩
  | .region _ ops d, _, _, _, hk => by
    simp only [cwp, regW] at hk
    cases d with
    | false => obtain ⟨e, h, h2⟩ := ordW_strict hX _ hk; exact ⟨_, _, _, h2⟩
    | true =>
      simp only at hk
      cases hd : drawOK P ops with
      | true => rw [hd] at hk; obtain ⟨e, h, h2⟩ := textD_strict hX _ hk; exact ⟨_, _, _, h2⟩
      | false => rw [hd] at hk; exact hk.elim
  | .seq a b, _, _, _, hk => by
    obtain ⟨x, e, h, h2⟩ := cwp_strict hX a hk
    cases x with
    | normal => exact cwp_strict hX b h2
    | _ => exact ⟨_, _, _, h2⟩
  | .cond c a b, _, e, _, hk => by
    simp only [cwp] at hk
    unfold condW at hk
    split at hk
    · exact cwp_strict hX a hk
    · exact cwp_strict hX b hk
    · exact hk.elim
  | .block id c, _, _, _, hk => by
    obtain ⟨x, e, h, h2⟩ := cwp_strict hX c hk
    cases x with
    | exit id' =>
      simp only [blockW] at h2
      cases hb : Nat.beq id' id <;> rw [hb] at h2 <;> exact ⟨_, _, _, h2⟩
    | _ => exact ⟨_, _, _, h2⟩
  | .loop c, Q, e, h, hk => hk (fun _ _ => ∃ x e h, Q x e h) fun e h hB => by
    obtain ⟨x, e, h, h2⟩ := cwp_strict hX c hB
    cases x with
    | normal => exact h2
    | _ => exact ⟨_, _, _, h2⟩
  | .exit _, _, _, _, hk => ⟨_, _, _, hk⟩
  | .ret, _, _, _, hk => ⟨_, _, _, hk⟩
  | .rangeFunc .., _, _, _, hk => hk.elim
  | .scope _, _, _, _, hk => hk.elim
  | .label _, _, _, _, hk => hk.elim
  | .goto _, _, _, _, hk => hk.elim
  | .refuse _, _, _, _, hk => hk.elim
theorem stepF_strict {X : CallT} (hX : XStrict X) : XStrict (stepF P X) := by
  intro f args h K hk
  unfold stepF at hk
  split at hk
  · split at hk
    · obtain ⟨x, e, h, h2⟩ := cwp_strict hX _ hk
      cases x with
      | normal => obtain ⟨v, hv⟩ := optW_strict h2; exact ⟨_, _, hv⟩
      | ret => obtain ⟨v, hv⟩ := optW_strict h2; exact ⟨_, _, hv⟩
      | _ => exact h2.elim
    · exact hk.elim
  · exact hk.elim
theorem stepW_strict {X : CallT} (hX : XStrict X) : XStrict (stepW P X) := fun f args h K hk => by
  rcases hk with (⟨_, _, _, _, _, _, _, _, hk⟩ | ⟨R, ⟨_, _, ⟨v, hv⟩, _⟩, hk⟩) | hk
  · exact ⟨_, _, hk⟩
  · exact ⟨_, _, hk v hv⟩
  · exact stepF_strict hX f args h K hk
theorem callW_strict : XStrict (callW P) := by
  intro f args h K hk
  exact hk (fun _ _ _ K => ∃ v h', K v h') fun f args h K hs => stepW_strict (fun _ _ _ _ hx => hx) f args h K hs
end Go.AM
end

section
/- The words of printed functions: operations with their types looked up, loops, calls. Conditions: none. -/
namespace Go.AM
open Go
variable {P : Program}
def bs (l : List UInt8) : ByteArray := ⟨⟨l⟩⟩
def bld (z : List Value) (pl : List (Nat × Nat)) (parts : List (Nat × Value)) : Option Value :=
  (fillL (fun i => pl[i]?) z parts).map fun cs => .agg cs.toArray
def bldSl (size : Nat) (z : List Value) (len : Nat) (parts : List (Nat × Value)) : Option (List Value) :=
  if z.length = size ∧ len * size ≤ 16777216 ∧ len ≤ 16777216 then fillL (fun j => some (j * size, size)) (repL z len) parts else none
def mkSl (size bytes : Nat) (z : List Value) (len cap : Value) : Option (Nat × Nat × List Value) :=
  match len, cap with
  | .int .i64 l, .int .i64 c => if 0 ≤ l ∧ l ≤ c ∧ c ≤ (room40 : Int) ∧ bytes ≤ 256 ∧ z.length = size then some (l.toNat, c.toNat, repL z c.toNat) else none
  | _, _ => none
def lenSl (x : Value) : Option Value :=
  match x with
  | .slice _ n _ => some (.int .i64 n)
  | _ => none
def lenStr (x : Value) : Option Value :=
  match x with
  | .string s => some (.int .i64 s.size)
  | _ => none
def appSl (s : Nat) (b x : Value) (h : AH) (K : Value → AH → Prop) : Prop :=
  match x with
  | .slice .. => appS s b x h K
  | _ => False
def appStr (s : Nat) (b x : Value) (h : AH) (K : Value → AH → Prop) : Prop :=
  match x with
  | .string _ => appS s b x h K
  | _ => False
def strB (x : Value) (slot : Option Nat) (h : AH) (K : Value → AH → Prop) : Prop :=
  match x with
  | .string b => aStrBytes b slot h K
  | _ => False
def callV (X : CallT) (f : Value) (args : List Value) (h : AH) (K : Value → AH → Prop) : Prop :=
  match f with
  | .func (.func g) a b => X g (a.toList ++ args ++ b.toList) h K
  | _ => False
def newR (slot : Option Nat) (c : List Value) (h : AH) (K : Value → AH → Prop) : Prop :=
  newW slot (.row c true) h fun id h' => K (.pointer (some ⟨id, 0, none⟩)) h'
def loopE (B : (Env → AH → Prop) → Env → AH → Prop) (e : Env) (h : AH) : Prop :=
  ∀ I : Env → AH → Prop, (∀ e h, B I e h → I e h) → I e h
def joinE (B : (Env → AH → Prop) → Prop) (J : Env → AH → Prop) : Prop := B J
theorem joinE_intro {B : (Env → AH → Prop) → Prop} {J : Env → AH → Prop} (Φ : Env → AH → Prop) (hJ : ∀ e h, Φ e h → J e h) (hB : ∀ J : Env → AH → Prop, (∀ e h, Φ e h → J e h) → B J) : joinE B J := hB J hJ
theorem loopE_intro {B : (Env → AH → Prop) → Env → AH → Prop} {e : Env} {h : AH} (Inv : Nat → Env → AH → Prop) (n : Nat) (h0 : Inv n e h)
    (step : ∀ (I : Env → AH → Prop) (n : Nat) (e : Env) (h : AH), Inv n e h → (∀ m e' h', m < n → Inv m e' h' → I e' h') → B I e h) : loopE B e h := by
  intro I hI
  have key : ∀ n, ∀ e h, Inv n e h → I e h := by
    intro n
    induction n using Nat.strongRecOn with
    | ind n ih => exact fun e h hi => hI e h (step I n e h hi fun m e' h' hm hi' => ih m hm e' h' hi')
  exact key n e h h0
def gvalS (ops : Array Oper) (g : Nat × Bool) (e : Env) : Bool :=
  match (ops[g.1]?).bind (·.dst) with
  | some t => gB (e t) g.2
  | none => false
theorem gval_some {ops : Array Oper} {o : Oper} {g : Nat × Bool} (h : o.guard = some g) (e : Env) : gval ops o e = gvalS ops g e := by
  unfold gval gvalS
  first
    | (rw [h]; done)
    | (rw [h]; rfl)
theorem gval_none {ops : Array Oper} {o : Oper} (h : o.guard = none) (e : Env) : gval ops o e = true := by
  unfold gval
  rw [h]
def ordW2 (P : Program) (X : CallT) (ops : Array Oper) : List Nat → Env → AH → (Env → AH → Prop) → Prop
  | [], e, h, Q => Q e h
  | i :: r, e, h, Q => match ops[i]? with
    | none => ordW2 P X ops r e h Q
    | some o => match o.guard with
      | none => opW P X none o e h fun v h' => ordW2 P X ops r (putE e o.dst v) h' Q
      | some g => gopW (gvalS ops g e) (opW P X none o e h) h fun v h' => ordW2 P X ops r (putE e o.dst v) h' Q
theorem ordW2_eq (P : Program) (X : CallT) (ops : Array Oper) (Q : Env → AH → Prop) : ∀ (l : List Nat) (e : Env) (h : AH), ordW2 P X ops l e h Q = ordW P X ops (fun _ => none) l e h Q
  | [], _, _ => rfl
  | i :: r, e, h => by
    rw [ordW2, ordW]
    cases ho : ops[i]? with
    | none => exact ordW2_eq P X ops Q r e h
    | some o =>
      dsimp only
      have hr : (fun v h' => ordW2 P X ops r (putE e o.dst v) h' Q) = fun v h' => ordW P X ops (fun _ => none) r (putE e o.dst v) h' Q := by
        funext v h'
        exact ordW2_eq P X ops Q r _ _
      rw [hr]
      cases hg : o.guard with
      | none => rw [gval_none hg]; rfl
      | some g => rw [gval_some hg]
def textD2 (P : Program) (X : CallT) (ops : Array Oper) (b : Array Nat) (sl : List (Option Nat)) : List Nat → HT → ST → Env → AH → (Env → AH → Prop) → Prop
  | [], _, _, e, h, Q => Q e h
  | i :: r, H, S, e, h, Q => match ops[i]? with
    | none => False
    | some o => match o.guard with
      | none => opD P X b sl i o H S e h fun v h' H' S' => textD2 P X ops b sl r H' S' (putE e o.dst v) h' Q
      | some g => gopD (gvalS ops g e) (opD P X b sl i o H S e h) h H S fun v h' H' S' => textD2 P X ops b sl r H' S' (putE e o.dst v) h' Q
theorem textD2_eq (P : Program) (X : CallT) (ops : Array Oper) (b : Array Nat) (sl : List (Option Nat)) (Q : Env → AH → Prop) : ∀ (l : List Nat) (H : HT) (S : ST) (e : Env) (h : AH), textD2 P X ops b sl l H S e h Q = textD P X ops b sl l H S e h Q
  | [], _, _, _, _ => rfl
  | i :: r, H, S, e, h => by
    rw [textD2, textD]
    cases ho : ops[i]? with
    | none => rfl
    | some o =>
      dsimp only
      have hr : (fun v h' H' S' => textD2 P X ops b sl r H' S' (putE e o.dst v) h' Q) = fun v h' H' S' => textD P X ops b sl r H' S' (putE e o.dst v) h' Q := by
        funext v h' H' S'
        exact textD2_eq P X ops b sl Q r _ _ _ _
      rw [hr]
      cases hg : o.guard with
      | none => rw [gval_none hg]; rfl
      | some g => rw [gval_some hg]
def regW2 (P : Program) (X : CallT) (ops : Array Oper) (draw : Bool) (e : Env) (h : AH) (Q : Env → AH → Prop) : Prop :=
  match draw with
  | false => ordW2 P X ops (List.range ops.size) e h Q
  | true => match drawOK P ops with
    | true => textD2 P X ops (Region.before ops) (slots P ops.toList h.length) (List.range ops.size) [] [] e (reserve (countAl P ops.toList) h) Q
    | false => False
theorem regW2_eq (P : Program) (X : CallT) (ops : Array Oper) (draw : Bool) (e : Env) (h : AH) (Q : Env → AH → Prop) : regW2 P X ops draw e h Q = regW P X ops draw e h Q := by
  cases draw with
  | false => exact ordW2_eq _ _ _ _ _ _ _
  | true =>
    simp only [regW2, regW]
    cases drawOK P ops with
    | false => rfl
    | true => exact textD2_eq _ _ _ _ _ _ _ _ _ _ _
def cwp2 (P : Program) (X : CallT) : Code → (Exit → Env → AH → Prop) → Env → AH → Prop
  | .skip, Q, e, h => Q .normal e h
  | .region _ ops draw, Q, e, h => regW2 P X ops draw e h (Q .normal)
  | .seq a b, Q, e, h => cwp2 P X a (thenW (cwp2 P X b Q) Q) e h
  | .cond c a b, Q, e, h => condW (ev e c) (cwp2 P X a Q e h) (cwp2 P X b Q e h)
  | .block id c, Q, e, h => cwp2 P X c (blockW id Q) e h
  | .loop c, Q, e, h => loopW (cwp2 P X c) Q e h
  | .exit id, Q, e, h => Q (.exit id) e h
  | .ret, Q, e, h => Q .ret e h
  | _, _, _, _ => False
theorem cwp2_eq (P : Program) (X : CallT) : ∀ (c : Code), cwp2 P X c = cwp P X c
  | .skip => rfl
  | .region _ ops draw => by funext Q e h; exact regW2_eq _ _ _ _ _ _ _
  | .seq a b => by funext Q e h; simp only [cwp2, cwp, cwp2_eq P X a, cwp2_eq P X b]
  | .cond c a b => by funext Q e h; simp only [cwp2, cwp, cwp2_eq P X a, cwp2_eq P X b]
  | .block id c => by funext Q e h; simp only [cwp2, cwp, cwp2_eq P X c]
  | .loop c => by funext Q e h; simp only [cwp2, cwp, cwp2_eq P X c]
  | .exit id => rfl
  | .ret => rfl
  | .rangeFunc .. => rfl
  | .scope _ => rfl
  | .label _ => rfl
  | .goto _ => rfl
  | .refuse _ => rfl
theorem callW_of {f : FuncId} {fn : Func} {args : List Value} {h : AH} {K : Value → AH → Prop} (hf : P.funcs[f]? = some fn) (hok : (fnOK fn && decide (args.length ≤ fn.ntmps)) = true)
    (hw : cwp2 P (callW P) (fn.body.getD .skip) (endW P fn K) (envOf args) h) : callW P f args h K := by
  rw [cwp2_eq] at hw
  refine callW_step (.inr ?_)
  unfold stepF
  rw [hf]
  dsimp only
  have hb : ∃ c, fn.body = some c := by
    simp only [Bool.and_eq_true] at hok
    have := hok.1
    unfold fnOK at this
    cases h : fn.body with
    | none => rw [h] at this; simp at this
    | some c => exact ⟨c, rfl⟩
  obtain ⟨c, hb⟩ := hb
  rw [hb] at hw ⊢
  rw [hok]
  exact hw
end Go.AM
namespace Go.AM
open Go
abbrev pt (e : Env) (d : Nat) (v : Value) : Env := putE e (some d) v
end Go.AM
end

section
/- The abstract machine: filling a kept place turns nothing else. Conditions: none. -/
namespace Go.AM
open Go
set_option linter.unusedSimpArgs false
set_option linter.unusedVariables false
variable {P : Program} {h : AH} {s : Nat} {ob : AObj}
def frK (s : Nat) (ob : AObj) (K : Value → AH → Prop) : Value → AH → Prop := fun v h'' => ∃ h', h'' = h'.set s ob ∧ h'[s]? = some .dead ∧ K v h'
def frQ (s : Nat) (ob : AObj) (Q : Env → AH → Prop) : Env → AH → Prop := fun e h'' => ∃ h', h'' = h'.set s ob ∧ h'[s]? = some .dead ∧ Q e h'
def XFrame (X : CallT) : Prop := ∀ f args h K s ob, h[s]? = some .dead → X f args h K → X f args (h.set s ob) (frK s ob K)
theorem frK_here {K : Value → AH → Prop} {v : Value} (hd : h[s]? = some .dead) (hk : K v h) : frK s ob K v (h.set s ob) := ⟨h, rfl, hd, hk⟩
theorem get_fill (hd : h[s]? = some .dead) {x : Nat} {q : AObj} (hx : h[x]? = some q) (hq : q ≠ .dead) : (h.set s ob)[x]? = some q := by
  have : s ≠ x := fun e => by subst e; rw [hd] at hx; exact hq (Option.some.inj hx).symm
  rw [getElem?_set_other this, hx]
theorem set_fill (hd : h[s]? = some .dead) {x : Nat} {q q' : AObj} (hx : h[x]? = some q) (hq : q ≠ .dead) : (h.set s ob).set x q' = (h.set x q').set s ob ∧ (h.set x q')[s]? = some .dead := by
  have : s ≠ x := fun e => by subst e; rw [hd] at hx; exact hq (Option.some.inj hx).symm
  exact ⟨List.set_comm _ _ this, by rw [getElem?_set_other (Ne.symm this), hd]⟩
theorem app_fill (hd : h[s]? = some .dead) (o : AObj) : (h.set s ob) ++ [o] = (h ++ [o]).set s ob ∧ (h ++ [o])[s]? = some .dead := by
  have hlt := (List.getElem?_eq_some_iff.1 hd).1
  exact ⟨by rw [List.set_append_left _ _ hlt], by rw [List.getElem?_append_left hlt, hd]⟩
theorem newW_fr {slot : Option Nat} {o : AObj} {K : Nat → AH → Prop} (hd : h[s]? = some .dead) (hs : slot ≠ some s) (hk : newW slot o h K) : newW slot o (h.set s ob) fun i h'' => ∃ h', h'' = h'.set s ob ∧ h'[s]? = some .dead ∧ K i h' := by
  cases slot with
  | none =>
    obtain ⟨e1, e2⟩ := app_fill (ob := ob) hd o
    simp only [newW, List.length_set]
    exact ⟨h ++ [o], e1, e2, hk⟩
  | some r =>
    have : r ≠ s := fun e => hs (by rw [e])
    exact ⟨h.set r o, List.set_comm _ _ (Ne.symm this), by rw [getElem?_set_other this, hd], hk⟩
theorem rdRow_fr {ag : Bool} {n : Nat} {x v : Value} (hd : h[s]? = some .dead) (hr : rdRow ag n x h = some v) : rdRow ag n x (h.set s ob) = some v := by
  unfold rdRow at hr ⊢
  split at hr
  · split at hr
    · rename_i c wr hrow
      simp only [get_fill (ob := ob) hd hrow (by simp)]
      exact hr
    · cases hr
  · cases hr
theorem pLoad_fr {t : TypeId} {x v : Value} (hd : h[s]? = some .dead) (hr : pLoad P t x h = some v) : pLoad P t x (h.set s ob) = some v := by
  unfold pLoad at hr ⊢
  split at hr
  · exact rdRow_fr hd hr
  · split at hr
    · rename_i h1; rw [if_pos h1]; exact rdRow_fr hd hr
    · cases hr
  · cases hr
theorem stRow_fr {x : Value} {vs : List Value} {h' : AH} (hd : h[s]? = some .dead) (hr : stRow x vs h = some h') : stRow x vs (h.set s ob) = some (h'.set s ob) ∧ h'[s]? = some .dead := by
  unfold stRow at hr ⊢
  split at hr
  · split at hr
    · rename_i c hrow
      simp only [get_fill (ob := ob) hd hrow (by simp)]
      split at hr
      · rename_i hl
        obtain rfl := Option.some.inj hr
        obtain ⟨e1, e2⟩ := set_fill (ob := ob) (q' := .row (spliceL c _ vs) true) hd hrow (by simp)
        rw [if_pos hl, e1]
        exact ⟨rfl, e2⟩
      · cases hr
    · cases hr
  · cases hr
theorem stOf_fr {t : TypeId} {x v : Value} {h' : AH} (hd : h[s]? = some .dead) (hr : stOf P t x v h = some h') : stOf P t x v (h.set s ob) = some (h'.set s ob) ∧ h'[s]? = some .dead := by
  unfold stOf pStore at hr ⊢
  split at hr
  · split at hr
    · rename_i hc
      simp only [hc]
      exact stRow_fr hd hr
    · cases hr
  · cases hr
theorem entsOf_fr {x : Value} {es : List Ent} (hd : h[s]? = some .dead) (hr : entsOf x h = some es) : entsOf x (h.set s ob) = some es := by
  unfold entsOf at hr ⊢
  split at hr
  · exact hr
  · split at hr
    · rename_i e c hrow
      simp only [get_fill (ob := ob) hd hrow (by simp)]
      exact hr
    · cases hr
  · cases hr
theorem pLookup_fr {t : TypeId} {x k v : Value} {ok : Bool} (hd : h[s]? = some .dead) (hr : pLookup P t x k ok h = some v) : pLookup P t x k ok (h.set s ob) = some v := by
  unfold pLookup at hr ⊢
  split at hr
  · cases he : entsOf x h with
    | none => rw [he] at hr; split at hr <;> first | cases hr | (rename_i h1; cases h1)
    | some es =>
      rw [he] at hr
      rw [entsOf_fr hd he]
      exact hr
  · cases hr
theorem pMapUpd_fr {t : TypeId} {x k v : Value} {h' : AH} (hd : h[s]? = some .dead) (hr : pMapUpd P t x k v h = some h') : pMapUpd P t x k v (h.set s ob) = some (h'.set s ob) ∧ h'[s]? = some .dead := by
  unfold pMapUpd at hr ⊢
  split at hr
  · split at hr
    · rename_i es ck hrow
      simp only [get_fill (ob := ob) hd hrow (by simp)]
      split at hr
      · rename_i hk
        simp only [hk]
        split at hr
        · rename_i i v0 hf
          obtain rfl := Option.some.inj hr
          obtain ⟨e1, e2⟩ := set_fill (ob := ob) (q' := .map (es.modify i fun e => (e.1, v, e.2.2)) ck) hd hrow (by simp)
          simp only [hf, e1]
          exact ⟨rfl, e2⟩
        · rename_i hf
          obtain rfl := Option.some.inj hr
          obtain ⟨e1, e2⟩ := set_fill (ob := ob) (q' := .map (es ++ [(k, v, ck)]) (ck + 1)) hd hrow (by simp)
          simp only [hf, e1]
          exact ⟨rfl, e2⟩
        · cases hr
      · cases hr
    · cases hr
  · cases hr
theorem pLook_fr {t : TypeId} {x k v : Value} {ok : Bool} (hd : h[s]? = some .dead) (hr : pLook P t x k ok h = some v) : pLook P t x k ok (h.set s ob) = some v := by
  unfold pLook at hr ⊢
  cases hk : ptrKeyT P t with
  | true => rw [hk] at hr; exact pLookupP_set hd hr
  | false => rw [hk] at hr; exact pLookup_fr hd hr
theorem pMapU_fr {t : TypeId} {x k v : Value} {h' : AH} (hd : h[s]? = some .dead) (hr : pMapU P t x k v h = some h') : pMapU P t x k v (h.set s ob) = some (h'.set s ob) ∧ h'[s]? = some .dead := by
  unfold pMapU at hr ⊢
  cases hk : ptrKeyT P t with
  | true =>
    rw [hk] at hr
    dsimp only at hr ⊢
    cases hu : pMapUpdP P t x k v (fun i => h[i]?) with
    | none => rw [hu] at hr; cases hr
    | some u =>
      rw [hu] at hr
      have hr : h.set u.1 u.2 = h' := Option.some.inj hr
      subst hr
      obtain ⟨e1, e2, _⟩ := pMapUpdP_set (ob := ob) hd hu
      rw [e1]
      refine ⟨?_, by rw [List.getElem?_set_ne e2]; exact hd⟩
      show some ((h.set s ob).set u.1 u.2) = _
      rw [List.set_comm _ _ (Ne.symm e2)]
  | false => rw [hk] at hr; exact pMapUpd_fr hd hr
theorem pLenMap_fr {x v : Value} (hd : h[s]? = some .dead) (hr : pLenMap x h = some v) : pLenMap x (h.set s ob) = some v := by
  unfold pLenMap at hr ⊢
  cases he : entsOf x h with
  | none => rw [he] at hr; cases hr
  | some es => rw [he] at hr; rw [entsOf_fr hd he]; exact hr
theorem pBytesStr_fr {x v : Value} (hd : h[s]? = some .dead) (hr : pBytesStr x h = some v) : pBytesStr x (h.set s ob) = some v := by
  unfold pBytesStr at hr ⊢
  split at hr
  · exact hr
  · split at hr
    · rename_i c wr hrow
      simp only [get_fill (ob := ob) hd hrow (by simp)]
      exact hr
    · cases hr
  · cases hr
theorem pEntry_fr {it v : Value} (hd : h[s]? = some .dead) (hr : pEntry it h = some v) : pEntry it (h.set s ob) = some v := by
  unfold pEntry at hr ⊢
  split at hr
  · split at hr
    · rename_i m a b c hrow
      simp only [get_fill (ob := ob) hd hrow (by simp)]
      split at hr
      · rename_i st es ck h1 h2
        simp only [h1, get_fill (ob := ob) hd h2 (by simp)]
        exact hr
      · cases hr
    · cases hr
  · cases hr
theorem srcL_fr {n : Nat} {x : Value} {r : Nat × List Value} (hd : h[s]? = some .dead) (hr : srcL n x h = some r) : srcL n x (h.set s ob) = some r := by
  unfold srcL at hr ⊢
  split at hr
  · exact hr
  · split at hr
    · rename_i h0; rw [if_pos h0]; exact hr
    · rename_i h0
      rw [if_neg h0]
      split at hr
      · rename_i c wr hrow
        simp only [get_fill (ob := ob) hd hrow (by simp)]
        exact hr
      · cases hr
  · exact hr
  · cases hr
theorem firstL_fr {n : Nat} {a : Option Addr} {l : List Value} (hd : h[s]? = some .dead) (hr : firstL n a h = some l) : firstL n a (h.set s ob) = some l := by
  unfold firstL at hr ⊢
  split at hr
  · rename_i h0; rw [if_pos h0]; exact hr
  · rename_i h0
    rw [if_neg h0]
    split at hr
    · split at hr
      · rename_i c wr hrow
        simp only [get_fill (ob := ob) hd hrow (by simp)]
        exact hr
      · cases hr
    · cases hr
theorem stAt_fr {a : Option Addr} {d : Nat} {vs : List Value} {h' : AH} (hd : h[s]? = some .dead) (hr : stAt a d vs h = some h') : stAt a d vs (h.set s ob) = some (h'.set s ob) ∧ h'[s]? = some .dead := by
  unfold stAt at hr ⊢
  split at hr
  · obtain rfl := Option.some.inj hr
    exact ⟨rfl, hd⟩
  · split at hr
    · exact stRow_fr hd hr
    · cases hr
theorem pAppS_fr {n : Nat} {b x : Value} {r : Value × AH} (hd : h[s]? = some .dead) (hr : pAppS n b x h = some r) : pAppS n b x (h.set s ob) = some (r.1, r.2.set s ob) ∧ r.2[s]? = some .dead := by
  unfold pAppS at hr ⊢
  split at hr
  · rename_i a len cap m news hs
    simp only [srcL_fr (ob := ob) hd hs]
    split at hr
    · rename_i hroom
      rw [if_pos hroom]
      split at hr
      · rename_i hc
        rw [if_pos hc]
        unfold pAppEx at hr ⊢
        split at hr
        · rename_i hf
          rw [if_pos hf]
          cases hst : stAt a (len * n) news h with
          | none => rw [hst] at hr; cases hr
          | some h' =>
            rw [hst] at hr
            obtain rfl := Option.some.inj hr
            obtain ⟨e1, e2⟩ := stAt_fr (ob := ob) hd hst
            rw [e1]
            exact ⟨rfl, e2⟩
        · rename_i hf
          rw [if_neg hf]
          cases hfi : firstL (len * n) a h with
          | none => rw [hfi] at hr; cases hr
          | some old =>
            rw [hfi] at hr
            obtain rfl := Option.some.inj hr
            rw [firstL_fr hd hfi]
            obtain ⟨e1, e2⟩ := app_fill (ob := ob) hd (.row (old ++ news) true)
            simp only [Option.map_some, List.length_set, e1]
            exact ⟨trivial, e2⟩
      · rename_i hc
        rw [if_neg hc]
        split at hr
        · rename_i hcs
          rw [if_pos hcs]
          unfold pAppOp at hr ⊢
          split at hr
          · rename_i id off
            split at hr
            · rename_i c hrow
              simp only [get_fill (ob := ob) hd hrow (by simp)]
              split at hr
              · rename_i hle
                rw [if_pos hle]
                cases hst : stAt (some ⟨id, off, none⟩) (len * n) news h with
                | none => rw [hst] at hr; cases hr
                | some h' =>
                  rw [hst] at hr
                  obtain rfl := Option.some.inj hr
                  obtain ⟨e1, e2⟩ := stAt_fr (ob := ob) hd hst
                  rw [e1]
                  exact ⟨rfl, e2⟩
              · rename_i hle
                rw [if_neg hle]
                split at hr
                · rename_i hle2
                  rw [if_pos hle2]
                  obtain rfl := Option.some.inj hr
                  obtain ⟨e1, e2⟩ := set_fill (ob := ob) (q' := .dead) hd hrow (by simp)
                  obtain ⟨e3, e4⟩ := app_fill (h := h.set id .dead) (ob := ob) e2 (.row ((c.drop off).take (len * n) ++ news) true)
                  rw [e1, e3, List.length_set]
                  exact ⟨rfl, e4⟩
                · cases hr
            · cases hr
          · cases hr
        · cases hr
    · cases hr
  · cases hr
theorem appS_fr {n : Nat} {b x : Value} {K : Value → AH → Prop} (hd : h[s]? = some .dead) (hk : appS n b x h K) : appS n b x (h.set s ob) (frK s ob K) := by
  rcases hk with hk | hk
  · obtain ⟨r, hr, hk⟩ := optW_elim hk
    obtain ⟨e1, e2⟩ := pAppS_fr (ob := ob) hd hr
    left
    rw [e1]
    exact ⟨r.2, rfl, e2, hk⟩
  · right
    unfold appBoth at hk ⊢
    split at hk
    · rename_i id off len cap m news hs
      simp only [srcL_fr (ob := ob) hd hs]
      obtain ⟨h1, h2, hk⟩ := hk
      refine ⟨h1, h2, ?_⟩
      split at hk
      · rename_i c hrow
        simp only [get_fill (ob := ob) hd hrow (by simp)]
        obtain ⟨k1, k2, k3⟩ := hk
        obtain ⟨e1, e2⟩ := set_fill (ob := ob) (q' := .row (c ++ news) true) hd hrow (by simp)
        obtain ⟨e3, e4⟩ := app_fill (ob := ob) hd (.row (c.drop off ++ news) true)
        rw [e1, e3, List.length_set]
        exact ⟨k1, ⟨_, rfl, e2, k2⟩, ⟨_, rfl, e4, k3⟩⟩
      · exact hk.elim
    · exact hk.elim
theorem opW_fr {X : CallT} (hX : XFrame X) (hm : XMono X X) {slot : Option Nat} {o : Oper} {e : Env} {K : Value → AH → Prop} (hd : h[s]? = some .dead) (hs : slot ≠ some s) (hk : opW P X slot o e h K) : opW P X slot o e (h.set s ob) (frK s ob K) := by
  unfold opW at hk ⊢
  split at hk
  all_goals first
    | exact frK_here hd hk
    | (refine optW_mono (fun v hv => ?_) hk; exact frK_here hd hv)
    | (refine optW_mono (fun v hv => ?_) hk; exact newW_fr hd hs hv)
    | exact ⟨hk.1, newW_fr hd hs hk.2⟩
    | exact newW_fr hd hs hk
    | (obtain ⟨v, hv, hk⟩ := optW_elim hk; rw [pLoad_fr hd hv]; exact frK_here hd hk)
    | (obtain ⟨v, hv, hk⟩ := optW_elim hk; rw [pLook_fr hd hv]; exact frK_here hd hk)
    | (obtain ⟨v, hv, hk⟩ := optW_elim hk; rw [pEntry_fr hd hv]; exact frK_here hd hk)
    | (obtain ⟨v, hv, hk⟩ := optW_elim hk; obtain ⟨e1, e2⟩ := stOf_fr (ob := ob) hd hv; rw [e1]; exact ⟨_, rfl, e2, hk⟩)
    | (obtain ⟨v, hv, hk⟩ := optW_elim hk; obtain ⟨e1, e2⟩ := pMapU_fr (ob := ob) hd hv; rw [e1]; exact ⟨_, rfl, e2, hk⟩)
    | skip
  case _ =>
    unfold convW at hk ⊢
    split at hk
    · split at hk
      · exact ⟨hk.1, newW_fr hd hs hk.2⟩
      · exact hk.elim
    · split at hk
      · obtain ⟨v, hv, hk⟩ := optW_elim hk
        rw [pBytesStr_fr hd hv]
        exact frK_here hd hk
      · exact hk.elim
    · split at hk
      · rename_i id off len cap _ _
        split at hk
        · rename_i c hrow
          simp only [get_fill (ob := ob) hd hrow (by simp)]
          exact hk.elim
        · exact hk.elim
      · exact hk.elim
    · refine optW_mono (fun v hv => ?_) hk
      exact frK_here hd hv
  case _ =>
    unfold aRange at hk ⊢
    split at hk
    · exact newW_fr hd hs hk
    · exact newW_fr hd hs hk
    · split at hk
      · rename_i es ck hrow
        simp only [get_fill (ob := ob) hd hrow (by simp)]
        exact newW_fr hd hs hk
      · exact hk.elim
    · exact hk.elim
  case _ =>
    unfold aNext at hk ⊢
    split at hk
    · split at hk
      · rename_i st pos hrow _
        simp only [get_fill (ob := ob) hd hrow (by simp)]
        split at hk
        · rename_i hp
          rw [if_pos hp]
          obtain ⟨e1, e2⟩ := set_fill (ob := ob) (q' := .strIter st (pos + (Utf8.decode st pos).2)) hd hrow (by simp)
          rw [e1]
          exact ⟨_, rfl, e2, hk⟩
        · rename_i hp
          rw [if_neg hp]
          exact frK_here hd hk
      · rename_i a b c hrow _
        simp only [get_fill (ob := ob) hd hrow (by simp)]
        exact frK_here hd hk
      · rename_i m a b c hrow _
        simp only [get_fill (ob := ob) hd hrow (by simp)]
        split at hk
        · rename_i es ck h2
          simp only [get_fill (ob := ob) hd h2 (by simp)]
          refine ⟨hk.1, fun c hc => ?_⟩
          have := hk.2 c hc
          cases c with
          | none => exact frK_here hd this
          | some en =>
            obtain ⟨e1, e2⟩ := set_fill (ob := ob) (q' := .mapIter (some m) a (b ++ [en.2.2]) ck) hd hrow (by simp)
            simp only [e1]
            exact ⟨_, rfl, e2, this⟩
        · exact hk.elim
      · exact hk.elim
    · exact hk.elim
  case _ =>
    unfold callOpW at hk ⊢
    split at hk
    · split at hk
      · obtain ⟨v, hv, hk⟩ := optW_elim hk
        have : ∀ t x, lenW P t x h = some v → lenW P t x (h.set s ob) = some v := by
          intro t x hl
          unfold lenW at hl ⊢
          split at hl
          · exact pLenMap_fr hd hl
          · exact hl
        rw [this _ _ hv]
        exact frK_here hd hk
      · unfold aAppend at hk ⊢
        simp only at hk ⊢
        split at hk
        · split at hk
          · split at hk
            · rename_i hc; rw [if_pos hc]; exact appS_fr hd hk
            · exact hk.elim
          · exact hk.elim
        · split at hk
          · split at hk
            · rename_i hc; rw [if_pos hc]; exact appS_fr hd hk
            · exact hk.elim
          · exact hk.elim
        · split at hk
          · split at hk
            · rename_i hc
              rw [if_pos hc]
              unfold appZ at hk ⊢
              split at hk
              · split at hk
                · rename_i h0; rw [if_pos h0]; exact frK_here hd hk
                · rename_i h0
                  rw [if_neg h0]
                  split at hk
                  · rename_i z _ _ _ _ h1
                    rw [if_pos h1]
                    obtain ⟨e3, e4⟩ := app_fill (ob := ob) hd (.row (repL _ _) true)
                    rw [e3, List.length_set]
                    exact ⟨_, rfl, e4, hk⟩
                  · exact hk.elim
              · exact hk.elim
            · exact hk.elim
          · exact hk.elim
        · exact hk.elim
      · refine optW_mono (fun v hv => ?_) hk
        exact frK_here hd hv
      · refine optW_mono (fun v hv => ?_) hk
        exact frK_here hd hv
      · refine optW_mono (fun v hv => ?_) hk
        exact frK_here hd hv
      · exact hk.elim
    · split at hk
      · exact hX _ _ _ _ _ _ hd hk
      · exact hk.elim
    · exact hk.elim
  case _ => exact hk.elim
theorem ordW_fr {X : CallT} (hX : XFrame X) (hm : XMono X X) {ops : Array Oper} {sl : Nat → Option Nat} {Q : Env → AH → Prop} : ∀ (l : List Nat) {e : Env} {h : AH}, h[s]? = some .dead → (∀ i, sl i ≠ some s) → ordW P X ops sl l e h Q → ordW P X ops sl l e (h.set s ob) (frQ s ob Q)
  | [], e, h, hd, _, hk => ⟨h, rfl, hd, hk⟩
  | i :: l, e, h, hd, hs, hk => by
    simp only [ordW] at hk ⊢
    cases ho : ops[i]? with
    | none => rw [ho] at hk; exact ordW_fr hX hm l hd hs hk
    | some o =>
      rw [ho] at hk
      simp only at hk ⊢
      cases hg : gval ops o e with
      | true =>
        rw [hg] at hk
        simp only [gopW] at hk ⊢
        refine opW_mono hm (fun v h'' hh => ?_) (opW_fr hX hm hd (hs i) hk)
        obtain ⟨h', rfl, hd', hk'⟩ := hh
        exact ordW_fr hX hm l hd' hs hk'
      | false =>
        rw [hg] at hk
        simp only [gopW] at hk ⊢
        exact ordW_fr hX hm l hd hs hk
def fillH (s : Nat) (ob : AObj) (H : HT) : HT := H.map fun y => (y.1, y.2.1.set s ob, y.2.2.set s ob)
theorem vw_other {x : Loc} {a : AH} (e : s ≠ x.id) : vw x (a.set s ob) = vw x a := vw_eq (getElem?_set_other e)
theorem vw_same {h h' : AH} (hl : s < h.length) (hl' : s < h'.length) {x : Loc} (hx : vw x h = vw x h') : vw x (h.set s ob) = vw x (h'.set s ob) := by
  by_cases e : s = x.id
  · exact vw_eq (by rw [← e, getElem?_set_same hl, getElem?_set_same hl'])
  · rw [vw_other e, vw_other e, hx]
theorem vw_same_len {h h' : AH} (hl : h.length = h'.length) {x : Loc} (hx : vw x h = vw x h') : vw x (h.set s ob) = vw x (h'.set s ob) := by
  by_cases hs : s < h.length
  · exact vw_same hs (by omega) hx
  · rw [List.set_eq_of_length_le (by omega), List.set_eq_of_length_le (by omega), hx]
theorem vw_fill {h h1 : AH} (hd : h[s]? = some .dead) (hd1 : h1[s]? = some .dead) {x : Loc} (hx : vw x h1 = vw x (h1.set s ob)) : vw x h = vw x (h.set s ob) := by
  by_cases e : s = x.id
  · have l := (List.getElem?_eq_some_iff.1 hd).1
    have l1 := (List.getElem?_eq_some_iff.1 hd1).1
    have e1 : vw x h = vw x h1 := vw_eq (by rw [← e, hd, hd1])
    have e2 : vw x (h.set s ob) = vw x (h1.set s ob) := vw_eq (by rw [← e, getElem?_set_same l, getElem?_set_same l1])
    rw [e1, e2, hx]
  · rw [vw_other e]
theorem textD_fr {X : CallT} (hX : XFrame X) (hm : XMono X X) {ops : Array Oper} {b : Array Nat} {sl : List (Option Nat)} {Q : Env → AH → Prop} : ∀ (l : List Nat) {H : HT} {S : ST} {e : Env} {h : AH}, h[s]? = some .dead → (∀ i, slotAt sl i ≠ some s) → (∀ y ∈ H, s < y.2.1.length ∧ s < y.2.2.length) →
    textD P X ops b sl l H S e h Q → textD P X ops b sl l (fillH s ob H) S e (h.set s ob) (frQ s ob Q)
  | [], H, S, e, h, hd, _, _, hk => ⟨h, rfl, hd, hk⟩
  | i :: l, H, S, e, h, hd, hs, hH, hk => by
    simp only [textD] at hk ⊢
    cases ho : ops[i]? with
    | none => rw [ho] at hk; exact hk.elim
    | some o =>
      rw [ho] at hk
      simp only at hk ⊢
      have hlt := (List.getElem?_eq_some_iff.1 hd).1
      have lenOf : ∀ {h' : AH}, h'[s]? = some .dead → s < h'.length := fun hh => (List.getElem?_eq_some_iff.1 hh).1
      cases hg : gval ops o e with
      | false =>
        rw [hg] at hk
        simp only [gopD] at hk ⊢
        exact textD_fr hX hm l hd hs hH hk
      | true =>
        rw [hg] at hk
        simp only [gopD] at hk ⊢
        unfold opD at hk ⊢
        have hist : ∀ {xs : List Loc} {K K' : Prop}, (K → K') → histC b i xs H K → histC b i xs (fillH s ob H) K' := by
          intro xs K K' hKK hh
          rw [histC_iff] at hh ⊢
          refine ⟨fun y hy hc x hx => ?_, hKK hh.2⟩
          obtain ⟨y0, hy0, rfl⟩ := List.mem_map.1 hy
          exact vw_same (hH y0 hy0).1 (hH y0 hy0).2 (hh.1 y0 hy0 hc x hx)
        have read : ∀ {h' : AH} {K K' : Prop}, h'[s]? = some .dead → (K → K') → readC b i h h' S K → readC b i (h.set s ob) (h'.set s ob) S K' := by
          intro h' K K' hd' hKK hh
          rw [readC_iff] at hh ⊢
          exact ⟨fun y hy hc x hx => vw_same hlt (lenOf hd') (hh.1 y hy hc x hx), hKK hh.2⟩
        have hH' : ∀ {h' : AH}, h'[s]? = some .dead → ∀ y ∈ (i, h, h') :: H, s < y.2.1.length ∧ s < y.2.2.length := by
          intro h' hd' y hy
          rcases List.mem_cons.1 hy with rfl | hy
          · exact ⟨hlt, lenOf hd'⟩
          · exact hH y hy
        split at hk
        · refine opW_mono hm (fun v h'' hh => ?_) (opW_fr (ob := ob) hX hm hd (by simp) hk)
          obtain ⟨h', rfl, hd', hk'⟩ := hh
          exact textD_fr hX hm l hd' hs hH hk'
        · refine hist (fun hk => ?_) hk
          refine opW_mono hm (fun v h'' hh => ?_) (opW_fr (ob := ob) hX hm hd (by simp) hk)
          obtain ⟨h', rfl, hd', hk'⟩ := hh
          exact textD_fr hX hm l hd' hs hH hk'
        · refine opW_mono hm (fun v h'' hh => ?_) (opW_fr (ob := ob) hX hm hd (hs i) hk)
          obtain ⟨h', rfl, hd', hk'⟩ := hh
          exact textD_fr hX hm l hd' hs (hH' hd') hk'
        · refine hist (fun hk => ?_) hk
          refine opW_mono hm (fun v h'' hh => ?_) (opW_fr (ob := ob) hX hm hd (by simp) hk)
          obtain ⟨h', rfl, hd', hk'⟩ := hh
          exact read hd' (fun hk' => textD_fr hX hm l hd' hs (hH' hd') hk') hk'
        · refine opW_mono hm (fun v h'' hh => ?_) (opW_fr (ob := ob) hX hm hd (by simp) hk)
          obtain ⟨h', rfl, hd', hk'⟩ := hh
          exact read hd' (fun hk' => textD_fr hX hm l hd' hs (hH' hd') hk') hk'
        · exact hk.elim
theorem reserve_fr : ∀ (n : Nat) {h : AH}, h[s]? = some .dead → reserve n (h.set s ob) = (reserve n h).set s ob ∧ (reserve n h)[s]? = some .dead
  | 0, h, hd => ⟨rfl, hd⟩
  | n + 1, h, hd => by
    obtain ⟨e1, e2⟩ := app_fill (ob := ob) hd .dead
    simp only [reserve, e1]
    exact reserve_fr n e2
theorem slots_ge (P : Program) : ∀ (l : List Oper) (n i r : Nat), slotAt (slots P l n) i = some r → n ≤ r
  | [], n, i, r, h => by simp [slots, slotAt] at h
  | o :: l, n, i, r, h => by
    unfold slots at h
    split at h
    · cases i with
      | zero => simp [slotAt] at h; omega
      | succ i => have := slots_ge P l (n + 1) i r (by simpa [slotAt] using h); omega
    · cases i with
      | zero => simp [slotAt] at h
      | succ i => exact slots_ge P l n i r (by simpa [slotAt] using h)
theorem regW_fr {X : CallT} (hX : XFrame X) (hm : XMono X X) {ops : Array Oper} {d : Bool} {e : Env} {Q : Env → AH → Prop} (hd : h[s]? = some .dead) (hk : regW P X ops d e h Q) : regW P X ops d e (h.set s ob) (frQ s ob Q) := by
  unfold regW at hk ⊢
  cases d with
  | false => exact ordW_fr hX hm _ hd (by simp) hk
  | true =>
    simp only at hk ⊢
    cases hdr : drawOK P ops with
    | true =>
      rw [hdr] at hk
      simp only at hk ⊢
      obtain ⟨e1, e2⟩ := reserve_fr (ob := ob) (countAl P ops.toList) hd
      rw [e1, List.length_set]
      have hlt := (List.getElem?_eq_some_iff.1 hd).1
      exact textD_fr hX hm _ e2 (fun i hi => by have := slots_ge P _ _ _ _ hi; omega) (fun y hy => by cases hy) hk
    | false => rw [hdr] at hk; exact hk.elim
def frE (s : Nat) (ob : AObj) (Q : Exit → Env → AH → Prop) : Exit → Env → AH → Prop := fun x e h'' => ∃ h', h'' = h'.set s ob ∧ h'[s]? = some .dead ∧ Q x e h'
theorem cwp_fr {X : CallT} (hX : XFrame X) (hm : XMono X X) : ∀ (c : Code) {Q : Exit → Env → AH → Prop} {e : Env} {h : AH}, h[s]? = some .dead → cwp P X c Q e h → cwp P X c (frE s ob Q) e (h.set s ob)
  | .skip, _, e, h, hd, hk => ⟨h, rfl, hd, hk⟩
  | .region _ ops d, Q, e, h, hd, hk => regW_mono hm (fun e h hq => hq) (regW_fr (ob := ob) hX hm hd hk)
  | .seq a b, Q, e, h, hd, hk => cwp_mono hm a (fun x e h'' hq => by
      obtain ⟨h', rfl, hd', hq'⟩ := hq
      cases x with
      | normal => exact cwp_fr hX hm b hd' hq'
      | _ => exact ⟨h', rfl, hd', hq'⟩) (cwp_fr hX hm a hd hk)
  | .cond c a b, Q, e, h, hd, hk => by
    simp only [cwp] at hk ⊢
    unfold condW at hk ⊢
    split at hk
    · exact cwp_fr hX hm a hd hk
    · exact cwp_fr hX hm b hd hk
    · exact hk.elim
  | .block id c, Q, e, h, hd, hk => cwp_mono hm c (fun x e h'' hq => by
      obtain ⟨h', rfl, hd', hq'⟩ := hq
      cases x with
      | exit id' =>
        simp only [blockW] at hq' ⊢
        cases hb : Nat.beq id' id <;> rw [hb] at hq' <;> exact ⟨h', rfl, hd', hq'⟩
      | _ => exact ⟨h', rfl, hd', hq'⟩) (cwp_fr hX hm c hd hk)
  | .loop c, Q, e, h, hd, hk => by
    intro I hI
    refine hk (fun e h => h[s]? = some .dead → I e (h.set s ob)) ?_ hd
    intro e h hB hd
    refine hI e _ (cwp_mono hm c (fun x e h'' hq => ?_) (cwp_fr hX hm c hd hB))
    obtain ⟨h', rfl, hd', hq'⟩ := hq
    cases x with
    | normal => exact hq' hd'
    | _ => exact ⟨h', rfl, hd', hq'⟩
  | .exit _, _, e, h, hd, hk => ⟨h, rfl, hd, hk⟩
  | .ret, _, e, h, hd, hk => ⟨h, rfl, hd, hk⟩
  | .rangeFunc .., _, _, _, _, hk => hk.elim
  | .scope _, _, _, _, _, hk => hk.elim
  | .label _, _, _, _, _, hk => hk.elim
  | .goto _, _, _, _, _, hk => hk.elim
  | .refuse _, _, _, _, _, hk => hk.elim
theorem resList_fr {e : Env} (hd : h[s]? = some .dead) : ∀ (rs : List ResultVar) {vs : List Value}, resList P e h rs = some vs → resList P e (h.set s ob) rs = some vs
  | [], vs, hr => hr
  | r :: rs, vs, hr => by
    simp only [resList] at hr ⊢
    cases h1 : resCell P e h r with
    | none => rw [h1] at hr; cases hr
    | some v =>
      have : resCell P e (h.set s ob) r = some v := by
        cases r with
        | tmp t => exact h1
        | cell a t => exact pLoad_fr hd h1
      rw [h1] at hr
      rw [this]
      simp only at hr ⊢
      cases h2 : resList P e h rs with
      | none => rw [h2] at hr; cases hr
      | some us => rw [h2] at hr; rw [resList_fr hd rs h2]; exact hr
theorem stepF_fr {X : CallT} (hX : XFrame X) (hm : XMono X X) : XFrame (stepF P X) := by
  intro f args h K s ob hd hk
  unfold stepF at hk ⊢
  split at hk
  · split at hk
    · rename_i fn hfn _ _ c hb _
      refine cwp_mono hm c (fun x e h'' hq => ?_) (cwp_fr (ob := ob) hX hm c hd hk)
      obtain ⟨h', rfl, hd', hq'⟩ := hq
      have key : resW P fn e h' K → resW P fn e (h'.set s ob) (frK s ob K) := by
        intro hr
        obtain ⟨vs, hv, hk⟩ := optW_elim hr
        unfold resW
        rw [resList_fr hd' _ hv]
        exact frK_here hd' hk
      cases x with
      | normal => exact key hq'
      | ret => exact key hq'
      | _ => exact hq'.elim
    · exact hk.elim
  · exact hk.elim
theorem stepW_fr {X : CallT} (hX : XFrame X) (hm : XMono X X) : XFrame (stepW P X) := by
  intro f args h K s ob hd hk
  rcases hk with (⟨h1, v, sep, xs, h2, h3, h4, h5, h6⟩ | ⟨R, h1, h2⟩) | hk
  · exact .inl (.inl ⟨h1, v, sep, xs, h2, strsL_set hd h3, h4, h5, frK_here hd h6⟩)
  · exact .inl (.inr ⟨R, h1, fun v hv => frK_here hd (h2 v hv)⟩)
  · exact .inr (stepF_fr hX hm f args h K s ob hd hk)
def fills : List (Nat × AObj) → AH → AH
  | [], h => h
  | (s, o) :: L, h => fills L (h.set s o)
def deads : List (Nat × AObj) → AH → Prop
  | [], _ => True
  | (s, o) :: L, h => h[s]? = some .dead ∧ deads L (h.set s o)
def frL : List (Nat × AObj) → (Value → AH → Prop) → Value → AH → Prop
  | [], K => K
  | (s, o) :: L, K => frL L (frK s o K)
theorem frL_mono {K K' : Value → AH → Prop} (hm : ∀ v h, K v h → K' v h) : ∀ (L : List (Nat × AObj)) (v : Value) (h : AH), frL L K v h → frL L K' v h
  | [], v, h, hk => hm v h hk
  | (s, o) :: L, v, h, hk => frL_mono (fun v h hh => by obtain ⟨h', e1, e2, e3⟩ := hh; exact ⟨h', e1, e2, hm _ _ e3⟩) L v h hk
def Closed (T : CallT) : CallT := fun f args h K => ∀ L, deads L h → T f args (fills L h) (frL L K)
theorem closed_frame (T : CallT) : XFrame (Closed T) := by
  intro f args h K s ob hd hk L hL
  exact hk ((s, ob) :: L) ⟨hd, hL⟩
theorem closed_mono {T : CallT} (hT : XMono T T) : XMono (Closed T) (Closed T) := by
  intro f args h K K' hm hk L hL
  exact hT _ _ _ _ _ (frL_mono hm L) (hk L hL)
theorem stepW_fills {X : CallT} (hX : XFrame X) (hm : XMono X X) : ∀ (L : List (Nat × AObj)) {f : FuncId} {args : List Value} {h : AH} {K : Value → AH → Prop}, deads L h → stepW P X f args h K → stepW P X f args (fills L h) (frL L K)
  | [], _, _, _, _, _, hk => hk
  | (s, o) :: L, f, args, h, K, ⟨hd, hL⟩, hk => stepW_fills hX hm L hL (stepW_fr hX hm f args h K s o hd hk)
theorem callW_frame : XFrame (callW P) := by
  intro f args h K s ob hd hk
  have := hk (Closed (callW P)) fun f args h K hs L hL => callW_step (stepW_mono (X := Closed (callW P)) (Y := callW P) (fun f args h K K' hm hx => callW_mono _ _ _ _ _ hm (hx [] trivial)) _ _ _ _ _ (fun _ _ h => h) (stepW_fills (closed_frame _) (closed_mono callW_mono) L hL hs))
  exact this [(s, ob)] ⟨hd, trivial⟩
end Go.AM
end

section
/- The abstract machine: what operations of each kind hang on. Conditions: none. -/
namespace Go.AM
open Go
set_option linter.unusedSimpArgs false
set_option linter.unusedVariables false
variable {P : Program}
def Same (o : Oper) (e e' : Env) : Prop := ∀ x ∈ o.op.operands.toList, ev e x = ev e' x
theorem evParts_same {e e' : Env} {ps : List (Nat × Operand)} (h : ∀ p ∈ ps, ev e p.2 = ev e' p.2) : evParts e ps = evParts e' ps := by
  unfold evParts
  exact List.map_congr_left fun p hp => by rw [h p hp]
theorem map_same {e e' : Env} {xs : Array Operand} (h : ∀ x ∈ xs.toList, ev e x = ev e' x) : xs.map (ev e) = xs.map (ev e') := by
  apply Array.ext'
  rw [Array.toList_map, Array.toList_map]
  exact List.map_congr_left h
theorem opt_same {e e' : Env} {x : Option Operand} (h : ∀ y, x = some y → ev e y = ev e' y) : x.map (ev e) = x.map (ev e') := by
  cases x with
  | none => rfl
  | some y => simp [h y rfl]
theorem opW_same {X : CallT} {slot : Option Nat} {o : Oper} {e e' : Env} {h : AH} {K : Value → AH → Prop} (hs : Same o e e') (hk : opW P X slot o e h K) : opW P X slot o e' h K := by
  obtain ⟨dst, op, ty, pos, after, guard⟩ := o
  unfold Same at hs
  unfold opW at hk ⊢
  cases op with
  | build t ps =>
    have := evParts_same (e := e) (e' := e') (ps := ps.toList) fun p hp => hs p.2 (by simp [Op.operands]; exact ⟨p.1, by simpa using hp⟩)
    simpa only [this] using hk
  | buildSlice t n ps =>
    have := evParts_same (e := e) (e' := e') (ps := ps.toList) fun p hp => hs p.2 (by simp [Op.operands]; exact ⟨p.1, by simpa using hp⟩)
    simpa only [this] using hk
  | makeFunc fn a b =>
    have h1 := map_same (e := e) (e' := e') (xs := a) fun x hx => hs x (by simp [Op.operands]; left; simpa using hx)
    have h2 := map_same (e := e) (e' := e') (xs := b) fun x hx => hs x (by simp [Op.operands]; right; simpa using hx)
    simpa only [h1, h2] using hk
  | slice t x lo hi mx =>
    have h0 := hs x (by simp [Op.operands])
    have h1 := opt_same (e := e) (e' := e') (x := lo) fun y hy => hs y (by simp [Op.operands, hy])
    have h2 := opt_same (e := e) (e' := e') (x := hi) fun y hy => hs y (by simp [Op.operands, hy])
    have h3 := opt_same (e := e) (e' := e') (x := mx) fun y hy => hs y (by simp [Op.operands, hy])
    simpa only [h0, h1, h2, h3] using hk
  | call c =>
    obtain ⟨callee, args, argTypes⟩ := c
    have hargs : ∀ x ∈ args.toList, ev e x = ev e' x := fun x hx => hs x (by cases callee <;> simp [Op.operands, Call.operands] <;> first | (right; simpa using hx) | simpa using hx)
    simp only [callOpW] at hk ⊢
    cases callee with
    | invoke r m => exact hk.elim
    | builtin b =>
      simp only at hk ⊢
      split at hk
      · rename_i x t ts ha ht
        rw [ha] at hargs
        rw [← hargs x (by simp)]; exact hk
      · rename_i x y t u ha ht
        rw [ha] at hargs
        rw [← hargs x (by simp), ← hargs y (by simp)]; exact hk
      · rename_i _ x y ha
        rw [ha] at hargs
        rw [← hargs x (by simp), ← hargs y (by simp)]; exact hk
      · rename_i _ x y ha
        rw [ha] at hargs
        rw [← hargs x (by simp), ← hargs y (by simp)]; exact hk
      · rename_i x t ts ha ht
        rw [ha] at hargs
        rw [← hargs x (by simp)]; exact hk
      · exact hk.elim
    | value f =>
      have h0 := hs f (by simp [Op.operands, Call.operands])
      have h1 : args.toList.map (ev e) = args.toList.map (ev e') := List.map_congr_left hargs
      simpa only [h0, h1] using hk
  | makeMap t r => cases r <;> exact hk
  | move x => simpa only [hs x (by simp [Op.operands])] using hk
  | assign x => simpa only [hs x (by simp [Op.operands])] using hk
  | pick c x y => simpa only [hs c (by simp [Op.operands]), hs x (by simp [Op.operands]), hs y (by simp [Op.operands])] using hk
  | box t x => simpa only [hs x (by simp [Op.operands])] using hk
  | load t x => simpa only [hs x (by simp [Op.operands])] using hk
  | store t x y => simpa only [hs x (by simp [Op.operands]), hs y (by simp [Op.operands])] using hk
  | nilCheck x => simpa only [hs x (by simp [Op.operands])] using hk
  | binOp op t x y yt => simpa only [hs x (by simp [Op.operands]), hs y (by simp [Op.operands])] using hk
  | unOp op t x => simpa only [hs x (by simp [Op.operands])] using hk
  | convert s d x => simpa only [hs x (by simp [Op.operands])] using hk
  | makeSlice t l c => simpa only [hs l (by simp [Op.operands]), hs c (by simp [Op.operands])] using hk
  | fieldAddr s x f => simpa only [hs x (by simp [Op.operands])] using hk
  | field t x f => simpa only [hs x (by simp [Op.operands])] using hk
  | indexAddr t x i => simpa only [hs x (by simp [Op.operands]), hs i (by simp [Op.operands])] using hk
  | index t x i => simpa only [hs x (by simp [Op.operands]), hs i (by simp [Op.operands])] using hk
  | lookup t x i ok => simpa only [hs x (by simp [Op.operands]), hs i (by simp [Op.operands])] using hk
  | mapUpdate t m k v => simpa only [hs m (by simp [Op.operands]), hs k (by simp [Op.operands]), hs v (by simp [Op.operands])] using hk
  | range t x => simpa only [hs x (by simp [Op.operands])] using hk
  | next it s => simpa only [hs it (by simp [Op.operands])] using hk
  | entry it => simpa only [hs it (by simp [Op.operands])] using hk
  | extract t i => simpa only [hs t (by simp [Op.operands])] using hk
  | _ => exact hk
theorem touch_same {o : Oper} {e e' : Env} (hs : Same o e e') : touch P o e = touch P o e' := by
  obtain ⟨dst, op, ty, pos, after, guard⟩ := o
  unfold Same at hs
  unfold touch
  cases op with
  | load t x => simp only [hs x (by simp [Op.operands])]
  | lookup t x i ok => simp only [hs x (by simp [Op.operands])]
  | convert s d x => simp only [hs x (by simp [Op.operands])]
  | store t x y => simp only [hs x (by simp [Op.operands])]
  | mapUpdate t m k v => simp only [hs m (by simp [Op.operands])]
  | call c =>
    obtain ⟨callee, args, argTypes⟩ := c
    have hargs : ∀ x ∈ args.toList, ev e x = ev e' x := fun x hx => hs x (by cases callee <;> simp [Op.operands, Call.operands] <;> first | (right; simpa using hx) | simpa using hx)
    simp only
    split
    · rename_i x ha; rw [ha] at hargs; rw [hargs x (by simp)]
    · rename_i x y ha; rw [ha] at hargs; rw [hargs x (by simp), hargs y (by simp)]
    · rfl
  | _ => rfl
theorem pure_spec {o : Oper} (hc : clOf P o = .pure) (e : Env) : ∃ ov : Option Value, ∀ X slot h K, opW P X slot o e h K ↔ optW ov (fun v => K v h) := by
  obtain ⟨dst, op, ty, pos, after, guard⟩ := o
  unfold clOf at hc
  unfold opW
  cases op with
  | move x => exact ⟨some (ev e x), fun _ _ _ _ => Iff.rfl⟩
  | assign x => exact ⟨some (ev e x), fun _ _ _ _ => Iff.rfl⟩
  | makeFunc fn a b => exact ⟨some _, fun _ _ _ _ => Iff.rfl⟩
  | convert s d x =>
    simp only at hc
    refine ⟨pConv P s d (ev e x), fun X slot h K => ?_⟩
    simp only [convW]
    split at hc
    · cases hc
    · cases hc
    · cases hc
    · exact Iff.rfl
  | call c =>
    obtain ⟨callee, args, argTypes⟩ := c
    cases callee with
    | invoke r m => simp at hc
    | value f => simp at hc
    | builtin b =>
      simp only [callOpW] at hc ⊢
      have two : ∀ (mx : Bool), ∃ ov : Option Value, ∀ (h : AH) (K : Value → AH → Prop), (match args.toList with
          | [x, y] => optW (pMax2 mx (ev e x) (ev e y)) fun v => K v h
          | _ => False) ↔ optW ov fun v => K v h := by
        intro mx
        cases ha : args.toList with
        | nil => exact ⟨none, fun h K => by simp⟩
        | cons x r =>
          cases r with
          | nil => exact ⟨none, fun h K => by simp⟩
          | cons y r =>
            cases r with
            | nil => exact ⟨_, fun h K => Iff.rfl⟩
            | cons z r => exact ⟨none, fun h K => by simp⟩
      cases b with
      | len =>
        simp only at hc
        split at hc
        · rename_i t ts ht
          split at hc
          · cases hc
          · rename_i hnm
            cases ha : args.toList with
            | nil => exact ⟨none, fun X slot h K => by simp [ht]⟩
            | cons x r =>
              cases r with
              | nil =>
                refine ⟨pLen P t (ev e x), fun X slot h K => ?_⟩
                have hl : lenW P t (ev e x) h = pLen P t (ev e x) := by
                  unfold lenW
                  split
                  · rename_i h1; exact (hnm _ _ h1).elim
                  · rfl
                simp only [ht, hl]
              | cons y r => exact ⟨none, fun X slot h K => by simp [ht]⟩
        · cases hc
      | max =>
        obtain ⟨ov, hov⟩ := two true
        refine ⟨ov, fun X slot h K => ?_⟩
        rw [← hov h K]
        cases args.toList with
        | nil => simp
        | cons x r =>
          cases r with
          | nil => simp
          | cons y r => cases r <;> simp
      | min =>
        obtain ⟨ov, hov⟩ := two false
        refine ⟨ov, fun X slot h K => ?_⟩
        rw [← hov h K]
        cases args.toList with
        | nil => simp
        | cons x r =>
          cases r with
          | nil => simp
          | cons y r => cases r <;> simp
      | _ => cases hc
  | pick c x y => exact ⟨_, fun _ _ _ _ => Iff.rfl⟩
  | build t ps => exact ⟨_, fun _ _ _ _ => Iff.rfl⟩
  | nilCheck x => exact ⟨_, fun _ _ _ _ => Iff.rfl⟩
  | binOp op t x y yt => exact ⟨_, fun _ _ _ _ => Iff.rfl⟩
  | unOp op t x => exact ⟨_, fun _ _ _ _ => Iff.rfl⟩
  | slice t x lo hi mx => exact ⟨_, fun _ _ _ _ => Iff.rfl⟩
  | fieldAddr s x f => exact ⟨_, fun _ _ _ _ => Iff.rfl⟩
  | field t x f => exact ⟨_, fun _ _ _ _ => Iff.rfl⟩
  | indexAddr t x i => exact ⟨_, fun _ _ _ _ => Iff.rfl⟩
  | index t x i => exact ⟨_, fun _ _ _ _ => Iff.rfl⟩
  | extract t i => exact ⟨_, fun _ _ _ _ => Iff.rfl⟩
  | _ => first | cases hc | (dsimp only at hc; split at hc <;> cases hc)
theorem part_take {ag : Bool} {n off : Nat} (hn : ag = true ∨ n = 1) {c : List Value} : partV ag n c off = partV ag n ((c.drop off).take n) 0 := by
  cases ag with
  | true =>
    show some (Value.agg _) = some (Value.agg _)
    rw [List.drop_zero, List.take_take, Nat.min_self]
  | false =>
    have : n = 1 := by simpa using hn
    subst this
    simp [partV, List.getElem?_take]
def rdO (ag : Bool) (n off : Nat) (o : Option AObj) : Option Value :=
  match o with
  | some (.row c _) => if off + n ≤ c.length then partV ag n c off else none
  | _ => none
def rdP (ag : Bool) (n : Nat) (o : Option AObj) : Option Value :=
  match o with
  | some (.row c _) => partV ag n c 0
  | _ => none
theorem rd_vw {ag : Bool} {n id off : Nat} (hn : ag = true ∨ n = 1) (o : Option AObj) : rdO ag n off o = rdP ag n (vwO (.cells id off n) o) := by
  cases o with
  | none => rfl
  | some o =>
    cases o with
    | row c w =>
      show (if off + n ≤ c.length then partV ag n c off else none) = rdP ag n (if off + n ≤ c.length then some (AObj.row ((c.drop off).take n) true) else none)
      by_cases h : off + n ≤ c.length
      · rw [if_pos h, if_pos h]
        exact part_take hn
      · rw [if_neg h, if_neg h]
        rfl
    | _ => rfl
theorem idOf_load {ag : Bool} {n : Nat} {x : Value} {h h' : AH} (hn : ag = true ∨ n = 1) (hx : ∀ i ∈ ceOf n x, vw i h = vw i h') : rdRow ag n x h = rdRow ag n x h' := by
  unfold rdRow
  split
  · rename_i id off
    have := hx (.cells id off n) (by simp [ceOf])
    have e : vwO (.cells id off n) h[id]? = vwO (.cells id off n) h'[id]? := this
    show rdO ag n off h[id]? = rdO ag n off h'[id]?
    rw [rd_vw (id := id) hn, rd_vw (id := id) hn, e]
  · rfl
theorem idOf_ents {x : Value} {h h' : AH} (hx : ∀ i ∈ obOf x, vw i h = vw i h') : entsOf x h = entsOf x h' := by
  unfold entsOf
  split
  · rfl
  · rename_i id
    rw [show h[id]? = h'[id]? from hx (.obj id) (by simp [obOf, idOf])]
  · rfl
theorem idOf_bytes {x : Value} {h h' : AH} (hx : ∀ i ∈ obOf x, vw i h = vw i h') : pBytesStr x h = pBytesStr x h' := by
  unfold pBytesStr
  split
  · rfl
  · rename_i id off len cap
    rw [show h[id]? = h'[id]? from hx (.obj id) (by simp [obOf, idOf])]
  · rfl
def Live (h : AH) (i : Nat) : Prop := ∃ q, h[i]? = some q ∧ q ≠ .dead
theorem live_load {ag : Bool} {n : Nat} {x v : Value} {h : AH} (hr : rdRow ag n x h = some v) : ∀ i ∈ ceOf n x, Live h i.id := by
  unfold rdRow at hr
  split at hr
  · split at hr
    · rename_i hrow
      intro i hi
      simp [ceOf] at hi
      subst hi
      exact ⟨_, hrow, by simp⟩
    · cases hr
  · cases hr
theorem live_ents {x : Value} {es : List Ent} {h : AH} (hr : entsOf x h = some es) : ∀ i ∈ obOf x, Live h i.id := by
  unfold entsOf at hr
  split at hr
  · intro i hi; simp [obOf, idOf] at hi
  · split at hr
    · rename_i hrow
      intro i hi
      simp [obOf, idOf] at hi
      subst hi
      exact ⟨_, hrow, by simp⟩
    · cases hr
  · cases hr
theorem live_bytes {x v : Value} {h : AH} (hr : pBytesStr x h = some v) : ∀ i ∈ obOf x, Live h i.id := by
  unfold pBytesStr at hr
  split at hr
  · intro i hi; simp [obOf, idOf] at hi
  · split at hr
    · rename_i hrow
      intro i hi
      simp [obOf, idOf] at hi
      subst hi
      exact ⟨_, hrow, by simp⟩
    · cases hr
  · cases hr
structure RdSpec (P : Program) (o : Oper) (e : Env) (ov : AH → Option Value) : Prop where
  iff : ∀ X slot h K, opW P X slot o e h K ↔ optW (ov h) (fun v => K v h)
  loc : ∀ h h', (∀ x ∈ touch P o e, vw x h = vw x h') → ov h = ov h'
  live : ∀ h v, ov h = some v → ∀ x ∈ touch P o e, Live h x.id
theorem rd_spec {o : Oper} (hc : clOf P o = .rd) (e : Env) : ∃ ov, RdSpec P o e ov := by
  obtain ⟨dst, op, ty, pos, after, guard⟩ := o
  unfold clOf at hc
  cases op with
  | load t x =>
    refine ⟨fun h => pLoad P t (ev e x) h, fun _ _ _ _ => Iff.rfl, fun h h' hx => ?_, fun h v hv => ?_⟩
    · simp only [touch] at hx
      unfold pLoad
      cases hi : P.info? t with
      | none => rfl
      | some i =>
        rw [hi] at hx
        dsimp only at hx ⊢
        cases ha : isAggT P t with
        | none => rfl
        | some b =>
          cases b with
          | true => exact idOf_load (.inl rfl) hx
          | false =>
            dsimp only
            by_cases h1 : i.size = 1
            · rw [if_pos h1, if_pos h1]
              rw [h1] at hx
              exact idOf_load (.inr rfl) hx
            · rw [if_neg h1, if_neg h1]
    · simp only [touch]
      unfold pLoad at hv
      cases hi : P.info? t with
      | none => rw [hi] at hv; cases hv
      | some i =>
        rw [hi] at hv
        dsimp only at hv ⊢
        cases ha : isAggT P t with
        | none => rw [ha] at hv; cases hv
        | some b =>
          rw [ha] at hv
          cases b with
          | true => exact live_load hv
          | false =>
            dsimp only at hv
            by_cases h1 : i.size = 1
            · rw [if_pos h1] at hv
              rw [h1]
              exact live_load hv
            · rw [if_neg h1] at hv; cases hv
  | lookup t x i ok =>
    have hk : ptrKeyT P t = false := by
      dsimp only at hc
      cases hk : ptrKeyT P t with
      | true => rw [hk] at hc; cases hc
      | false => rfl
    refine ⟨fun h => pLookup P t (ev e x) (ev e i) ok h, fun X slot h K => by simp only [opW, pLook, hk], fun h h' hx => ?_, fun h v hv => ?_⟩
    · simp only [touch] at hx
      unfold pLookup
      rw [idOf_ents hx]
    · simp only [touch]
      unfold pLookup at hv
      split at hv
      · split at hv
        · rename_i he
          exact live_ents he
        · cases hv
      · cases hv
  | convert s d x =>
    simp only at hc
    split at hc
    · cases hc
    · rename_i el h1 h2
      cases h3 : P.underlying el with
      | none => exact ⟨fun _ => none, fun X slot h K => by simp [opW, convW, h1, h2, h3], fun _ _ _ => rfl, fun _ _ h => by cases h⟩
      | some d3 =>
        by_cases h4 : d3 = .int .u8
        · subst h4
          refine ⟨fun h => pBytesStr (ev e x) h, fun X slot h K => by simp [opW, convW, h1, h2, h3], fun h h' hx => idOf_bytes hx, fun h v hv => live_bytes hv⟩
        · refine ⟨fun _ => none, fun X slot h K => ?_, fun _ _ _ => rfl, fun _ _ h => by cases h⟩
          simp only [opW, convW, h1, h2, h3, optW_none, iff_false]
          split
          · rename_i h5; exact fun _ => h4 (Option.some.inj h5)
          · simp
    · cases hc
    · cases hc
  | call c =>
    obtain ⟨callee, args, argTypes⟩ := c
    cases callee with
    | invoke r m => simp at hc
    | value f => simp at hc
    | builtin b =>
      cases b with
      | len =>
        simp only at hc
        split at hc
        · rename_i t ts ht
          split at hc
          · rename_i kt et hm
            cases ha : args.toList with
            | nil => exact ⟨fun _ => none, fun X slot h K => by simp [opW, callOpW, ht, ha], fun _ _ _ => rfl, fun _ _ h => by cases h⟩
            | cons x r =>
              cases r with
              | nil =>
                refine ⟨fun h => pLenMap (ev e x) h, fun X slot h K => by simp [opW, callOpW, ht, ha, lenW, hm], fun h h' hx => ?_, fun h v hv => ?_⟩
                · simp only [touch, ha] at hx
                  unfold pLenMap
                  rw [idOf_ents hx]
                · simp only [touch, ha]
                  unfold pLenMap at hv
                  cases he : entsOf (ev e x) h with
                  | none => rw [he] at hv; cases hv
                  | some es => exact live_ents he
              | cons y r => exact ⟨fun _ => none, fun X slot h K => by simp [opW, callOpW, ht, ha], fun _ _ _ => rfl, fun _ _ h => by cases h⟩
          · cases hc
        · cases hc
      | _ => cases hc
  | _ => first | cases hc | (dsimp only at hc; split at hc <;> cases hc)
structure AlSpec (P : Program) (o : Oper) (e : Env) (oo : Option AObj) (pt : Nat → Value) : Prop where
  iff : ∀ X s h K, opW P X (some s) o e h K ↔ optW oo (fun ob => K (pt s) (h.set s ob))
  live : ∀ ob, oo = some ob → ob ≠ .dead
theorem al_spec {o : Oper} (hc : clOf P o = .al) (e : Env) : ∃ oo pt, AlSpec P o e oo pt := by
  obtain ⟨dst, op, ty, pos, after, guard⟩ := o
  unfold clOf at hc
  cases op with
  | alloc t =>
    refine ⟨(zeroL P t).map fun c => .row c true, fun s => .pointer (some ⟨s, 0, none⟩), fun X s h K => ?_, fun ob hob => ?_⟩
    · simp only [opW, aAlloc, newW]
      cases zeroL P t <;> simp
    · cases h : zeroL P t <;> rw [h] at hob <;> simp at hob
      subst hob; simp
  | box t x =>
    refine ⟨if (cellsL (ev e x)).all (·.oneCell') = true then some (.row (cellsL (ev e x)) true) else none, fun s => .pointer (some ⟨s, 0, none⟩), fun X s h K => ?_, fun ob hob => ?_⟩
    · simp only [opW, aBox, newW]
      split <;> rename_i hh <;> simp [hh]
    · split at hob <;> simp at hob
      subst hob; simp
  | buildSlice t n ps =>
    refine ⟨(pBuildSlice P t n (evParts e ps.toList)).map fun c => .row c true, fun s => .slice (some ⟨s, 0, none⟩) n n, fun X s h K => ?_, fun ob hob => ?_⟩
    · simp only [opW, aBuildSlice, newW]
      cases pBuildSlice P t n (evParts e ps.toList) <;> simp
    · cases h : pBuildSlice P t n (evParts e ps.toList) <;> rw [h] at hob <;> simp at hob
      subst hob; simp
  | makeMap t r =>
    cases r with
    | none => exact ⟨some (.map [] 0), fun s => .map (some s), fun X s h K => by simp [opW, aMakeMap, newW], fun ob hob => by cases hob; simp⟩
    | some r => exact ⟨none, fun _ => undef, fun X s h K => by simp [opW], fun ob hob => by cases hob⟩
  | makeSlice t l c =>
    refine ⟨(pMakeSlice P t (ev e l) (ev e c)).map fun r => .row r.2.2 true, fun s => match pMakeSlice P t (ev e l) (ev e c) with | some r => .slice (some ⟨s, 0, none⟩) r.1 r.2.1 | none => undef, fun X s h K => ?_, fun ob hob => ?_⟩
    · simp only [opW, aMakeSlice, newW]
      cases pMakeSlice P t (ev e l) (ev e c) <;> simp
    · cases h : pMakeSlice P t (ev e l) (ev e c) <;> rw [h] at hob <;> simp at hob
      subst hob; simp
  | convert s d x =>
    simp only at hc
    split at hc
    · rename_i el h1 h2
      by_cases h3 : ∃ b, P.underlying el = some (.int .u8) ∧ ev e x = .string b
      · obtain ⟨b, h3, h4⟩ := h3
        refine ⟨if b.size < room40 then some (.row (bytesL b) false) else none, fun s => .slice (some ⟨s, 0, none⟩) b.size (openCap + 1), fun X s h K => ?_, fun ob hob => ?_⟩
        · simp only [opW, convW, h1, h2, h3, h4, aStrBytes, newW]
          split <;> rename_i hh <;> simp [hh]
        · split at hob <;> simp at hob
          subst hob; simp
      · refine ⟨none, fun _ => undef, fun X s h K => ?_, fun ob hob => by cases hob⟩
        simp only [opW, convW, h1, h2, optW_none, iff_false]
        split
        · rename_i b h4 h5; exact fun _ => h3 ⟨b, h4, h5⟩
        · simp
    · cases hc
    · cases hc
    · cases hc
  | call c =>
    obtain ⟨callee, args, argTypes⟩ := c
    simp only at hc
    split at hc
    · split at hc
      · split at hc <;> cases hc
      · cases hc
    all_goals cases hc
  | _ => first | cases hc | (dsimp only at hc; split at hc <;> cases hc)
end Go.AM
end

section
/- The abstract machine: two neighbours of a region that are held to no order may change places. Conditions: none. -/
namespace Go.AM
open Go
set_option linter.unusedSimpArgs false
set_option linter.unusedVariables false
variable {P : Program}
theorem set_undo {h h' : AH} {s id : Nat} {ob q : AObj} (hd : h[s]? = some .dead) (hne : s ≠ id) : (h.set s ob).set id q = (h.set id q).set s ob ∧ (h.set id q)[s]? = some .dead :=
  ⟨List.set_comm _ _ hne, by rw [getElem?_set_other (Ne.symm hne), hd]⟩
theorem ne_of_touch {h : AH} {s x : Nat} {ob : AObj} (hd : h[s]? = some .dead) (ho : ob ≠ .dead) (hx : h[x]? = (h.set s ob)[x]?) : s ≠ x := by
  intro e
  subst e
  have hlt := (List.getElem?_eq_some_iff.1 hd).1
  rw [getElem?_set_same hlt, hd] at hx
  exact ho (Option.some.inj hx).symm
structure EffSpec (P : Program) (o : Oper) (e : Env) (so : AH → Option AH) : Prop where
  iff : ∀ X slot h K, opW P X slot o e h K ↔ optW (so h) (fun h' => K undef h')
  unfr : ∀ h s ob h'', h[s]? = some .dead → ob ≠ .dead → (∀ x ∈ touch P o e, vw x h = vw x (h.set s ob)) → so (h.set s ob) = some h'' → ∃ h', so h = some h' ∧ h'' = h'.set s ob ∧ h'[s]? = some .dead
theorem eff_spec {o : Oper} (hc : clOf P o = .eff) (e : Env) : ∃ so, EffSpec P o e so := by
  obtain ⟨dst, op, ty, pos, after, guard⟩ := o
  unfold clOf at hc
  cases op with
  | store t x v =>
    refine ⟨fun h => stOf P t (ev e x) (ev e v) h, fun _ _ _ _ => Iff.rfl, ?_⟩
    intro h s ob h'' hd ho ht hst
    simp only [touch] at ht
    try simp only at hst
    unfold stOf pStore at hst ⊢
    split at hst
    · rename_i i hi
      split at hst
      · rename_i hcond
        try simp only [hi, hcond]
        unfold stRow at hst ⊢
        split at hst
        · rename_i id off hx
          try simp only [hx]
          have hne := ne_of_touch hd ho (show h[id]? = (h.set s ob)[id]? from ht (.obj id) (by simp [obOf, idOf, hx]))
          rw [getElem?_set_other hne] at hst
          split at hst
          · rename_i c hrow
            split at hst
            · rename_i hle
              obtain rfl := Option.some.inj hst
              obtain ⟨e1, e2⟩ := set_undo (h' := h) (ob := ob) (q := .row (spliceL c off (cellsL (ev e v))) true) hd hne
              exact ⟨_, by simp [hrow, hle], e1, e2⟩
            · cases hst
          · cases hst
        · cases hst
      · cases hst
    · cases hst
  | mapUpdate t m k v =>
    have hk : ptrKeyT P t = false := by
      dsimp only at hc
      cases hk : ptrKeyT P t with
      | true => rw [hk] at hc; cases hc
      | false => rfl
    refine ⟨fun h => pMapUpd P t (ev e m) (ev e k) (ev e v) h, fun X slot h K => by simp only [opW, pMapU, hk], ?_⟩
    intro h s ob h'' hd ho ht hst
    simp only [touch] at ht
    try simp only at hst
    unfold pMapUpd at hst ⊢
    split at hst
    · rename_i kt et id hu hx
      have hne := ne_of_touch hd ho (show h[id]? = (h.set s ob)[id]? from ht (.obj id) (by simp [obOf, idOf, hx]))
      try simp only [hu, hx]
      rw [getElem?_set_other hne] at hst
      split at hst
      · rename_i es ck hrow
        split at hst
        · rename_i hk
          try simp only [hrow, hk]
          split at hst
          · rename_i i v0 hf
            obtain rfl := Option.some.inj hst
            obtain ⟨e1, e2⟩ := set_undo (h' := h) (ob := ob) (q := .map (es.modify i fun en => (en.1, ev e v, en.2.2)) ck) hd hne
            exact ⟨_, by simp [hf], e1, e2⟩
          · rename_i hf
            obtain rfl := Option.some.inj hst
            obtain ⟨e1, e2⟩ := set_undo (h' := h) (ob := ob) (q := .map (es ++ [(ev e k, ev e v, ck)]) (ck + 1)) hd hne
            exact ⟨_, by simp [hf], e1, e2⟩
          · cases hst
        · cases hst
      · cases hst
    · cases hst
  | convert s d x =>
    simp only at hc
    split at hc <;> cases hc
  | call c =>
    obtain ⟨callee, args, argTypes⟩ := c
    simp only at hc
    split at hc
    · split at hc
      · split at hc <;> cases hc
      · cases hc
    all_goals cases hc
  | _ => first | cases hc | (dsimp only at hc; split at hc <;> cases hc)
def HLe (H H' : HT) : Prop := ∀ y' ∈ H', ∃ y ∈ H, y.1 = y'.1 ∧ ∀ x : Loc, vw x y.2.1 = vw x y.2.2 → vw x y'.2.1 = vw x y'.2.2
def SLe (S S' : ST) : Prop := ∀ y ∈ S', y ∈ S
theorem HLe.refl (H : HT) : HLe H H := fun y hy => ⟨y, hy, rfl, fun _ h => h⟩
theorem HLe.cons {H H' : HT} {y y' : Nat × AH × AH} (h : HLe H H') (h1 : y.1 = y'.1) (h2 : ∀ x : Loc, vw x y.2.1 = vw x y.2.2 → vw x y'.2.1 = vw x y'.2.2) : HLe (y :: H) (y' :: H') := by
  intro z hz
  rcases List.mem_cons.1 hz with rfl | hz
  · exact ⟨y, by simp, h1, h2⟩
  · obtain ⟨w, hw, e1, e2⟩ := h z hz
    exact ⟨w, List.mem_cons_of_mem _ hw, e1, e2⟩
theorem SLe.refl (S : ST) : SLe S S := fun _ h => h
theorem SLe.cons {S S' : ST} {y : Nat × List Loc} (h : SLe S S') : SLe (y :: S) (y :: S') := by
  intro z hz
  rcases List.mem_cons.1 hz with rfl | hz
  · simp
  · exact List.mem_cons_of_mem _ (h z hz)
theorem histC_le {b : Array Nat} {j : Nat} {xs : List Loc} {H H' : HT} {K K' : Prop} (hH : HLe H H') (hK : K → K') (h : histC b j xs H K) : histC b j xs H' K' := by
  rw [histC_iff] at h ⊢
  refine ⟨fun y' hy' hc x hx => ?_, hK h.2⟩
  obtain ⟨y, hy, e1, e2⟩ := hH y' hy'
  exact e2 x (h.1 y hy (by rw [e1]; exact hc) x hx)
theorem readC_le {b : Array Nat} {j : Nat} {hb ha : AH} {S S' : ST} {K K' : Prop} (hS : SLe S S') (hK : K → K') (h : readC b j hb ha S K) : readC b j hb ha S' K' := by
  rw [readC_iff] at h ⊢
  exact ⟨fun y hy => h.1 y (hS y hy), hK h.2⟩
theorem textD_le {X : CallT} (hm : XMono X X) {ops : Array Oper} {b : Array Nat} {sl : List (Option Nat)} {Q : Env → AH → Prop} : ∀ (l : List Nat) {H H' : HT} {S S' : ST} {e : Env} {h : AH}, HLe H H' → SLe S S' → textD P X ops b sl l H S e h Q → textD P X ops b sl l H' S' e h Q
  | [], _, _, _, _, e, h, _, _, hk => hk
  | i :: l, H, H', S, S', e, h, hH, hS, hk => by
    simp only [textD] at hk ⊢
    cases ho : ops[i]? with
    | none => rw [ho] at hk; exact hk.elim
    | some o =>
      rw [ho] at hk
      simp only at hk ⊢
      cases hg : gval ops o e with
      | false => rw [hg] at hk; simp only [gopD] at hk ⊢; exact textD_le hm l hH hS hk
      | true =>
        rw [hg] at hk
        simp only [gopD] at hk ⊢
        unfold opD at hk ⊢
        split at hk
        · exact opW_mono hm (fun v h' => textD_le hm l hH hS) hk
        · exact histC_le hH (opW_mono hm fun v h' => textD_le hm l hH hS.cons) hk
        · exact opW_mono hm (fun v h' => textD_le hm l (hH.cons rfl fun _ h => h) hS) hk
        · exact histC_le hH (opW_mono hm fun v h' => readC_le hS (textD_le hm l (hH.cons rfl fun _ h => h) hS)) hk
        · exact opW_mono hm (fun v h' => readC_le hS (textD_le hm l (hH.cons rfl fun _ h => h) hS)) hk
        · exact hk.elim
theorem opD_same {X : CallT} {b : Array Nat} {sl : List (Option Nat)} {i : Nat} {o : Oper} {H : HT} {S : ST} {e e' : Env} {h : AH} {K : Value → AH → HT → ST → Prop} (hs : Same o e e') (hk : opD P X b sl i o H S e h K) : opD P X b sl i o H S e' h K := by
  unfold opD at hk ⊢
  rw [← touch_same hs]
  split at hk
  · exact opW_same hs hk
  · rw [histC_iff] at hk ⊢; exact ⟨hk.1, opW_same hs hk.2⟩
  · exact opW_same hs hk
  · rw [histC_iff] at hk ⊢; exact ⟨hk.1, opW_same hs hk.2⟩
  · exact opW_same hs hk
  · exact hk
end Go.AM
end
