/- Parts of a proof, joined by a program. Conditions: none. -/
import Derived.Test.YtdlbiliolbdbmaaGreatRA0
import Derived.ScopeJumps

section
/- Look-ups and writes in maps of both kinds. Conditions: none. -/
namespace Go.AM
open Go
set_option linter.unusedSimpArgs false
variable {P : Program} {β : Bj} {h : AH} {w : World}
theorem entsG_eq (x : Value) (h : AH) : entsG x (fun i => h[i]?) = entsOf x h := rfl
theorem ptrKeyT_fs {t kt et : TypeId} (hk : ptrKeyT P t = true) (hu : P.underlying t = some (.map kt et)) : ptrFs P kt = true := by
  unfold ptrKeyT at hk
  rw [hu] at hk
  exact hk
theorem sim_look {t : TypeId} {x k x' k' v : Value} {ok : Bool} (hl : pLook P t x k ok h = some v) (R : Rel β h w) (hx : VR β x x') (hk : VR β k k') : ∃ v', (Instr.lookup t x' k' ok).run P w = .ok v' w ∧ VR β v v' := by
  unfold pLook at hl
  split at hl
  · rename_i hpk
    unfold pLookupP at hl
    split at hl
    · rename_i kt et q es hu hq hes
      split at hl
      · rename_i z hz hlw
        have ht := ptrKeyT_fs hpk hu
        obtain ⟨p, hp, hk2⟩ := keyP_VR hq hk
        have hk2 : k' = keyC p q := hk2
        subst hk2
        obtain ⟨hzr, hzp⟩ := zeroV_spec hz w
        have fin : ∀ ees : Array MapEntry, EntsR β es ees.toList → (∀ q' u, (Instr.findKey kt (keyC p q) ees.toList).run P w = .ok (some (q', u)) w → (Instr.lookup t x' (keyC p q) ok).run P w = .ok (if ok then .tuple #[u, .bool true] else u) w) →
            ((Instr.findKey kt (keyC p q) ees.toList).run P w = .ok none w → (Instr.lookup t x' (keyC p q) ok).run P w = .ok (if ok then .tuple #[z, .bool false] else z) w) → ∃ v', (Instr.lookup t x' (keyC p q) ok).run P w = .ok v' w ∧ VR β v v' := by
          intro ees hees g1 g2
          cases hf : findP (fun i => h[i]?) q es 0 with
          | none => rw [hf] at hl; cases hl
          | some r =>
            obtain ⟨r', hr', hrr⟩ := sim_findKeyP ht R hp hlw hees hf
            rw [hf] at hl
            cases r with
            | none =>
              simp only [Option.some.injEq] at hl
              subst hl
              simp only at hrr
              subst hrr
              exact ⟨_, g2 hr', okV_R (.ofPure hzp)⟩
            | some jv =>
              obtain ⟨j, v0⟩ := jv
              simp only [Option.some.injEq] at hl
              subst hl
              obtain ⟨v', rfl, hv, _⟩ := hrr
              exact ⟨_, g1 _ _ hr', okV_R hv⟩
        rw [entsG_eq] at hes
        rcases sim_ents hes R hx with ⟨rfl, rfl⟩ | ⟨b, ees, ck, rfl, hb, hR⟩
        · have hck := sim_checkP ht p q true w
          refine fin #[] trivial (fun q' u hq' => ?_) (fun hq' => ?_)
          · simp [Instr.lookup, run_underlying hu, hck, hq']
          · simp [Instr.lookup, run_underlying hu, hck, hq', hzr]
        · have hcke := sim_checkP ht p q ees.isEmpty w
          refine fin ees hR (fun q' u hq' => ?_) (fun hq' => ?_)
          · simp only [Instr.lookup, Sem.run_bind, run_underlying hu, Result.andThen_ok, run_getMap (P := P) hb, Sem.run_pure, hcke, hq']
          · simp only [Instr.lookup, Sem.run_bind, run_underlying hu, Result.andThen_ok, run_getMap (P := P) hb, Sem.run_pure, hcke, hq', hzr]
      · cases hl
    · cases hl
  · exact sim_lookup hl R hx hk
theorem sim_mapU {D : Nat → Prop} {t : TypeId} {x k v x' k' v' : Value} {h' : AH} (hu : pMapU P t x k v h = some h') (R : Rel β h w) (hx : VR β x x') (hk : VR β k k') (hv : VR β v v') :
    ∃ w', (Instr.mapUpdate t x' k' v').run P w = .ok () w' ∧ Rel β h' w' ∧ Ext D β h w β h' w' := by
  unfold pMapU at hu
  split at hu
  · rename_i hpk
    cases hup : pMapUpdP P t x k v (fun i => h[i]?) with
    | none => rw [hup] at hu; cases hu
    | some u =>
      rw [hup] at hu
      have hu : h.set u.1 u.2 = h' := Option.some.inj hu
      subst hu
      unfold pMapUpdP at hup
      split at hup
      · rename_i kt et q id ht0 hq
        cases hx
        rename_i pm hpm
        split at hup
        · rename_i es ck hid hlw
          have ht := ptrKeyT_fs hpk ht0
          obtain ⟨p, hp, hk2⟩ := keyP_VR hq hk
          have hk2 : k' = keyC p q := hk2
          subst hk2
          have hid : h[id]? = some (.map es ck) := hid
          obtain ⟨ees, hb, hR⟩ := R.obj hpm hid
          have hck := sim_checkP ht p q false w
          have hlt := (Array.getElem?_eq_some_iff.1 hb).1
          cases hf : findP (fun i => h[i]?) q es 0 with
          | none => rw [hf] at hup; cases hup
          | some r =>
            obtain ⟨r', hr', hrr⟩ := sim_findKeyP ht R hp hlw hR hf
            rw [hf] at hup
            cases r with
            | none =>
              simp only [Option.some.injEq] at hup
              subst hup
              simp only at hrr
              subst hrr
              obtain ⟨s1, s2, s3⟩ := sim_setObj (P := P) (D := D) (O := .map (ees.push { key := keyC p q, val := v', born := ck }) (ck + 1)) (o' := .map (es ++ [(k, v, ck)]) (ck + 1)) R hpm (by rw [hid]; rfl) (by rw [hid]; rfl) hb (by simp)
                ⟨ees.push { key := keyC p q, val := v', born := ck }, by simp [hlt], by rw [Array.toList_push]; exact hR.append hk hv⟩
              exact ⟨_, by simp [Instr.mapUpdate, run_underlying ht0, run_getMap (P := P) hb, hck, hr', s1], s2, s3⟩
            | some jv =>
              obtain ⟨j, v0⟩ := jv
              simp only [Option.some.injEq] at hup
              subst hup
              obtain ⟨v0', rfl, hv0, c, hc, hck2⟩ := hrr
              have hst := sim_staysP (P := P) p q w
              have hcj : ees[j]? = some c := by simpa using hc
              obtain ⟨s1, s2, s3⟩ := sim_setObj (P := P) (D := D) (O := .map (ees.modify j fun e => { e with key := keyC p q, val := v' }) ck) (o' := .map (es.modify j fun e => (e.1, v, e.2.2)) ck) R hpm (by rw [hid]; rfl) (by rw [hid]; rfl) hb (by simp)
                ⟨ees.modify j fun e => { e with key := keyC p q, val := v' }, by simp [hlt], by rw [Array.toList_modify]; exact hR.modify hv j hc hck2.symm⟩
              refine ⟨_, ?_, s2, s3⟩
              simp only [Instr.mapUpdate, Sem.run_bind, run_underlying ht0, Result.andThen_ok, run_getMap (P := P) hb, hck, hr', hcj, Option.map_some, Option.getD_some, hck2, hst, s1]
        · cases hup
      · cases hup
  · exact sim_mapUpdate hu R hx hk hv
theorem lwO_set {s j : Nat} {ob : AObj} (hd : h[s]? = some .dead) (hl : lwO h[j]? = true) : lwO (h.set s ob)[j]? = true := by
  by_cases e : s = j
  · subst e; rw [hd] at hl; cases hl
  · rw [List.getElem?_set_ne e]; exact hl
theorem findP_set {s : Nat} {ob : AObj} (hd : h[s]? = some .dead) (q : Nat × Nat × Int) : ∀ (es : List Ent) (i : Nat) {r : Option (Nat × Value)}, findP (fun i => h[i]?) q es i = some r → findP (fun i => (h.set s ob)[i]?) q es i = some r
  | [], i, r, hf => hf
  | e :: es, i, r, hf => by
    simp only [findP] at hf ⊢
    cases hq : keyP e.1 with
    | none => rw [hq] at hf; cases hf
    | some q2 =>
      rw [hq] at hf
      dsimp only at hf ⊢
      cases hl2 : lwO h[q2.1]? with
      | false => rw [hl2] at hf; cases hf
      | true =>
        rw [hl2] at hf
        rw [lwO_set hd hl2]
        dsimp only at hf ⊢
        cases heq : eq3 q q2 with
        | true => rw [heq] at hf; exact hf
        | false => rw [heq] at hf; exact findP_set hd q es (i + 1) hf
theorem entsG_set {s : Nat} {ob : AObj} {x : Value} {es : List Ent} (hd : h[s]? = some .dead) (he : entsG x (fun i => h[i]?) = some es) : entsG x (fun i => (h.set s ob)[i]?) = some es := by
  unfold entsG at he ⊢
  split at he
  · exact he
  · rename_i id
    dsimp only at he ⊢
    by_cases e : s = id
    · subst e; rw [hd] at he; cases he
    · rw [List.getElem?_set_ne e]; exact he
  · cases he
theorem pLookupP_set {t : TypeId} {x k v : Value} {ok : Bool} {s : Nat} {ob : AObj} (hd : h[s]? = some .dead) (hr : pLookupP P t x k ok (fun i => h[i]?) = some v) : pLookupP P t x k ok (fun i => (h.set s ob)[i]?) = some v := by
  unfold pLookupP at hr ⊢
  split at hr
  · rename_i kt et q es hu hq hes
    rw [entsG_set hd hes]
    simp only [hu, hq]
    split at hr
    · rename_i z hz hlw
      simp only [hz, lwO_set hd hlw]
      cases hf : findP (fun i => h[i]?) q es 0 with
      | none => rw [hf] at hr; cases hr
      | some r => rw [findP_set hd q es 0 hf]; rw [hf] at hr; exact hr
    · cases hr
  · cases hr
theorem pMapUpdP_set {t : TypeId} {x k v : Value} {u : Nat × AObj} {s : Nat} {ob : AObj} (hd : h[s]? = some .dead) (hr : pMapUpdP P t x k v (fun i => h[i]?) = some u) : pMapUpdP P t x k v (fun i => (h.set s ob)[i]?) = some u ∧ u.1 ≠ s ∧ u.2 ≠ .dead := by
  unfold pMapUpdP at hr ⊢
  split at hr
  · rename_i kt et q id hu hq
    simp only [hu, hq]
    split at hr
    · rename_i es ck hid hlw
      have hid : h[id]? = some (.map es ck) := hid
      have e : s ≠ id := by intro e; subst e; rw [hd] at hid; cases hid
      simp only [List.getElem?_set_ne e, hid, lwO_set hd hlw]
      cases hf : findP (fun i => h[i]?) q es 0 with
      | none => rw [hf] at hr; cases hr
      | some r =>
        rw [findP_set hd q es 0 hf]
        rw [hf] at hr
        cases r with
        | none =>
          simp only [Option.some.injEq] at hr
          subst hr
          exact ⟨rfl, Ne.symm e, by simp⟩
        | some jv =>
          simp only [Option.some.injEq] at hr
          subst hr
          exact ⟨rfl, Ne.symm e, by simp⟩
    · cases hr
  · cases hr
end Go.AM
end

section
/- The abstract machine: a map's entry, laid first, filled later. Conditions: none. -/
namespace Go.AM
open Go
variable {P : Program} {β : Bj} {h : AH} {w : World}
def bornAt (es : List Ent) (i : Nat) : Nat := ((es[i]?).map (·.2.2)).getD 0
def idxBorn : List Ent → Int → Nat → Option Nat
  | [], _, _ => none
  | e :: es, n, i => match decide ((e.2.2 : Int) = n) with
    | true => some i
    | false => idxBorn es n (i + 1)
def pMapEnt (P : Program) (t : TypeId) (x k : Value) (h : AH) : Option (Value × AH) :=
  match P.underlying t, x with
  | some (.map kt et), .map (some id) => match zeroV P et, h[id]? with
    | some z, some (.map es ck) => if keyOK P kt k = true then match findL P kt k es 0 with
        | some (some (i, v)) => some (.tuple #[v, .int .i64 (bornAt es i)], h.set id (.map es ck))
        | some none => some (.tuple #[z, .int .i64 ck], h.set id (.map (es ++ [(k, z, ck)]) (ck + 1)))
        | none => none
      else none
    | _, _ => none
  | _, _ => none
def pEntSt (x s v : Value) (h : AH) : Option AH :=
  match x, s with
  | .map (some id), .int .i64 n => match h[id]? with
    | some (.map es ck) => match idxBorn es n 0 with
      | some i => some (h.set id (.map (es.modify i fun e => (e.1, v, e.2.2)) ck))
      | none => none
    | _ => none
  | _, _ => none
theorem VR.pair {a b a' b' : Value} (h1 : VR β a a') (h2 : VR β b b') : VR β (.tuple #[a, b]) (.tuple #[a', b']) := by
  refine .tuple rfl fun i hi => ?_
  match i, hi with
  | 0, _ => exact h1
  | 1, _ => exact h2
theorem EntsR.at : ∀ {es : List Ent} {cs : List MapEntry} {i : Nat} {c : MapEntry}, EntsR β es cs → cs[i]? = some c → ∃ e, es[i]? = some e ∧ e.2.2 = c.born
  | [], [], _, _, _, h => by simp at h
  | e :: es, c0 :: cs, 0, c, ⟨⟨_, _, h0⟩, _⟩, h => by
    simp only [List.getElem?_cons_zero, Option.some.injEq] at h
    subst h
    exact ⟨e, rfl, h0⟩
  | e :: es, c0 :: cs, i + 1, c, ⟨_, hr⟩, h => by
    simp only [List.getElem?_cons_succ] at h ⊢
    exact EntsR.at hr h
theorem sim_idxBorn {n : Int} : ∀ {es : List Ent} {cs : List MapEntry} (i : Nat), EntsR β es cs → idxBorn es n i = (cs.findIdx? (fun e => (e.born : Int) == n)).map (· + i)
  | [], [], i, _ => rfl
  | e :: es, c :: cs, i, ⟨⟨_, _, h0⟩, hr⟩ => by
    simp only [idxBorn, List.findIdx?_cons]
    rw [h0]
    by_cases hn : (c.born : Int) = n
    · simp [hn]
    · have := sim_idxBorn (n := n) (i + 1) hr
      simp only [decide_eq_false hn]
      rw [this]
      simp only [beq_iff_eq, hn, if_false, Option.map_map]
      cases cs.findIdx? (fun e => (e.born : Int) == n) with
      | none => rfl
      | some j => simp; omega
theorem sim_mapEnt {D : Nat → Prop} {t : TypeId} {x k x' k' v : Value} {h' : AH} (hu : pMapEnt P t x k h = some (v, h')) (R : Rel β h w) (hx : VR β x x') (hk : VR β k k') :
    ∃ v' w', (Instr.mapEntry t x' k').run P w = .ok v' w' ∧ VR β v v' ∧ Rel β h' w' ∧ Ext D β h w β h' w' := by
  unfold pMapEnt at hu
  split at hu
  · rename_i kt et id ht
    cases hx
    rename_i p hp
    split at hu
    · rename_i z es ck hz hid
      split at hu
      · rename_i hko
        obtain ⟨ees, hb, hR⟩ := R.obj hp hid
        obtain ⟨hck, hd, hkp⟩ := sim_check hko false w
        obtain ⟨hzr, hzp⟩ := zeroV_spec hz w
        obtain rfl := hk.pure_eq hkp
        have hlt := (Array.getElem?_eq_some_iff.1 hb).1
        cases hf : findL P kt k' es 0 with
        | none => rw [hf] at hu; cases hu
        | some r =>
          obtain ⟨r', hr', hrr⟩ := sim_find (w := w) hd hR hf
          rw [hf] at hu
          cases r with
          | none =>
            simp only [Option.some.injEq, Prod.mk.injEq] at hu
            obtain ⟨rfl, rfl⟩ := hu
            simp only at hrr
            subst hrr
            obtain ⟨s1, s2, s3⟩ := sim_setObj (P := P) (D := D) (O := .map (ees.push { key := k', val := z, born := ck }) (ck + 1)) (o' := .map (es ++ [(k', z, ck)]) (ck + 1)) R hp (by rw [hid]; rfl) (by rw [hid]; rfl) hb (by simp)
              ⟨ees.push { key := k', val := z, born := ck }, by simp [hlt], by rw [Array.toList_push]; exact hR.append hk (.ofPure hzp)⟩
            exact ⟨.tuple #[z, goInt ck], _, by simp [Instr.mapEntry, run_underlying ht, run_getMap (P := P) hb, hck, hr', hzr, s1], VR.pair (.ofPure hzp) (.int _ _), s2, s3⟩
          | some jv =>
            obtain ⟨j, v0⟩ := jv
            simp only [Option.some.injEq, Prod.mk.injEq] at hu
            obtain ⟨rfl, rfl⟩ := hu
            obtain ⟨v0', rfl, hv0, e, c, he, hc, hck2, hke⟩ := hrr
            obtain ⟨hst, hke2⟩ := sim_stays hke w
            have hcj : ees[j]? = some c := by simpa using hc
            obtain ⟨e', he', hborn⟩ := hR.at hc
            have hb2 : bornAt es j = c.born := by unfold bornAt; rw [he']; simpa using hborn
            obtain ⟨s1, s2, s3⟩ := sim_setObj (P := P) (D := D) (O := .map (ees.modify j fun e => { e with key := k' }) ck) (o' := .map es ck) R hp (by rw [hid]; rfl) (by rw [hid]; rfl) hb (by simp)
              ⟨ees.modify j fun e => { e with key := k' }, by simp [hlt], by
                rw [Array.toList_modify]
                have he : ees.toList.modify j (fun e => { e with key := k' }) = ees.toList := by
                  apply List.ext_getElem?
                  intro i
                  simp only [List.getElem?_modify]
                  by_cases hj : j = i
                  · subst hj
                    rw [hc]
                    simp only [if_true, Option.map_eq_map, Option.map_some]
                    rw [hke2, ← hck2]
                  · simp [hj]
                rw [he]
                exact hR⟩
            refine ⟨.tuple #[v0', goInt c.born], _, ?_, VR.pair hv0 (by rw [hb2]; exact .int _ _), s2, s3⟩
            simp only [Instr.mapEntry, Sem.run_bind, run_underlying ht, Result.andThen_ok, run_getMap (P := P) hb, hck, hr', hcj, Option.map_some, Option.getD_some, hck2, hst, s1]
            rfl
      · cases hu
    · cases hu
  · cases hu
theorem sim_entSt {D : Nat → Prop} {t : TypeId} {x s v x' s' v' : Value} {h' : AH} (hu : pEntSt x s v h = some h') (R : Rel β h w) (hx : VR β x x') (hs : VR β s s') (hv : VR β v v') :
    ∃ w', (Instr.entryStore t x' s' v').run P w = .ok () w' ∧ Rel β h' w' ∧ Ext D β h w β h' w' := by
  unfold pEntSt at hu
  split at hu
  · rename_i id n
    cases hx
    rename_i p hp
    cases hs
    split at hu
    · rename_i es ck hid
      obtain ⟨ees, hb, hR⟩ := R.obj hp hid
      have hlt := (Array.getElem?_eq_some_iff.1 hb).1
      have hi := sim_idxBorn (n := n) 0 hR
      cases hf : idxBorn es n 0 with
      | none => rw [hf] at hu; cases hu
      | some i =>
        rw [hf] at hu hi
        simp only [Option.some.injEq] at hu
        subst hu
        have hi2 : ees.findIdx? (fun e => (e.born : Int) == n) = some i := by
          rw [show ees.findIdx? (fun e => (e.born : Int) == n) = ees.toList.findIdx? (fun e => (e.born : Int) == n) by rcases ees with ⟨l⟩; simp]
          cases hq : ees.toList.findIdx? (fun e => (e.born : Int) == n) with
          | none => rw [hq] at hi; cases hi
          | some j => rw [hq] at hi; simpa using hi.symm
        have hlen : i < ees.toList.length := by
          have := Array.findIdx?_eq_some_iff_getElem.1 hi2
          obtain ⟨h1, _⟩ := this
          simpa using h1
        obtain ⟨s1, s2, s3⟩ := sim_setObj (P := P) (D := D) (O := .map (ees.modify i fun e => { e with val := v' }) ck) (o' := .map (es.modify i fun e => (e.1, v, e.2.2)) ck) R hp (by rw [hid]; rfl) (by rw [hid]; rfl) hb (by simp)
          ⟨ees.modify i fun e => { e with val := v' }, by simp [hlt], by
            rw [Array.toList_modify]
            have hc : ees.toList[i]? = some ees.toList[i] := List.getElem?_eq_getElem hlen
            have := hR.modify hv i hc rfl
            have he : ees.toList.modify i (fun e => { e with val := v' }) = ees.toList.modify i (fun e => { e with key := (ees.toList[i]).key, val := v' }) := by
              apply List.ext_getElem?
              intro j
              simp only [List.getElem?_modify]
              by_cases hj : i = j
              · subst hj
                rw [hc]
                simp
              · simp [hj]
            rw [he]
            exact this⟩
        exact ⟨_, by simp [Instr.entryStore, asInt, asIntOf, run_getMap (P := P) hb, hi2, s1], s2, s3⟩
    · cases hu
  · cases hu
end Go.AM
end

section
/- The abstract machine: cells copied from slice to slice, a slice cleared. Conditions: none. -/
namespace Go.AM
open Go
variable {P : Program} {β : Bj} {h : AH} {w : World}
def pCopy (s : Nat) (x y : Value) (h : AH) : Option (Value × AH) :=
  match x, y with
  | .slice a dl _, .slice b sl _ => match firstL (Nat.min sl dl * s) b h with
    | some cells => match stAt a 0 cells h with
      | some h' => some (.int .i64 (Nat.min sl dl), h')
      | none => none
    | none => none
  | _, _ => none
def pClear (z : List Value) (x : Value) (h : AH) : Option AH :=
  match x with
  | .slice a n _ => stAt a 0 (repL z n) h
  | _ => none
def pCopyT (P : Program) (t : TypeId) (x y : Value) (h : AH) : Option (Value × AH) :=
  match P.underlying t with
  | some (.slice e) => match P.info? e with
    | some i => if 0 < i.size then pCopy i.size x y h else none
    | none => none
  | _ => none
def pClearT (P : Program) (t : TypeId) (x : Value) (h : AH) : Option AH :=
  match P.underlying t with
  | some (.slice e) => match zeroL P e with
    | some z => pClear z x h
    | none => none
  | _ => none
theorem BaseR.cut {cap' len n : Nat} {a a' : Option Addr} (hb : BaseR β cap' len a a') (hn : n ≤ len) : BaseR β cap' n a a' := by
  rcases hb with ⟨h1, h2, h3, h4⟩ | hb
  · exact .inl ⟨h1, h2, h3, by omega⟩
  · exact .inr hb
theorem sim_copy {D : Nat → Prop} {t tx ty : TypeId} {x y x' y' v : Value} {h' : AH} (hc : pCopyT P t x y h = some (v, h')) (R : Rel β h w) (hx : VR β x x') (hy : VR β y y') :
    ∃ v' w', (Builtin.copy_ #[t, tx] ty #[x', y']).run P w = .ok v' w' ∧ VR β v v' ∧ Rel β h' w' ∧ Ext D β h w β h' w' := by
  unfold pCopyT at hc
  split at hc
  · rename_i e ht
    split at hc
    · rename_i i hi
      split at hc
      · rename_i hpos
        unfold pCopy at hc
        split at hc
        · rename_i a dl dc b sl sc
          obtain ⟨a', cap', rfl, hb, hlc, _⟩ := hx.slice_base
          obtain ⟨b', cap2, rfl, hb2, hlc2, _⟩ := hy.slice_base
          split at hc
          · rename_i cells hf
            split at hc
            · rename_i h2 hst
              simp only [Option.some.injEq, Prod.mk.injEq] at hc
              obtain ⟨rfl, rfl⟩ := hc
              have hm1 : Nat.min sl dl ≤ sl := Nat.min_le_left _ _
              have hm2 : Nat.min sl dl ≤ dl := Nat.min_le_right _ _
              generalize hn : Nat.min sl dl = n at hf hst hm1 hm2
              obtain ⟨olds, hrun, hcr, hone, hl⟩ := sim_first (P := P) hpos hf R (hb2.cut hm1) (by omega)
              obtain ⟨w', hst', R', E'⟩ := sim_stAt (P := P) (D := D) hst R hb hcr hone (fun hne h0 => by
                have : n = 0 := by omega
                subst this
                rw [Nat.zero_mul] at hl
                exact hne (List.eq_nil_of_length_eq_zero hl))
              refine ⟨goInt n, w', ?_, .int _ _, R', E'⟩
              have hrun' := hrun w rfl
              have hfc : ∀ l, Builtin.firstCells i.size n (.slice b' l cap2) = Builtin.firstCells i.size n (.slice b' n cap2) := fun l => by cases b' <;> rfl
              simp only [Builtin.copy_, Builtin.lenOf, Sem.run_bind, Sem.run_pure, Result.andThen_ok, run_underlying ht, run_size w hi, List.getElem?_toArray, List.getElem?_cons_zero, List.getElem?_cons_succ, hn, hfc sl, hrun']
              cases a' with
              | none => simp at hst' ⊢; rw [hst']
              | some q =>
                rcases hb with ⟨_, hq, _⟩ | ⟨id, off, p, xx, _, _, hq, hq2⟩
                · cases hq
                · cases hq
                  rcases hq2 with hz | rfl
                  · have h0 : n = 0 := by omega
                    subst h0
                    have : olds = [] := by
                      rw [Nat.zero_mul] at hl
                      have h1 := hcr.1
                      rw [hl] at h1
                      simpa using h1
                    subst this
                    simpa [storeCells] using hst'
                  · simp only [add_none, Nat.add_zero] at hst'
                    simp [hst']
            · cases hc
          · cases hc
        · cases hc
      · cases hc
    · cases hc
  · cases hc
theorem sim_clear {D : Nat → Prop} {t ty : TypeId} {x x' : Value} {h' : AH} (hc : pClearT P t x h = some h') (R : Rel β h w) (hx : VR β x x') :
    ∃ w', (Builtin.clear_ #[t] ty #[x']).run P w = .ok (.tuple #[]) w' ∧ Rel β h' w' ∧ Ext D β h w β h' w' := by
  unfold pClearT at hc
  split at hc
  · rename_i e ht
    split at hc
    · rename_i z hz
      unfold pClear at hc
      split at hc
      · rename_i a n c
        obtain ⟨a', cap', rfl, hb, hlc, _⟩ := hx.slice_base
        obtain ⟨zv, hrun, _, hzc, hcr, hone, _⟩ := zeroL_spec (β := β) w hz
        have hrep : CellsR β (repL z n) (Builtin.zeroCells zv.cells n) := by
          unfold Builtin.zeroCells
          exact rep_R hcr n (n * zv.cells.size) (by rw [hzc]; simp)
        by_cases hn : n = 0
        · subst hn
          have : h' = h := by
            have : stAt a 0 [] h = some h' := hc
            exact (Option.some.inj this).symm
          subst this
          refine ⟨w, ?_, R, Ext.refl _ _ _ _⟩
          cases a' <;> simp [Builtin.clear_, run_underlying ht]
        · obtain ⟨w', hst', R', E'⟩ := sim_stAt (P := P) (D := D) (us := (Builtin.zeroCells zv.cells n).toList) hc R hb (by simpa using hrep) (fun v hv => hone v (mem_repL hv)) (fun _ => by omega)
          refine ⟨w', ?_, R', E'⟩
          rcases hb with ⟨_, _, _, h0⟩ | ⟨id, off, p, xx, _, _, rfl, hq2⟩
          · omega
          · obtain rfl := hq2.resolve_left (by omega)
            simp only [add_none, Nat.add_zero] at hst'
            obtain ⟨m, rfl⟩ : ∃ m, n = m + 1 := ⟨n - 1, by omega⟩
            simp [Builtin.clear_, run_underlying ht, hrun, hst']
      · cases hc
    · cases hc
  · cases hc
end Go.AM
end

section
/- The abstract machine: operations, regions, code, calls, as predicates on what may come behind. Conditions: none. -/
namespace Go.AM
open Go
abbrev CallT := FuncId → List Value → AH → (Value → AH → Prop) → Prop
def evParts (e : Env) (ps : List (Nat × Operand)) : List (Nat × Value) := ps.map fun p => (p.1, ev e p.2)
def convW (P : Program) (s d : TypeId) (x : Value) (slot : Option Nat) (h : AH) (K : Value → AH → Prop) : Prop :=
  match P.underlying s, P.underlying d with
  | some .string, some (.slice e) => match P.underlying e, x with
    | some (.int .u8), .string b => aStrBytes b slot h K
    | _, _ => False
  | some (.slice e), some .string => match P.underlying e with
    | some (.int .u8) => optW (pBytesStr x h) fun v => K v h
    | _ => False
  | some (.slice _), some (.slice e) => match P.underlying e, x, s == d with
    | some (.int .u8), .slice (some ⟨id, off, none⟩) (len + 1) cap, true => match h[id]? with
      | some (.row _ true) => False
      | _ => False
    | _, _, _ => False
  | _, _ => optW (pConv P s d x) fun v => K v h
def lenW (P : Program) (t : TypeId) (x : Value) (h : AH) : Option Value :=
  match P.underlying t with
  | some (.map ..) => pLenMap x h
  | _ => pLen P t x
def callOpW (P : Program) (X : CallT) (c : Call) (e : Env) (h : AH) (K : Value → AH → Prop) : Prop :=
  match c.callee with
  | .builtin b => match b, c.args.toList, c.argTypes.toList with
    | .len, [x], t :: _ => optW (lenW P t (ev e x) h) fun v => K v h
    | .append, [x, y], [t, u] => aAppend P #[t, u] (ev e x) (ev e y) h K
    | .max, [x, y], _ => optW (pMax2 true (ev e x) (ev e y)) fun v => K v h
    | .min, [x, y], _ => optW (pMax2 false (ev e x) (ev e y)) fun v => K v h
    | .cap, [x], t :: _ => optW (pCap P t (ev e x)) fun v => K v h
    | .copy, [x, y], [t, _] => optW (pCopyT P t (ev e x) (ev e y) h) fun r => K r.1 r.2
    | .clear, [x], [t] => optW (pClearT P t (ev e x) h) fun h' => K (.tuple #[]) h'
    | _, _, _ => False
  | .value f => match ev e f with
    | .func (.func g) a b => X g (a.toList ++ c.args.toList.map (ev e) ++ b.toList) h K
    | _ => False
  | .invoke .. => False
def opW (P : Program) (X : CallT) (slot : Option Nat) (o : Oper) (e : Env) (h : AH) (K : Value → AH → Prop) : Prop :=
  match o.op with
  | .move x | .assign x => K (ev e x) h
  | .pick c a b => optW (pPick (ev e c) (ev e a) (ev e b)) fun v => K v h
  | .alloc t => aAlloc P t slot h K
  | .box _ x => aBox (ev e x) slot h K
  | .build t ps => optW (pBuild P t (evParts e ps.toList)) fun v => K v h
  | .buildSlice t n ps => aBuildSlice P t n (evParts e ps.toList) slot h K
  | .load t x => optW (pLoad P t (ev e x) h) fun v => K v h
  | .store t x v => optW (stOf P t (ev e x) (ev e v) h) fun h' => K undef h'
  | .nilCheck x => optW (pNilCheck (ev e x)) fun v => K v h
  | .binOp op t x y _ => optW (pBin P op t (ev e x) (ev e y)) fun v => K v h
  | .unOp op _ x => optW (pUn op (ev e x)) fun v => K v h
  | .convert s d x => convW P s d (ev e x) slot h K
  | .makeFunc fn a b => K (.func fn (a.map (ev e)) (b.map (ev e))) h
  | .makeMap _ none => aMakeMap slot h K
  | .makeSlice t l c => aMakeSlice P t (ev e l) (ev e c) slot h K
  | .slice t x lo hi mx => optW (pSlice P t (ev e x) (lo.map (ev e)) (hi.map (ev e)) (mx.map (ev e))) fun v => K v h
  | .fieldAddr s x f => optW (pFieldAddr P s f (ev e x)) fun v => K v h
  | .field t x f => optW (pField P t (ev e x) f) fun v => K v h
  | .indexAddr t x i => optW (pIndexAddr P t (ev e x) (ev e i)) fun v => K v h
  | .index t x i => optW (pIndex P t (ev e x) (ev e i)) fun v => K v h
  | .lookup t x i ok => optW (pLook P t (ev e x) (ev e i) ok h) fun v => K v h
  | .mapUpdate t m k v => optW (pMapU P t (ev e m) (ev e k) (ev e v) h) fun h' => K undef h'
  | .mapEntry t m k => optW (pMapEnt P t (ev e m) (ev e k) h) fun r => K r.1 r.2
  | .entryStore _ m s v => optW (pEntSt (ev e m) (ev e s) (ev e v) h) fun h' => K undef h'
  | .range t x => aRange P t (ev e x) slot h K
  | .next it s => aNext (ev e it) s h K
  | .entry it => optW (pEntry (ev e it) h) fun v => K v h
  | .extract t i => optW (pExtract (ev e t) i) fun v => K v h
  | .call c => callOpW P X c e h K
  | _ => False
def gB (v : Value) (want : Bool) : Bool :=
  match v with
  | .bool b => b == want
  | _ => false
def gval (ops : Array Oper) (o : Oper) (e : Env) : Bool :=
  match o.guard with
  | none => true
  | some (j, want) => match (ops[j]?).bind (·.dst) with
    | some t => gB (e t) want
    | none => false
def gopW (g : Bool) (op : (Value → AH → Prop) → Prop) (h : AH) (K : Value → AH → Prop) : Prop :=
  match g with
  | true => op K
  | false => K undef h
def ordW (P : Program) (X : CallT) (ops : Array Oper) (slotOf : Nat → Option Nat) : List Nat → Env → AH → (Env → AH → Prop) → Prop
  | [], e, h, Q => Q e h
  | i :: r, e, h, Q => match ops[i]? with
    | none => ordW P X ops slotOf r e h Q
    | some o => gopW (gval ops o e) (opW P X (slotOf i) o e h) h fun v h' => ordW P X ops slotOf r (putE e o.dst v) h' Q
inductive Cl where
  | pure | rd | al | eff | call | bad
  deriving DecidableEq
def clOf (P : Program) (o : Oper) : Cl :=
  match o.op with
  | .move _ | .assign _ | .pick .. | .build .. | .nilCheck _ | .binOp .. | .unOp .. | .makeFunc .. | .slice .. | .fieldAddr .. | .field .. | .indexAddr .. | .index .. | .extract .. => .pure
  | .convert s d _ => match P.underlying s, P.underlying d with
    | some .string, some (.slice _) => .al
    | some (.slice _), some .string => .rd
    | some (.slice _), some (.slice _) => .bad
    | _, _ => .pure
  | .alloc _ | .box .. | .buildSlice .. | .makeMap .. | .makeSlice .. => .al
  | .load .. => .rd
  | .lookup t _ _ _ => match ptrKeyT P t with
    | true => .bad
    | false => .rd
  | .call c => match c.callee with
    | .builtin .len => match c.argTypes.toList with
      | t :: _ => match P.underlying t with
        | some (.map ..) => .rd
        | _ => .pure
      | [] => .bad
    | .builtin .max | .builtin .min => .pure
    | .builtin .append => .call
    | .builtin .copy | .builtin .clear => .call
    | .value _ => .call
    | _ => .bad
  | .store .. => .eff
  | .mapUpdate t _ _ _ => match ptrKeyT P t with
    | true => .bad
    | false => .eff
  | .mapEntry .. | .entryStore .. => .call
  | _ => .bad
def slots (P : Program) : List Oper → Nat → List (Option Nat)
  | [], _ => []
  | o :: r, n => match clOf P o with
    | .al => some n :: slots P r (n + 1)
    | _ => none :: slots P r n
def countAl (P : Program) : List Oper → Nat
  | [] => 0
  | o :: r => match clOf P o with
    | .al => countAl P r + 1
    | _ => countAl P r
def reserve : Nat → AH → AH
  | 0, h => h
  | n + 1, h => reserve n (h ++ [.dead])
def slotAt (l : List (Option Nat)) (i : Nat) : Option Nat := (l[i]?).getD none
def idOf (v : Value) : List Nat :=
  match v with
  | .pointer (some a) => [a.block]
  | .slice (some a) _ _ => [a.block]
  | .map (some i) => [i]
  | _ => []
inductive Loc where
  | obj (i : Nat)
  | cells (i off n : Nat)
def Loc.id : Loc → Nat
  | .obj i => i
  | .cells i _ _ => i
def vwO : Loc → Option AObj → Option AObj
  | .obj _, o => o
  | .cells _ off n, o => match o with
    | some (.row c _) => if off + n ≤ c.length then some (.row ((c.drop off).take n) true) else none
    | _ => none
def vw (x : Loc) (h : AH) : Option AObj := vwO x h[x.id]?
theorem vw_eq {x : Loc} {a b : AH} (h : a[x.id]? = b[x.id]?) : vw x a = vw x b := by
  unfold vw
  rw [h]
def obOf (v : Value) : List Loc := (idOf v).map Loc.obj
def ceOf (n : Nat) (v : Value) : List Loc :=
  match v with
  | .pointer (some ⟨id, off, none⟩) => [.cells id off n]
  | _ => []
def touch (P : Program) (o : Oper) (e : Env) : List Loc :=
  match o.op with
  | .load t x => match P.info? t with
    | some i => ceOf i.size (ev e x)
    | none => []
  | .lookup _ x _ _ => obOf (ev e x)
  | .convert _ _ x => obOf (ev e x)
  | .store _ x _ => obOf (ev e x)
  | .mapUpdate _ m _ _ => obOf (ev e m)
  | .call c => match c.args.toList with
    | [x] => obOf (ev e x)
    | [x, y] => obOf (ev e x) ++ obOf (ev e y)
    | _ => []
  | _ => []
def free (b : Array Nat) (i j : Nat) : Bool := !((b.getD j 0).testBit i)
def histC (b : Array Nat) (j : Nat) (xs : List Loc) : List (Nat × AH × AH) → Prop → Prop
  | [], K => K
  | (k, hb, ha) :: r, K => match free b k j && Nat.blt k j with
    | true => (∀ x ∈ xs, vw x hb = vw x ha) ∧ histC b j xs r K
    | false => histC b j xs r K
def readC (b : Array Nat) (j : Nat) (hb ha : AH) : List (Nat × List Loc) → Prop → Prop
  | [], K => K
  | (k, xs) :: r, K => match free b k j && Nat.blt k j with
    | true => (∀ x ∈ xs, vw x hb = vw x ha) ∧ readC b j hb ha r K
    | false => readC b j hb ha r K
abbrev HT := List (Nat × AH × AH)
abbrev ST := List (Nat × List Loc)
def opD (P : Program) (X : CallT) (b : Array Nat) (sl : List (Option Nat)) (i : Nat) (o : Oper) (H : HT) (S : ST) (e : Env) (h : AH) (K : Value → AH → HT → ST → Prop) : Prop :=
  match clOf P o with
  | .pure => opW P X none o e h fun v h' => K v h' H S
  | .rd => histC b i (touch P o e) H (opW P X none o e h fun v h' => K v h' H ((i, touch P o e) :: S))
  | .al => opW P X (slotAt sl i) o e h fun v h' => K v h' ((i, h, h') :: H) S
  | .eff => histC b i (touch P o e) H (opW P X none o e h fun v h' => readC b i h h' S (K v h' ((i, h, h') :: H) S))
  | .call => opW P X none o e h fun v h' => readC b i h h' S (K v h' ((i, h, h') :: H) S)
  | .bad => False
def gopD (g : Bool) (op : (Value → AH → HT → ST → Prop) → Prop) (h : AH) (H : HT) (S : ST) (K : Value → AH → HT → ST → Prop) : Prop :=
  match g with
  | true => op K
  | false => K undef h H S
def textD (P : Program) (X : CallT) (ops : Array Oper) (b : Array Nat) (sl : List (Option Nat)) : List Nat → HT → ST → Env → AH → (Env → AH → Prop) → Prop
  | [], _, _, e, h, Q => Q e h
  | i :: r, H, S, e, h, Q => match ops[i]? with
    | none => False
    | some o => gopD (gval ops o e) (opD P X b sl i o H S e h) h H S fun v h' H' S' => textD P X ops b sl r H' S' (putE e o.dst v) h' Q
def opndT : Operand → List Nat
  | .tmp t => [t]
  | _ => []
def readsT (ops : Array Oper) (o : Oper) : List Nat :=
  o.op.operands.toList.flatMap opndT ++ match o.guard with
    | none => []
    | some (j, _) => match (ops[j]?).bind (·.dst) with
      | some t => [t]
      | none => []
def writesT (o : Oper) : List Nat := o.dst.toList
def disj (a b : List Nat) : Bool := a.all fun x => !b.contains x
def mayFloat (P : Program) (ops : Array Oper) (x y : Oper) : Bool :=
  disj (writesT x) (readsT ops y) && disj (writesT y) (readsT ops x) && disj (writesT x) (writesT y) &&
  match clOf P x, clOf P y with
  | .bad, _ | _, .bad => false
  | .al, .call => false
  | .eff, .eff | .eff, .call | .call, .eff | .call, .call => false
  | _, _ => true
def pairsOK (P : Program) (ops : Array Oper) (b : Array Nat) (j : Nat) (y : Oper) : List Oper → Nat → Bool
  | [], _ => true
  | x :: r, i => (!(free b i j) || mayFloat P ops x y) && pairsOK P ops b j y r (i + 1)
def drawOKFrom (P : Program) (ops : Array Oper) (b : Array Nat) : List Oper → List Oper → Nat → Bool
  | _, [], _ => true
  | done, y :: r, j => pairsOK P ops b j y done 0 && (y.after.toList.all fun e => !Region.binds .any e || decide (e.on < j)) && drawOKFrom P ops b (done ++ [y]) r (j + 1)
def drawOK (P : Program) (ops : Array Oper) : Bool := drawOKFrom P ops (Region.before ops) [] ops.toList 0
def lateAl (P : Program) (b : Array Nat) (i : Nat) (o : Oper) : List Oper → Nat → Bool
  | [], _ => false
  | y :: r, j => (clOf P o == .al && clOf P y == .call && Nat.blt i j && free b i j) || lateAl P b i o r (j + 1)
def ordFrom (P : Program) (ops : Array Oper) (b : Array Nat) : List Oper → Nat → List Nat → List Nat
  | [], _, pend => pend
  | o :: r, i, pend => match lateAl P b i o ops.toList 0 with
    | true => ordFrom P ops b r (i + 1) (pend ++ [i])
    | false => (pend.filter fun p => !free b p i) ++ i :: ordFrom P ops b r (i + 1) (pend.filter fun p => free b p i)
def ordL (P : Program) (ops : Array Oper) : List Nat := ordFrom P ops (Region.before ops) ops.toList 0 []
def pairOK (P : Program) (ops : Array Oper) (b : Array Nat) (k i : Nat) : Bool :=
  match ops[k]?, ops[i]? with
  | some ok, some oi => (!free b k i || (mayFloat P ops ok oi && (Nat.blt k i || (clOf P oi == .al && !(clOf P ok == .eff))))) && ok.after.toList.all fun e => !Region.binds .any e || !Nat.beq e.on i
  | _, _ => true
def pairs2 (P : Program) (ops : Array Oper) (b : Array Nat) : List Nat → Bool
  | [] => true
  | k :: r => r.all (fun i => pairOK P ops b k i && !Nat.beq k i) && pairs2 P ops b r
def edgesOK : List Oper → Nat → Bool
  | [], _ => true
  | o :: r, i => (o.after.toList.all fun e => !Region.binds .any e || Nat.blt e.on i) && edgesOK r (i + 1)
def drawOK2 (P : Program) (ops : Array Oper) : Bool :=
  Nat.beq (ordL P ops).length ops.size && ((ordL P ops).all fun i => Nat.blt i ops.size) && ((List.range ops.size).all fun i => (ordL P ops).any fun j => Nat.beq i j) && pairs2 P ops (Region.before ops) (ordL P ops) && edgesOK ops.toList 0
def regOrd (P : Program) (ops : Array Oper) : Option (List Nat) :=
  match drawOK P ops with
  | true => some (List.range ops.size)
  | false => match drawOK2 P ops with
    | true => some (ordL P ops)
    | false => none
def regW (P : Program) (X : CallT) (ops : Array Oper) (draw : Bool) (e : Env) (h : AH) (Q : Env → AH → Prop) : Prop :=
  match draw with
  | false => ordW P X ops (fun _ => none) (List.range ops.size) e h Q
  | true => match regOrd P ops with
    | some l => textD P X ops (Region.before ops) (slots P ops.toList h.length) l [] [] e (reserve (countAl P ops.toList) h) Q
    | none => False
def thenW (N : Env → AH → Prop) (Q : Exit → Env → AH → Prop) : Exit → Env → AH → Prop
  | .normal, e, h => N e h
  | x, e, h => Q x e h
def blockW (id : Nat) (Q : Exit → Env → AH → Prop) : Exit → Env → AH → Prop
  | .exit id', e, h => match Nat.beq id' id with
    | true => Q .normal e h
    | false => Q (.exit id') e h
  | x, e, h => Q x e h
def condW (v : Value) (a b : Prop) : Prop :=
  match v with
  | .bool true => a
  | .bool false => b
  | _ => False
def loopW (B : (Exit → Env → AH → Prop) → Env → AH → Prop) (Q : Exit → Env → AH → Prop) (e : Env) (h : AH) : Prop :=
  ∀ I : Env → AH → Prop, (∀ e h, B (thenW I Q) e h → I e h) → I e h
def jumpW (J : Nat → Env → AH → Prop) (Q : Exit → Env → AH → Prop) : Exit → Env → AH → Prop
  | .goto l, e, h => J l e h
  | x, e, h => Q x e h
mutual
def cwp (P : Program) (X : CallT) : Code → (Exit → Env → AH → Prop) → Env → AH → Prop
  | .skip, Q, e, h => Q .normal e h
  | .region _ ops draw, Q, e, h => regW P X ops draw e h (Q .normal)
  | .seq a b, Q, e, h => cwp P X a (thenW (cwp P X b Q) Q) e h
  | .cond c a b, Q, e, h => condW (ev e c) (cwp P X a Q e h) (cwp P X b Q e h)
  | .block id c, Q, e, h => cwp P X c (blockW id Q) e h
  | .loop c, Q, e, h => loopW (cwp P X c) Q e h
  | .exit id, Q, e, h => Q (.exit id) e h
  | .ret, Q, e, h => Q .ret e h
  | .scope c, Q, e, h => ∀ J : Nat → Env → AH → Prop, (∀ l e h, lwp P X c l (jumpW J Q) e h → J l e h) → cwp P X c (jumpW J Q) e h
  | .label _, Q, e, h => Q .normal e h
  | .goto l, Q, e, h => Q (.goto l) e h
  | .rangeFunc .., _, _, _ => False
  | .refuse _, _, _, _ => False
def lwp (P : Program) (X : CallT) : Code → Nat → (Exit → Env → AH → Prop) → Env → AH → Prop
  | .seq a b, l, Q, e, h => match (findLabel a l).isSome with
    | true => lwp P X a l (thenW (cwp P X b Q) Q) e h
    | false => lwp P X b l Q e h
  | .label l', l, Q, e, h => match l' == l with
    | true => Q .normal e h
    | false => False
  | .skip, _, _, _, _ => False
  | .region .., _, _, _, _ => False
  | .cond .., _, _, _, _ => False
  | .block .., _, _, _, _ => False
  | .loop _, _, _, _, _ => False
  | .rangeFunc .., _, _, _, _ => False
  | .exit _, _, _, _, _ => False
  | .scope _, _, _, _, _ => False
  | .goto _, _, _, _, _ => False
  | .ret, _, _, _, _ => False
  | .refuse _, _, _, _, _ => False
end
def envOf (args : List Value) : Env := fun i => args.getD i undef
def resCell (P : Program) (e : Env) (h : AH) : ResultVar → Option Value
  | .tmp t => some (e t)
  | .cell a t => pLoad P t (e a) h
def resList (P : Program) (e : Env) (h : AH) : List ResultVar → Option (List Value)
  | [] => some []
  | r :: rs => match resCell P e h r with
    | some v => match resList P e h rs with
      | some vs => some (v :: vs)
      | none => none
    | none => none
def resOf (vs : List Value) : Value :=
  match vs with
  | [v] => v
  | vs => .tuple vs.toArray
def resW (P : Program) (fn : Func) (e : Env) (h : AH) (K : Value → AH → Prop) : Prop :=
  optW (resList P e h fn.results.toList) fun vs => K (resOf vs) h
def endW (P : Program) (fn : Func) (K : Value → AH → Prop) : Exit → Env → AH → Prop
  | .normal, e, h | .ret, e, h => resW P fn e h K
  | _, _, _ => False
def opndOK : Operand → Bool
  | .tmp _ => true
  | .const v => pureV v
  | .global _ => false
  | .func _ => true
def operOK (nt : Nat) (o : Oper) : Bool := o.op.operands.toList.all opndOK && match o.dst with
  | some d => decide (d < nt)
  | none => true
def codeOK (nt : Nat) : Code → Bool
  | .region _ ops _ => ops.toList.all (operOK nt)
  | .seq a b => codeOK nt a && codeOK nt b
  | .cond c a b => opndOK c && codeOK nt a && codeOK nt b
  | .block _ c => codeOK nt c
  | .loop c => codeOK nt c
  | .scope c => codeOK nt c
  | _ => true
def fnOK (fn : Func) : Bool := !(fn.name == "runtime.NumGoroutine") && match fn.body with
  | some c => codeOK fn.ntmps c
  | none => false
def stepF (P : Program) (X : CallT) : CallT := fun f args h K =>
  match P.funcs[f]? with
  | some fn => match fn.body, fnOK fn && decide (args.length ≤ fn.ntmps) with
    | some c, true => cwp P X c (endW P fn K) (envOf args) h
    | _, _ => False
  | none => False
def killF (b m : Nat) (h : AH) : AH := h.take b ++ List.replicate m .dead
def forgK (b m : Nat) (K : Value → AH → Prop) : Value → AH → Prop := fun v h' => b ≤ h'.length ∧ h'.length ≤ b + m ∧ K v (killF b m h')
def forgW (P : Program) (X : CallT) : CallT := fun f args h K => ∃ m, stepF P X f args h (forgK h.length m K)
def stepW (P : Program) (X : CallT) : CallT := fun f args h K => libW P f args h K ∨ stepF P X f args h K ∨ forgW P X f args h K
def callW (P : Program) : CallT := fun f args h K => ∀ X : CallT, (∀ f args h K, stepW P X f args h K → X f args h K) → X f args h K
end Go.AM
end

section
/- The abstract machine: what holds behind more holds behind less; something comes behind; what fills a kept place turns nothing else. Conditions: none. -/
namespace Go.AM
open Go
set_option linter.unusedSimpArgs false
set_option linter.unusedVariables false
variable {P : Program}
def XMono (X Y : CallT) : Prop := ∀ f args h (K K' : Value → AH → Prop), (∀ v h, K v h → K' v h) → X f args h K → Y f args h K'
theorem optW_mono {α : Type} {o : Option α} {K K' : α → Prop} (h : ∀ v, K v → K' v) (hk : optW o K) : optW o K' := by
  cases o with
  | none => exact hk
  | some v => exact h v hk
theorem newW_mono {slot : Option Nat} {o : AObj} {h : AH} {K K' : Nat → AH → Prop} (hm : ∀ i h, K i h → K' i h) (hk : newW slot o h K) : newW slot o h K' := by
  cases slot <;> exact hm _ _ hk
theorem appS_mono {s : Nat} {b x : Value} {h : AH} {K K' : Value → AH → Prop} (hm : ∀ v h, K v h → K' v h) (hk : appS s b x h K) : appS s b x h K' := by
  rcases hk with hk | hk
  · exact .inl (optW_mono (fun r => hm _ _) hk)
  · right
    unfold appBoth at hk ⊢
    split at hk
    · rename_i id off len cap m news hs
      try simp only [hs]
      obtain ⟨h1, h2, h3⟩ := hk
      refine ⟨h1, h2, ?_⟩
      split at h3
      · rename_i c hr
        try simp only [hr]
        exact ⟨h3.1, hm _ _ h3.2.1, hm _ _ h3.2.2⟩
      · exact h3.elim
    · exact hk.elim
theorem appZ_mono {s : Nat} {z : List Value} {b : Value} {n : Int} {h : AH} {K K' : Value → AH → Prop} (hm : ∀ v h, K v h → K' v h) (hk : appZ s z b n h K) : appZ s z b n h K' := by
  unfold appZ at hk ⊢
  split at hk
  · split at hk
    · rename_i h0; rw [if_pos h0]; exact hm _ _ hk
    · rename_i h0
      rw [if_neg h0]
      split at hk
      · rename_i h1; rw [if_pos h1]; exact hm _ _ hk
      · exact hk.elim
  · exact hk.elim
theorem aAppend_mono {ts : Array TypeId} {b x : Value} {h : AH} {K K' : Value → AH → Prop} (hm : ∀ v h, K v h → K' v h) (hk : aAppend P ts b x h K) : aAppend P ts b x h K' := by
  unfold aAppend at hk ⊢
  split at hk
  · rename_i t tx h0
    try simp only [h0]
    split at hk
    · rename_i e e2 a l c h1 h2
      try simp only [h1, h2]
      split at hk
      · rename_i i z h3 h4
        try simp only [h3, h4]
        split at hk
        · rename_i hc
          rw [if_pos hc]
          exact appS_mono hm hk
        · exact hk.elim
      · exact hk.elim
    · rename_i e b h1 h2
      try simp only [h1, h2]
      split at hk
      · rename_i i z h3 h4
        try simp only [h3, h4]
        split at hk
        · rename_i hc
          rw [if_pos hc]
          exact appS_mono hm hk
        · exact hk.elim
      · exact hk.elim
    · rename_i e k b h1 h2
      try simp only [h1, h2]
      split at hk
      · rename_i i z h3 h4
        try simp only [h3, h4]
        split at hk
        · rename_i hc
          rw [if_pos hc]
          exact appZ_mono hm hk
        · exact hk.elim
      · exact hk.elim
    · exact hk.elim
  · exact hk.elim
theorem convW_mono {s d : TypeId} {x : Value} {slot : Option Nat} {h : AH} {K K' : Value → AH → Prop} (hm : ∀ v h, K v h → K' v h) (hk : convW P s d x slot h K) : convW P s d x slot h K' := by
  unfold convW at hk ⊢
  split at hk
  · rename_i e h1 h2
    try simp only [h1, h2]
    split at hk
    · rename_i b h3
      try simp only [h3]
      exact ⟨hk.1, newW_mono (fun _ _ => hm _ _) hk.2⟩
    · exact hk.elim
  · rename_i e h1 h2
    try simp only [h1, h2]
    split at hk
    · rename_i h3
      try simp only [h3]
      exact optW_mono (fun v => hm _ _) hk
    · exact hk.elim
  · rename_i e0 e h1 h2
    try simp only [h1, h2]
    split at hk
    · rename_i id off len cap h3 h4
      try simp only [h3, h4]
      split at hk
      · exact hk.elim
      · exact hk.elim
    · exact hk.elim
  · exact optW_mono (fun v => hm _ _) hk
theorem aRange_mono {t : TypeId} {x : Value} {slot : Option Nat} {h : AH} {K K' : Value → AH → Prop} (hm : ∀ v h, K v h → K' v h) (hk : aRange P t x slot h K) : aRange P t x slot h K' := by
  unfold aRange at hk ⊢
  split at hk
  · rename_i s h1
    try simp only [h1]
    exact newW_mono (fun _ _ => hm _ _) hk
  · rename_i h1
    try simp only [h1]
    exact newW_mono (fun _ _ => hm _ _) hk
  · rename_i m h1
    try simp only [h1]
    split at hk
    · rename_i es ck h2
      try simp only [h2]
      exact newW_mono (fun _ _ => hm _ _) hk
    · exact hk.elim
  · exact hk.elim
theorem aNext_mono {it : Value} {s : Bool} {h : AH} {K K' : Value → AH → Prop} (hm : ∀ v h, K v h → K' v h) (hk : aNext it s h K) : aNext it s h K' := by
  unfold aNext at hk ⊢
  split at hk
  · rename_i r
    try simp only
    split at hk
    · rename_i st pos h1
      try simp only [h1]
      split at hk
      · rename_i hp; rw [if_pos hp]; exact hm _ _ hk
      · rename_i hp; rw [if_neg hp]; exact hm _ _ hk
    · rename_i a b c h1
      try simp only [h1]
      exact hm _ _ hk
    · rename_i m a b c h1
      try simp only [h1]
      split at hk
      · rename_i es ck h2
        try simp only [h2]
        refine ⟨hk.1, fun c hc => ?_⟩
        have := hk.2 c hc
        cases c <;> exact hm _ _ this
      · exact hk.elim
    · exact hk.elim
  · exact hk.elim
theorem callOpW_mono {X Y : CallT} (hX : XMono X Y) {c : Call} {e : Env} {h : AH} {K K' : Value → AH → Prop} (hm : ∀ v h, K v h → K' v h) (hk : callOpW P X c e h K) : callOpW P Y c e h K' := by
  unfold callOpW at hk ⊢
  split at hk
  · split at hk
    · exact optW_mono (fun v => hm _ _) hk
    · exact aAppend_mono hm hk
    · exact optW_mono (fun v => hm _ _) hk
    · exact optW_mono (fun v => hm _ _) hk
    · exact optW_mono (fun v => hm _ _) hk
    · exact optW_mono (fun r => hm r.1 r.2) hk
    · exact optW_mono (fun h' => hm _ h') hk
    · exact hk.elim
  · split at hk
    · exact hX _ _ _ _ _ hm hk
    · exact hk.elim
  · exact hk.elim
theorem opW_mono {X Y : CallT} (hX : XMono X Y) {slot : Option Nat} {o : Oper} {e : Env} {h : AH} {K K' : Value → AH → Prop} (hm : ∀ v h, K v h → K' v h) (hk : opW P X slot o e h K) : opW P Y slot o e h K' := by
  unfold opW at hk ⊢
  split at hk
  all_goals first
    | exact hm _ _ hk
    | exact optW_mono (fun v => hm _ _) hk
    | exact optW_mono (fun r => hm r.1 r.2) hk
    | exact optW_mono (fun c hc => newW_mono (fun _ _ => hm _ _) hc) hk
    | exact ⟨hk.1, newW_mono (fun _ _ => hm _ _) hk.2⟩
    | exact newW_mono (fun _ _ => hm _ _) hk
    | exact convW_mono hm hk
    | exact aRange_mono hm hk
    | exact aNext_mono hm hk
    | exact callOpW_mono hX hm hk
    | exact hk.elim
theorem ordW_mono {X Y : CallT} (hX : XMono X Y) {ops : Array Oper} {sl : Nat → Option Nat} {Q Q' : Env → AH → Prop} (hm : ∀ e h, Q e h → Q' e h) : ∀ (l : List Nat) {e : Env} {h : AH}, ordW P X ops sl l e h Q → ordW P Y ops sl l e h Q'
  | [], e, h, hk => hm _ _ hk
  | i :: l, e, h, hk => by
    simp only [ordW] at hk ⊢
    cases ho : ops[i]? with
    | none => rw [ho] at hk; exact ordW_mono hX hm l hk
    | some o =>
      rw [ho] at hk
      simp only at hk ⊢
      cases hg : gval ops o e with
      | true => rw [hg] at hk; simp only [gopW] at hk ⊢; exact opW_mono hX (fun v h' => ordW_mono hX hm l) hk
      | false => rw [hg] at hk; simp only [gopW] at hk ⊢; exact ordW_mono hX hm l hk
theorem histC_iff {b : Array Nat} {j : Nat} {xs : List Loc} {K : Prop} : ∀ {H : HT}, histC b j xs H K ↔ (∀ y ∈ H, (free b y.1 j && Nat.blt y.1 j) = true → ∀ x ∈ xs, vw x y.2.1 = vw x y.2.2) ∧ K
  | [] => by simp [histC]
  | (k, hb, ha) :: r => by
    simp only [histC, List.forall_mem_cons]
    cases h : (free b k j && Nat.blt k j) with
    | true =>
      simp only [histC_iff (H := r), true_implies]
      constructor
      · rintro ⟨h1, h2, h3⟩; exact ⟨⟨h1, h2⟩, h3⟩
      · rintro ⟨⟨h1, h2⟩, h3⟩; exact ⟨h1, h2, h3⟩
    | false =>
      simp only [histC_iff (H := r)]
      constructor
      · rintro ⟨h2, h3⟩; exact ⟨⟨fun hc => (by cases hc), h2⟩, h3⟩
      · rintro ⟨⟨_, h2⟩, h3⟩; exact ⟨h2, h3⟩
theorem readC_iff {b : Array Nat} {j : Nat} {hb ha : AH} {K : Prop} : ∀ {S : ST}, readC b j hb ha S K ↔ (∀ y ∈ S, (free b y.1 j && Nat.blt y.1 j) = true → ∀ x ∈ y.2, vw x hb = vw x ha) ∧ K
  | [] => by simp [readC]
  | (k, xs) :: r => by
    simp only [readC, List.forall_mem_cons]
    cases h : (free b k j && Nat.blt k j) with
    | true =>
      simp only [readC_iff (S := r), true_implies]
      constructor
      · rintro ⟨h1, h2, h3⟩; exact ⟨⟨h1, h2⟩, h3⟩
      · rintro ⟨⟨h1, h2⟩, h3⟩; exact ⟨h1, h2, h3⟩
    | false =>
      simp only [readC_iff (S := r)]
      constructor
      · rintro ⟨h2, h3⟩; exact ⟨⟨fun hc => (by cases hc), h2⟩, h3⟩
      · rintro ⟨⟨_, h2⟩, h3⟩; exact ⟨h2, h3⟩
theorem opD_mono {X Y : CallT} (hX : XMono X Y) {b : Array Nat} {sl : List (Option Nat)} {i : Nat} {o : Oper} {H : HT} {S : ST} {e : Env} {h : AH} {K K' : Value → AH → HT → ST → Prop} (hm : ∀ v h H S, K v h H S → K' v h H S) (hk : opD P X b sl i o H S e h K) : opD P Y b sl i o H S e h K' := by
  unfold opD at hk ⊢
  split at hk
  · exact opW_mono hX (fun v h' => hm _ _ _ _) hk
  · rw [histC_iff] at hk ⊢
    exact ⟨hk.1, opW_mono hX (fun v h' => hm _ _ _ _) hk.2⟩
  · exact opW_mono hX (fun v h' => hm _ _ _ _) hk
  · rw [histC_iff] at hk ⊢
    exact ⟨hk.1, opW_mono hX (fun v h' hh => by rw [readC_iff] at hh ⊢; exact ⟨hh.1, hm _ _ _ _ hh.2⟩) hk.2⟩
  · exact opW_mono hX (fun v h' hh => by rw [readC_iff] at hh ⊢; exact ⟨hh.1, hm _ _ _ _ hh.2⟩) hk
  · exact hk.elim
theorem textD_mono {X Y : CallT} (hX : XMono X Y) {ops : Array Oper} {b : Array Nat} {sl : List (Option Nat)} {Q Q' : Env → AH → Prop} (hm : ∀ e h, Q e h → Q' e h) : ∀ (l : List Nat) {H : HT} {S : ST} {e : Env} {h : AH}, textD P X ops b sl l H S e h Q → textD P Y ops b sl l H S e h Q'
  | [], _, _, e, h, hk => hm _ _ hk
  | i :: l, H, S, e, h, hk => by
    simp only [textD] at hk ⊢
    cases ho : ops[i]? with
    | none => rw [ho] at hk; exact hk.elim
    | some o =>
      rw [ho] at hk
      simp only at hk ⊢
      cases hg : gval ops o e with
      | true => rw [hg] at hk; simp only [gopD] at hk ⊢; exact opD_mono hX (fun v h' H S => textD_mono hX hm l) hk
      | false => rw [hg] at hk; simp only [gopD] at hk ⊢; exact textD_mono hX hm l hk
theorem regW_mono {X Y : CallT} (hX : XMono X Y) {ops : Array Oper} {d : Bool} {e : Env} {h : AH} {Q Q' : Env → AH → Prop} (hm : ∀ e h, Q e h → Q' e h) (hk : regW P X ops d e h Q) : regW P Y ops d e h Q' := by
  unfold regW at hk ⊢
  cases d with
  | false => exact ordW_mono hX hm _ hk
  | true =>
    simp only at hk ⊢
    cases hd : regOrd P ops with
    | some l => rw [hd] at hk; exact textD_mono hX hm _ hk
    | none => rw [hd] at hk; exact hk.elim
theorem jump_mono {J : Nat → Env → AH → Prop} {Q Q' : Exit → Env → AH → Prop} (hm : ∀ x e h, Q x e h → Q' x e h) : ∀ x e h, jumpW J Q x e h → jumpW J Q' x e h := fun x e h hq => by
  cases x with
  | goto l => exact hq
  | _ => exact hm _ _ _ hq
mutual
theorem cwp_mono {X Y : CallT} (hX : XMono X Y) : ∀ (c : Code) {Q Q' : Exit → Env → AH → Prop} {e : Env} {h : AH}, (∀ x e h, Q x e h → Q' x e h) → cwp P X c Q e h → cwp P Y c Q' e h
  | .skip, _, _, _, _, hm, hk => hm _ _ _ hk
  | .region _ ops d, _, _, _, _, hm, hk => regW_mono hX (fun e h => hm _ _ _) hk
  | .seq a b, _, _, _, _, hm, hk => cwp_mono hX a (fun x e h hq => by
      cases x with
      | normal => exact cwp_mono hX b hm hq
      | _ => exact hm _ _ _ hq) hk
  | .cond c a b, _, _, e, _, hm, hk => by
    simp only [cwp] at hk ⊢
    unfold condW at hk ⊢
    split at hk
    · exact cwp_mono hX a hm hk
    · exact cwp_mono hX b hm hk
    · exact hk.elim
  | .block id c, _, _, _, _, hm, hk => cwp_mono hX c (fun x e h hq => by
      cases x with
      | exit id' =>
        simp only [blockW] at hq ⊢
        cases hb : Nat.beq id' id <;> rw [hb] at hq <;> exact hm _ _ _ hq
      | _ => exact hm _ _ _ hq) hk
  | .loop c, _, _, e, h, hm, hk => fun I hI => hk I fun e h hB => hI e h (cwp_mono hX c (fun x e h hq => by
      cases x with
      | normal => exact hq
      | _ => exact hm _ _ _ hq) hB)
  | .exit _, _, _, _, _, hm, hk => hm _ _ _ hk
  | .ret, _, _, _, _, hm, hk => hm _ _ _ hk
  | .rangeFunc .., _, _, _, _, _, hk => hk.elim
  | .scope c, _, _, _, _, hm, hk => fun J hJ => cwp_mono hX c (jump_mono hm) (hk J fun l e h hl => hJ l e h (lwp_mono hX c l (jump_mono hm) hl))
  | .label _, _, _, _, _, hm, hk => hm _ _ _ hk
  | .goto _, _, _, _, _, hm, hk => hm _ _ _ hk
  | .refuse _, _, _, _, _, _, hk => hk.elim
theorem lwp_mono {X Y : CallT} (hX : XMono X Y) : ∀ (c : Code) (l : Nat) {Q Q' : Exit → Env → AH → Prop} {e : Env} {h : AH}, (∀ x e h, Q x e h → Q' x e h) → lwp P X c l Q e h → lwp P Y c l Q' e h
  | .seq a b, l, _, _, _, _, hm, hk => by
    unfold lwp at hk ⊢
    split at hk
    · rename_i h1
      try simp only [h1]
      exact lwp_mono hX a l (fun x e h hq => by
        cases x with
        | normal => exact cwp_mono hX b hm hq
        | _ => exact hm _ _ _ hq) hk
    · rename_i h1
      try simp only [h1]
      exact lwp_mono hX b l hm hk
  | .label l', l, _, _, _, _, hm, hk => by
    unfold lwp at hk ⊢
    split at hk
    · rename_i h1
      try simp only [h1]
      exact hm _ _ _ hk
    · exact hk.elim
  | .skip, _, _, _, _, _, _, hk => by simp only [lwp] at hk
  | .region .., _, _, _, _, _, _, hk => by simp only [lwp] at hk
  | .cond .., _, _, _, _, _, _, hk => by simp only [lwp] at hk
  | .block .., _, _, _, _, _, _, hk => by simp only [lwp] at hk
  | .loop _, _, _, _, _, _, _, hk => by simp only [lwp] at hk
  | .rangeFunc .., _, _, _, _, _, _, hk => by simp only [lwp] at hk
  | .exit _, _, _, _, _, _, _, hk => by simp only [lwp] at hk
  | .scope _, _, _, _, _, _, _, hk => by simp only [lwp] at hk
  | .goto _, _, _, _, _, _, _, hk => by simp only [lwp] at hk
  | .ret, _, _, _, _, _, _, hk => by simp only [lwp] at hk
  | .refuse _, _, _, _, _, _, _, hk => by simp only [lwp] at hk
end
theorem endW_mono {fn : Func} {K K' : Value → AH → Prop} (hm : ∀ v h, K v h → K' v h) (x : Exit) (e : Env) (h : AH) (hk : endW P fn K x e h) : endW P fn K' x e h := by
  cases x with
  | normal => exact optW_mono (fun v => hm _ _) hk
  | ret => exact optW_mono (fun v => hm _ _) hk
  | _ => exact hk.elim
theorem stepF_mono {X Y : CallT} (hX : XMono X Y) : XMono (stepF P X) (stepF P Y) := by
  intro f args h K K' hm hk
  unfold stepF at hk ⊢
  split at hk
  · rename_i fn hf
    try simp only [hf]
    split at hk
    · rename_i c hb hok
      try simp only [hb, hok]
      exact cwp_mono hX c (endW_mono hm) hk
    · exact hk.elim
  · exact hk.elim
theorem stepW_mono {X Y : CallT} (hX : XMono X Y) : XMono (stepW P X) (stepW P Y) := fun f args h K K' hm hk => hk.imp (libW_mono hm) fun hk => hk.imp (stepF_mono hX f args h K K' hm) fun ⟨m, hk⟩ => ⟨m, stepF_mono hX f args h _ _ (fun v h' hh => ⟨hh.1, hh.2.1, hm _ _ hh.2.2⟩) hk⟩
theorem callW_mono : XMono (callW P) (callW P) := by
  intro f args h K K' hm hk
  refine hk (fun f args h K => ∀ K', (∀ v h, K v h → K' v h) → callW P f args h K') ?_ K' hm
  intro f args h K hs K' hm X hX
  refine hX _ _ _ _ (stepW_mono ?_ f args h K K' hm hs)
  intro f args h K K' hm hx
  exact hx K' hm X hX
theorem callW_step {f : FuncId} {args : List Value} {h : AH} {K : Value → AH → Prop} (hs : stepW P (callW P) f args h K) : callW P f args h K := by
  intro X hX
  refine hX _ _ _ _ (stepW_mono ?_ f args h K K (fun _ _ h => h) hs)
  intro f args h K K' hm hx
  exact callW_mono f args h K K' hm hx X hX
def XStrict (X : CallT) : Prop := ∀ f args h K, X f args h K → ∃ v h', K v h'
theorem optW_strict {α : Type} {o : Option α} {K : α → Prop} (hk : optW o K) : ∃ v, K v := by
  cases o with
  | none => exact hk.elim
  | some v => exact ⟨v, hk⟩
theorem newW_strict {slot : Option Nat} {o : AObj} {h : AH} {K : Nat → AH → Prop} (hk : newW slot o h K) : ∃ i h', K i h' := by
  cases slot <;> exact ⟨_, _, hk⟩
theorem cands_ne (es : List Ent) (since : Nat) (seen : List Nat) : ∃ c, c ∈ cands es since seen := by
  refine List.exists_mem_of_ne_nil _ fun h0 => ?_
  unfold cands at h0
  rw [List.append_eq_nil_iff] at h0
  obtain ⟨h1, h3⟩ := h0
  split at h1
  · cases h1
  · rename_i hne
    rw [List.map_eq_nil_iff, List.append_eq_nil_iff] at h3
    exact hne (by rw [h3.1]; rfl)
theorem appS_strict {s : Nat} {b x : Value} {h : AH} {K : Value → AH → Prop} (hk : appS s b x h K) : ∃ v h', K v h' := by
  rcases hk with hk | hk
  · obtain ⟨v, hv⟩ := optW_strict hk; exact ⟨_, _, hv⟩
  · unfold appBoth at hk
    split at hk
    · obtain ⟨_, _, hk⟩ := hk
      split at hk
      · exact ⟨_, _, hk.2.1⟩
      · exact hk.elim
    · exact hk.elim
theorem opW_strict {X : CallT} (hX : XStrict X) {slot : Option Nat} {o : Oper} {e : Env} {h : AH} {K : Value → AH → Prop} (hk : opW P X slot o e h K) : ∃ v h', K v h' := by
  unfold opW at hk
  split at hk
  all_goals first
    | exact ⟨_, _, hk⟩
    | (obtain ⟨v, hv⟩ := optW_strict hk; exact ⟨_, _, hv⟩)
    | (obtain ⟨v, hv⟩ := optW_strict hk; obtain ⟨i, h', h2⟩ := newW_strict hv; exact ⟨_, _, h2⟩)
    | (obtain ⟨i, h', h2⟩ := newW_strict hk.2; exact ⟨_, _, h2⟩)
    | (obtain ⟨i, h', h2⟩ := newW_strict hk; exact ⟨_, _, h2⟩)
    | skip
  case _ =>
    unfold convW at hk
    split at hk
    · split at hk
      · obtain ⟨i, h', h2⟩ := newW_strict hk.2; exact ⟨_, _, h2⟩
      · exact hk.elim
    · split at hk
      · obtain ⟨v, hv⟩ := optW_strict hk; exact ⟨_, _, hv⟩
      · exact hk.elim
    · split at hk
      · split at hk
        · exact hk.elim
        · exact hk.elim
      · exact hk.elim
    · obtain ⟨v, hv⟩ := optW_strict hk; exact ⟨_, _, hv⟩
  case _ =>
    unfold aRange at hk
    split at hk
    · obtain ⟨i, h', h2⟩ := newW_strict hk; exact ⟨_, _, h2⟩
    · obtain ⟨i, h', h2⟩ := newW_strict hk; exact ⟨_, _, h2⟩
    · split at hk
      · obtain ⟨i, h', h2⟩ := newW_strict hk; exact ⟨_, _, h2⟩
      · exact hk.elim
    · exact hk.elim
  case _ =>
    unfold aNext at hk
    split at hk
    · split at hk
      · split at hk <;> exact ⟨_, _, hk⟩
      · exact ⟨_, _, hk⟩
      · split at hk
        · rename_i es ck h2
          obtain ⟨hk1, hk2⟩ := hk
          obtain ⟨c, hc⟩ := cands_ne es _ _
          have := hk2 c hc
          cases c <;> exact ⟨_, _, this⟩
        · exact hk.elim
      · exact hk.elim
    · exact hk.elim
  case _ =>
    unfold callOpW at hk
    split at hk
    · split at hk
      · obtain ⟨v, hv⟩ := optW_strict hk; exact ⟨_, _, hv⟩
      · unfold aAppend at hk
        simp only at hk
        split at hk
        · split at hk
          · split at hk
            · exact appS_strict hk
            · exact hk.elim
          · exact hk.elim
        · split at hk
          · split at hk
            · exact appS_strict hk
            · exact hk.elim
          · exact hk.elim
        · split at hk
          · split at hk
            · unfold appZ at hk
              split at hk
              · split at hk
                · exact ⟨_, _, hk⟩
                · split at hk
                  · exact ⟨_, _, hk⟩
                  · exact hk.elim
              · exact hk.elim
            · exact hk.elim
          · exact hk.elim
        · exact hk.elim
      · obtain ⟨v, hv⟩ := optW_strict hk; exact ⟨_, _, hv⟩
      · obtain ⟨v, hv⟩ := optW_strict hk; exact ⟨_, _, hv⟩
      · obtain ⟨v, hv⟩ := optW_strict hk; exact ⟨_, _, hv⟩
      · obtain ⟨v, hv⟩ := optW_strict hk; exact ⟨_, _, hv⟩
      · obtain ⟨v, hv⟩ := optW_strict hk; exact ⟨_, _, hv⟩
      · exact hk.elim
    · split at hk
      · exact hX _ _ _ _ hk
      · exact hk.elim
    · exact hk.elim
  case _ => exact hk.elim
theorem ordW_strict {X : CallT} (hX : XStrict X) {ops : Array Oper} {sl : Nat → Option Nat} {Q : Env → AH → Prop} : ∀ (l : List Nat) {e : Env} {h : AH}, ordW P X ops sl l e h Q → ∃ e h, Q e h
  | [], e, h, hk => ⟨_, _, hk⟩
  | i :: l, e, h, hk => by
    simp only [ordW] at hk
    cases ho : ops[i]? with
    | none => rw [ho] at hk; exact ordW_strict hX l hk
    | some o =>
      rw [ho] at hk
      simp only at hk
      cases hg : gval ops o e with
      | true => rw [hg] at hk; simp only [gopW] at hk; obtain ⟨v, h', h2⟩ := opW_strict hX hk; exact ordW_strict hX l h2
      | false => rw [hg] at hk; simp only [gopW] at hk; exact ordW_strict hX l hk
theorem opD_strict {X : CallT} (hX : XStrict X) {b : Array Nat} {sl : List (Option Nat)} {i : Nat} {o : Oper} {H : HT} {S : ST} {e : Env} {h : AH} {K : Value → AH → HT → ST → Prop} (hk : opD P X b sl i o H S e h K) : ∃ v h' H' S', K v h' H' S' := by
  unfold opD at hk
  split at hk
  · obtain ⟨v, h', h2⟩ := opW_strict hX hk; exact ⟨_, _, _, _, h2⟩
  · rw [histC_iff] at hk; obtain ⟨v, h', h2⟩ := opW_strict hX hk.2; exact ⟨_, _, _, _, h2⟩
  · obtain ⟨v, h', h2⟩ := opW_strict hX hk; exact ⟨_, _, _, _, h2⟩
  · rw [histC_iff] at hk; obtain ⟨v, h', h2⟩ := opW_strict hX hk.2; rw [readC_iff] at h2; exact ⟨_, _, _, _, h2.2⟩
  · obtain ⟨v, h', h2⟩ := opW_strict hX hk; rw [readC_iff] at h2; exact ⟨_, _, _, _, h2.2⟩
  · exact hk.elim
theorem textD_strict {X : CallT} (hX : XStrict X) {ops : Array Oper} {b : Array Nat} {sl : List (Option Nat)} {Q : Env → AH → Prop} : ∀ (l : List Nat) {H : HT} {S : ST} {e : Env} {h : AH}, textD P X ops b sl l H S e h Q → ∃ e h, Q e h
  | [], _, _, e, h, hk => ⟨_, _, hk⟩
  | i :: l, H, S, e, h, hk => by
    simp only [textD] at hk
    cases ho : ops[i]? with
    | none => rw [ho] at hk; exact hk.elim
    | some o =>
      rw [ho] at hk
      simp only at hk
      cases hg : gval ops o e with
      | true => rw [hg] at hk; simp only [gopD] at hk; obtain ⟨v, h', _, _, h2⟩ := opD_strict hX hk; exact textD_strict hX l h2
      | false => rw [hg] at hk; simp only [gopD] at hk; exact textD_strict hX l hk
mutual
theorem cwp_strict {X : CallT} (hX : XStrict X) : ∀ (c : Code) {Q : Exit → Env → AH → Prop} {e : Env} {h : AH}, cwp P X c Q e h → ∃ x e h, Q x e h
  | .skip, _, _, _, hk => ⟨_, _, _, hk⟩
  | .region _ ops d, _, _, _, hk => by
    simp only [cwp, regW] at hk
    cases d with
    | false => obtain ⟨e, h, h2⟩ := ordW_strict hX _ hk; exact ⟨_, _, _, h2⟩
    | true =>
      simp only at hk
      cases hd : regOrd P ops with
      | some l => rw [hd] at hk; obtain ⟨e, h, h2⟩ := textD_strict hX _ hk; exact ⟨_, _, _, h2⟩
      | none => rw [hd] at hk; exact hk.elim
  | .seq a b, _, _, _, hk => by
    obtain ⟨x, e, h, h2⟩ := cwp_strict hX a hk
    cases x with
    | normal => exact cwp_strict hX b h2
    | _ => exact ⟨_, _, _, h2⟩
  | .cond c a b, _, e, _, hk => by
    simp only [cwp] at hk
    unfold condW at hk
    split at hk
    · exact cwp_strict hX a hk
    · exact cwp_strict hX b hk
    · exact hk.elim
  | .block id c, _, _, _, hk => by
    obtain ⟨x, e, h, h2⟩ := cwp_strict hX c hk
    cases x with
    | exit id' =>
      simp only [blockW] at h2
      cases hb : Nat.beq id' id <;> rw [hb] at h2 <;> exact ⟨_, _, _, h2⟩
    | _ => exact ⟨_, _, _, h2⟩
  | .loop c, Q, e, h, hk => hk (fun _ _ => ∃ x e h, Q x e h) fun e h hB => by
    obtain ⟨x, e, h, h2⟩ := cwp_strict hX c hB
    cases x with
    | normal => exact h2
    | _ => exact ⟨_, _, _, h2⟩
  | .exit _, _, _, _, hk => ⟨_, _, _, hk⟩
  | .ret, _, _, _, hk => ⟨_, _, _, hk⟩
  | .rangeFunc .., _, _, _, hk => hk.elim
  | .scope c, Q, _, _, hk => by
    obtain ⟨x, e, h, h2⟩ := cwp_strict hX c (hk (fun _ _ _ => ∃ x e h, Q x e h) fun l e h hl => by
      obtain ⟨x, e, h, h2⟩ := lwp_strict hX c l hl
      cases x with
      | goto l => exact h2
      | _ => exact ⟨_, _, _, h2⟩)
    cases x with
    | goto l => exact h2
    | _ => exact ⟨_, _, _, h2⟩
  | .label _, _, _, _, hk => ⟨_, _, _, hk⟩
  | .goto _, _, _, _, hk => ⟨_, _, _, hk⟩
  | .refuse _, _, _, _, hk => hk.elim
theorem lwp_strict {X : CallT} (hX : XStrict X) : ∀ (c : Code) (l : Nat) {Q : Exit → Env → AH → Prop} {e : Env} {h : AH}, lwp P X c l Q e h → ∃ x e h, Q x e h
  | .seq a b, l, _, _, _, hk => by
    unfold lwp at hk
    split at hk
    · obtain ⟨x, e, h, h2⟩ := lwp_strict hX a l hk
      cases x with
      | normal => exact cwp_strict hX b h2
      | _ => exact ⟨_, _, _, h2⟩
    · exact lwp_strict hX b l hk
  | .label l', l, _, _, _, hk => by
    unfold lwp at hk
    split at hk
    · exact ⟨_, _, _, hk⟩
    · exact hk.elim
  | .skip, _, _, _, _, hk => by simp only [lwp] at hk
  | .region .., _, _, _, _, hk => by simp only [lwp] at hk
  | .cond .., _, _, _, _, hk => by simp only [lwp] at hk
  | .block .., _, _, _, _, hk => by simp only [lwp] at hk
  | .loop _, _, _, _, _, hk => by simp only [lwp] at hk
  | .rangeFunc .., _, _, _, _, hk => by simp only [lwp] at hk
  | .exit _, _, _, _, _, hk => by simp only [lwp] at hk
  | .scope _, _, _, _, _, hk => by simp only [lwp] at hk
  | .goto _, _, _, _, _, hk => by simp only [lwp] at hk
  | .ret, _, _, _, _, hk => by simp only [lwp] at hk
  | .refuse _, _, _, _, _, hk => by simp only [lwp] at hk
end
theorem stepF_strict {X : CallT} (hX : XStrict X) : XStrict (stepF P X) := by
  intro f args h K hk
  unfold stepF at hk
  split at hk
  · split at hk
    · obtain ⟨x, e, h, h2⟩ := cwp_strict hX _ hk
      cases x with
      | normal => obtain ⟨v, hv⟩ := optW_strict h2; exact ⟨_, _, hv⟩
      | ret => obtain ⟨v, hv⟩ := optW_strict h2; exact ⟨_, _, hv⟩
      | _ => exact h2.elim
    · exact hk.elim
  · exact hk.elim
theorem stepW_strict {X : CallT} (hX : XStrict X) : XStrict (stepW P X) := fun f args h K hk => by
  rcases hk with (⟨_, _, _, _, _, _, _, _, hk⟩ | ⟨R, ⟨_, _, ⟨v, hv⟩, _⟩, hk⟩) | hk
  · exact ⟨_, _, hk⟩
  · exact ⟨_, _, hk v hv⟩
  · rcases hk with hk | ⟨m, hk⟩
    · exact stepF_strict hX f args h K hk
    · obtain ⟨v, h', _, _, hh⟩ := stepF_strict hX f args h _ hk
      exact ⟨v, _, hh⟩
theorem callW_strict : XStrict (callW P) := by
  intro f args h K hk
  exact hk (fun _ _ _ K => ∃ v h', K v h') fun f args h K hs => stepW_strict (fun _ _ _ _ hx => hx) f args h K hs
end Go.AM
end

section
/- The abstract machine: filling a kept place turns nothing else. Conditions: none. -/
namespace Go.AM
open Go
set_option linter.unusedSimpArgs false
set_option linter.unusedVariables false
variable {P : Program} {h : AH} {s : Nat} {ob : AObj}
def frK (s : Nat) (ob : AObj) (K : Value → AH → Prop) : Value → AH → Prop := fun v h'' => ∃ h', h'' = h'.set s ob ∧ h'[s]? = some .dead ∧ K v h'
def frQ (s : Nat) (ob : AObj) (Q : Env → AH → Prop) : Env → AH → Prop := fun e h'' => ∃ h', h'' = h'.set s ob ∧ h'[s]? = some .dead ∧ Q e h'
def XFrame (X : CallT) : Prop := ∀ f args h K s ob, h[s]? = some .dead → X f args h K → X f args (h.set s ob) (frK s ob K)
theorem frK_here {K : Value → AH → Prop} {v : Value} (hd : h[s]? = some .dead) (hk : K v h) : frK s ob K v (h.set s ob) := ⟨h, rfl, hd, hk⟩
theorem get_fill (hd : h[s]? = some .dead) {x : Nat} {q : AObj} (hx : h[x]? = some q) (hq : q ≠ .dead) : (h.set s ob)[x]? = some q := by
  have : s ≠ x := fun e => by subst e; rw [hd] at hx; exact hq (Option.some.inj hx).symm
  rw [getElem?_set_other this, hx]
theorem set_fill (hd : h[s]? = some .dead) {x : Nat} {q q' : AObj} (hx : h[x]? = some q) (hq : q ≠ .dead) : (h.set s ob).set x q' = (h.set x q').set s ob ∧ (h.set x q')[s]? = some .dead := by
  have : s ≠ x := fun e => by subst e; rw [hd] at hx; exact hq (Option.some.inj hx).symm
  exact ⟨List.set_comm _ _ this, by rw [getElem?_set_other (Ne.symm this), hd]⟩
theorem app_fill (hd : h[s]? = some .dead) (o : AObj) : (h.set s ob) ++ [o] = (h ++ [o]).set s ob ∧ (h ++ [o])[s]? = some .dead := by
  have hlt := (List.getElem?_eq_some_iff.1 hd).1
  exact ⟨by rw [List.set_append_left _ _ hlt], by rw [List.getElem?_append_left hlt, hd]⟩
theorem newW_fr {slot : Option Nat} {o : AObj} {K : Nat → AH → Prop} (hd : h[s]? = some .dead) (hs : slot ≠ some s) (hk : newW slot o h K) : newW slot o (h.set s ob) fun i h'' => ∃ h', h'' = h'.set s ob ∧ h'[s]? = some .dead ∧ K i h' := by
  cases slot with
  | none =>
    obtain ⟨e1, e2⟩ := app_fill (ob := ob) hd o
    simp only [newW, List.length_set]
    exact ⟨h ++ [o], e1, e2, hk⟩
  | some r =>
    have : r ≠ s := fun e => hs (by rw [e])
    exact ⟨h.set r o, List.set_comm _ _ (Ne.symm this), by rw [getElem?_set_other this, hd], hk⟩
theorem rdRow_fr {ag : Bool} {n : Nat} {x v : Value} (hd : h[s]? = some .dead) (hr : rdRow ag n x h = some v) : rdRow ag n x (h.set s ob) = some v := by
  unfold rdRow at hr ⊢
  split at hr
  · split at hr
    · rename_i c wr hrow
      simp only [get_fill (ob := ob) hd hrow (by simp)]
      exact hr
    · cases hr
  · cases hr
theorem pLoad_fr {t : TypeId} {x v : Value} (hd : h[s]? = some .dead) (hr : pLoad P t x h = some v) : pLoad P t x (h.set s ob) = some v := by
  unfold pLoad at hr ⊢
  split at hr
  · exact rdRow_fr hd hr
  · split at hr
    · rename_i h1; rw [if_pos h1]; exact rdRow_fr hd hr
    · cases hr
  · cases hr
theorem stRow_fr {x : Value} {vs : List Value} {h' : AH} (hd : h[s]? = some .dead) (hr : stRow x vs h = some h') : stRow x vs (h.set s ob) = some (h'.set s ob) ∧ h'[s]? = some .dead := by
  unfold stRow at hr ⊢
  split at hr
  · split at hr
    · rename_i c hrow
      simp only [get_fill (ob := ob) hd hrow (by simp)]
      split at hr
      · rename_i hl
        obtain rfl := Option.some.inj hr
        obtain ⟨e1, e2⟩ := set_fill (ob := ob) (q' := .row (spliceL c _ vs) true) hd hrow (by simp)
        rw [if_pos hl, e1]
        exact ⟨rfl, e2⟩
      · cases hr
    · cases hr
  · cases hr
theorem stOf_fr {t : TypeId} {x v : Value} {h' : AH} (hd : h[s]? = some .dead) (hr : stOf P t x v h = some h') : stOf P t x v (h.set s ob) = some (h'.set s ob) ∧ h'[s]? = some .dead := by
  unfold stOf pStore at hr ⊢
  split at hr
  · split at hr
    · rename_i hc
      simp only [hc]
      exact stRow_fr hd hr
    · cases hr
  · cases hr
theorem entsOf_fr {x : Value} {es : List Ent} (hd : h[s]? = some .dead) (hr : entsOf x h = some es) : entsOf x (h.set s ob) = some es := by
  unfold entsOf at hr ⊢
  split at hr
  · exact hr
  · split at hr
    · rename_i e c hrow
      simp only [get_fill (ob := ob) hd hrow (by simp)]
      exact hr
    · cases hr
  · cases hr
theorem pLookup_fr {t : TypeId} {x k v : Value} {ok : Bool} (hd : h[s]? = some .dead) (hr : pLookup P t x k ok h = some v) : pLookup P t x k ok (h.set s ob) = some v := by
  unfold pLookup at hr ⊢
  split at hr
  · cases he : entsOf x h with
    | none => rw [he] at hr; split at hr <;> first | cases hr | (rename_i h1; cases h1)
    | some es =>
      rw [he] at hr
      rw [entsOf_fr hd he]
      exact hr
  · cases hr
theorem pMapUpd_fr {t : TypeId} {x k v : Value} {h' : AH} (hd : h[s]? = some .dead) (hr : pMapUpd P t x k v h = some h') : pMapUpd P t x k v (h.set s ob) = some (h'.set s ob) ∧ h'[s]? = some .dead := by
  unfold pMapUpd at hr ⊢
  split at hr
  · split at hr
    · rename_i es ck hrow
      simp only [get_fill (ob := ob) hd hrow (by simp)]
      split at hr
      · rename_i hk
        simp only [hk]
        split at hr
        · rename_i i v0 hf
          obtain rfl := Option.some.inj hr
          obtain ⟨e1, e2⟩ := set_fill (ob := ob) (q' := .map (es.modify i fun e => (e.1, v, e.2.2)) ck) hd hrow (by simp)
          simp only [hf, e1]
          exact ⟨rfl, e2⟩
        · rename_i hf
          obtain rfl := Option.some.inj hr
          obtain ⟨e1, e2⟩ := set_fill (ob := ob) (q' := .map (es ++ [(k, v, ck)]) (ck + 1)) hd hrow (by simp)
          simp only [hf, e1]
          exact ⟨rfl, e2⟩
        · cases hr
      · cases hr
    · cases hr
  · cases hr
theorem pLook_fr {t : TypeId} {x k v : Value} {ok : Bool} (hd : h[s]? = some .dead) (hr : pLook P t x k ok h = some v) : pLook P t x k ok (h.set s ob) = some v := by
  unfold pLook at hr ⊢
  cases hk : ptrKeyT P t with
  | true => rw [hk] at hr; exact pLookupP_set hd hr
  | false => rw [hk] at hr; exact pLookup_fr hd hr
theorem pMapU_fr {t : TypeId} {x k v : Value} {h' : AH} (hd : h[s]? = some .dead) (hr : pMapU P t x k v h = some h') : pMapU P t x k v (h.set s ob) = some (h'.set s ob) ∧ h'[s]? = some .dead := by
  unfold pMapU at hr ⊢
  cases hk : ptrKeyT P t with
  | true =>
    rw [hk] at hr
    dsimp only at hr ⊢
    cases hu : pMapUpdP P t x k v (fun i => h[i]?) with
    | none => rw [hu] at hr; cases hr
    | some u =>
      rw [hu] at hr
      have hr : h.set u.1 u.2 = h' := Option.some.inj hr
      subst hr
      obtain ⟨e1, e2, _⟩ := pMapUpdP_set (ob := ob) hd hu
      rw [e1]
      refine ⟨?_, by rw [List.getElem?_set_ne e2]; exact hd⟩
      show some ((h.set s ob).set u.1 u.2) = _
      rw [List.set_comm _ _ (Ne.symm e2)]
  | false => rw [hk] at hr; exact pMapUpd_fr hd hr
theorem pMapEnt_fr {t : TypeId} {x k : Value} {r : Value × AH} (hd : h[s]? = some .dead) (hr : pMapEnt P t x k h = some r) : pMapEnt P t x k (h.set s ob) = some (r.1, r.2.set s ob) ∧ r.2[s]? = some .dead := by
  unfold pMapEnt at hr ⊢
  split at hr
  · split at hr
    · rename_i z es ck hz hrow
      simp only [hz, get_fill (ob := ob) hd hrow (by simp)]
      split at hr
      · rename_i hk
        simp only [hk]
        split at hr
        · rename_i i v0 hf
          obtain rfl := Option.some.inj hr
          obtain ⟨e1, e2⟩ := set_fill (ob := ob) (q' := .map es ck) hd hrow (by simp)
          simp only [hf, e1]
          exact ⟨rfl, e2⟩
        · rename_i hf
          obtain rfl := Option.some.inj hr
          obtain ⟨e1, e2⟩ := set_fill (ob := ob) (q' := .map (es ++ [(k, z, ck)]) (ck + 1)) hd hrow (by simp)
          simp only [hf, e1]
          exact ⟨rfl, e2⟩
        · cases hr
      · cases hr
    · cases hr
  · cases hr
theorem pEntSt_fr {x k v : Value} {h' : AH} (hd : h[s]? = some .dead) (hr : pEntSt x k v h = some h') : pEntSt x k v (h.set s ob) = some (h'.set s ob) ∧ h'[s]? = some .dead := by
  unfold pEntSt at hr ⊢
  split at hr
  · split at hr
    · rename_i es ck hrow
      simp only [get_fill (ob := ob) hd hrow (by simp)]
      split at hr
      · rename_i i hf
        obtain rfl := Option.some.inj hr
        obtain ⟨e1, e2⟩ := set_fill (ob := ob) (q' := .map (es.modify i fun e => (e.1, v, e.2.2)) ck) hd hrow (by simp)
        simp only [hf, e1]
        exact ⟨trivial, e2⟩
      · cases hr
    · cases hr
  · cases hr
theorem pLenMap_fr {x v : Value} (hd : h[s]? = some .dead) (hr : pLenMap x h = some v) : pLenMap x (h.set s ob) = some v := by
  unfold pLenMap at hr ⊢
  cases he : entsOf x h with
  | none => rw [he] at hr; cases hr
  | some es => rw [he] at hr; rw [entsOf_fr hd he]; exact hr
theorem pBytesStr_fr {x v : Value} (hd : h[s]? = some .dead) (hr : pBytesStr x h = some v) : pBytesStr x (h.set s ob) = some v := by
  unfold pBytesStr at hr ⊢
  split at hr
  · exact hr
  · split at hr
    · rename_i c wr hrow
      simp only [get_fill (ob := ob) hd hrow (by simp)]
      exact hr
    · cases hr
  · cases hr
theorem pEntry_fr {it v : Value} (hd : h[s]? = some .dead) (hr : pEntry it h = some v) : pEntry it (h.set s ob) = some v := by
  unfold pEntry at hr ⊢
  split at hr
  · split at hr
    · rename_i m a b c hrow
      simp only [get_fill (ob := ob) hd hrow (by simp)]
      split at hr
      · rename_i st es ck h1 h2
        simp only [h1, get_fill (ob := ob) hd h2 (by simp)]
        exact hr
      · cases hr
    · cases hr
  · cases hr
theorem srcL_fr {n : Nat} {x : Value} {r : Nat × List Value} (hd : h[s]? = some .dead) (hr : srcL n x h = some r) : srcL n x (h.set s ob) = some r := by
  unfold srcL at hr ⊢
  split at hr
  · exact hr
  · split at hr
    · rename_i h0; rw [if_pos h0]; exact hr
    · rename_i h0
      rw [if_neg h0]
      split at hr
      · rename_i c wr hrow
        simp only [get_fill (ob := ob) hd hrow (by simp)]
        exact hr
      · cases hr
  · exact hr
  · cases hr
theorem firstL_fr {n : Nat} {a : Option Addr} {l : List Value} (hd : h[s]? = some .dead) (hr : firstL n a h = some l) : firstL n a (h.set s ob) = some l := by
  unfold firstL at hr ⊢
  split at hr
  · rename_i h0; rw [if_pos h0]; exact hr
  · rename_i h0
    rw [if_neg h0]
    split at hr
    · split at hr
      · rename_i c wr hrow
        simp only [get_fill (ob := ob) hd hrow (by simp)]
        exact hr
      · cases hr
    · cases hr
theorem stAt_fr {a : Option Addr} {d : Nat} {vs : List Value} {h' : AH} (hd : h[s]? = some .dead) (hr : stAt a d vs h = some h') : stAt a d vs (h.set s ob) = some (h'.set s ob) ∧ h'[s]? = some .dead := by
  unfold stAt at hr ⊢
  split at hr
  · obtain rfl := Option.some.inj hr
    exact ⟨rfl, hd⟩
  · split at hr
    · exact stRow_fr hd hr
    · cases hr
theorem pAppS_fr {n : Nat} {b x : Value} {r : Value × AH} (hd : h[s]? = some .dead) (hr : pAppS n b x h = some r) : pAppS n b x (h.set s ob) = some (r.1, r.2.set s ob) ∧ r.2[s]? = some .dead := by
  unfold pAppS at hr ⊢
  split at hr
  · rename_i a len cap m news hs
    simp only [srcL_fr (ob := ob) hd hs]
    split at hr
    · rename_i hroom
      rw [if_pos hroom]
      split at hr
      · rename_i hc
        rw [if_pos hc]
        unfold pAppEx at hr ⊢
        split at hr
        · rename_i hf
          rw [if_pos hf]
          cases hst : stAt a (len * n) news h with
          | none => rw [hst] at hr; cases hr
          | some h' =>
            rw [hst] at hr
            obtain rfl := Option.some.inj hr
            obtain ⟨e1, e2⟩ := stAt_fr (ob := ob) hd hst
            rw [e1]
            exact ⟨rfl, e2⟩
        · rename_i hf
          rw [if_neg hf]
          cases hfi : firstL (len * n) a h with
          | none => rw [hfi] at hr; cases hr
          | some old =>
            rw [hfi] at hr
            obtain rfl := Option.some.inj hr
            rw [firstL_fr hd hfi]
            obtain ⟨e1, e2⟩ := app_fill (ob := ob) hd (.row (old ++ news) true)
            simp only [Option.map_some, List.length_set, e1]
            exact ⟨trivial, e2⟩
      · rename_i hc
        rw [if_neg hc]
        split at hr
        · rename_i hcs
          rw [if_pos hcs]
          unfold pAppOp at hr ⊢
          split at hr
          · rename_i id off
            split at hr
            · rename_i c hrow
              simp only [get_fill (ob := ob) hd hrow (by simp)]
              split at hr
              · rename_i hle
                rw [if_pos hle]
                cases hst : stAt (some ⟨id, off, none⟩) (len * n) news h with
                | none => rw [hst] at hr; cases hr
                | some h' =>
                  rw [hst] at hr
                  obtain rfl := Option.some.inj hr
                  obtain ⟨e1, e2⟩ := stAt_fr (ob := ob) hd hst
                  rw [e1]
                  exact ⟨rfl, e2⟩
              · rename_i hle
                rw [if_neg hle]
                split at hr
                · rename_i hle2
                  rw [if_pos hle2]
                  obtain rfl := Option.some.inj hr
                  obtain ⟨e1, e2⟩ := set_fill (ob := ob) (q' := .dead) hd hrow (by simp)
                  obtain ⟨e3, e4⟩ := app_fill (h := h.set id .dead) (ob := ob) e2 (.row ((c.drop off).take (len * n) ++ news) true)
                  rw [e1, e3, List.length_set]
                  exact ⟨rfl, e4⟩
                · cases hr
            · cases hr
          · cases hr
        · cases hr
    · cases hr
  · cases hr
theorem appS_fr {n : Nat} {b x : Value} {K : Value → AH → Prop} (hd : h[s]? = some .dead) (hk : appS n b x h K) : appS n b x (h.set s ob) (frK s ob K) := by
  rcases hk with hk | hk
  · obtain ⟨r, hr, hk⟩ := optW_elim hk
    obtain ⟨e1, e2⟩ := pAppS_fr (ob := ob) hd hr
    left
    rw [e1]
    exact ⟨r.2, rfl, e2, hk⟩
  · right
    unfold appBoth at hk ⊢
    split at hk
    · rename_i id off len cap m news hs
      simp only [srcL_fr (ob := ob) hd hs]
      obtain ⟨h1, h2, hk⟩ := hk
      refine ⟨h1, h2, ?_⟩
      split at hk
      · rename_i c hrow
        simp only [get_fill (ob := ob) hd hrow (by simp)]
        obtain ⟨k1, k2, k3⟩ := hk
        obtain ⟨e1, e2⟩ := set_fill (ob := ob) (q' := .row (c ++ news) true) hd hrow (by simp)
        obtain ⟨e3, e4⟩ := app_fill (ob := ob) hd (.row (c.drop off ++ news) true)
        rw [e1, e3, List.length_set]
        exact ⟨k1, ⟨_, rfl, e2, k2⟩, ⟨_, rfl, e4, k3⟩⟩
      · exact hk.elim
    · exact hk.elim
theorem pCopyT_fr {t : TypeId} {x y : Value} {r : Value × AH} (hd : h[s]? = some .dead) (hr : pCopyT P t x y h = some r) : pCopyT P t x y (h.set s ob) = some (r.1, r.2.set s ob) ∧ r.2[s]? = some .dead := by
  unfold pCopyT at hr ⊢
  split at hr
  · split at hr
    · rename_i i hi
      try simp only [hi]
      split at hr
      · rename_i hp
        rw [if_pos hp]
        unfold pCopy at hr ⊢
        split at hr
        · split at hr
          · rename_i cells hf
            simp only [firstL_fr (ob := ob) hd hf]
            split at hr
            · rename_i h2 hst
              obtain ⟨e1, e2⟩ := stAt_fr (ob := ob) hd hst
              obtain rfl := Option.some.inj hr
              rw [e1]
              exact ⟨rfl, e2⟩
            · cases hr
          · cases hr
        · cases hr
      · cases hr
    · cases hr
  · cases hr
theorem pClearT_fr {t : TypeId} {x : Value} {h' : AH} (hd : h[s]? = some .dead) (hr : pClearT P t x h = some h') : pClearT P t x (h.set s ob) = some (h'.set s ob) ∧ h'[s]? = some .dead := by
  unfold pClearT at hr ⊢
  split at hr
  · split at hr
    · rename_i z hz
      try simp only [hz]
      unfold pClear at hr ⊢
      split at hr
      · exact stAt_fr hd hr
      · cases hr
    · cases hr
  · cases hr
theorem opW_fr {X : CallT} (hX : XFrame X) (hm : XMono X X) {slot : Option Nat} {o : Oper} {e : Env} {K : Value → AH → Prop} (hd : h[s]? = some .dead) (hs : slot ≠ some s) (hk : opW P X slot o e h K) : opW P X slot o e (h.set s ob) (frK s ob K) := by
  unfold opW at hk ⊢
  split at hk
  all_goals first
    | exact frK_here hd hk
    | (refine optW_mono (fun v hv => ?_) hk; exact frK_here hd hv)
    | (refine optW_mono (fun v hv => ?_) hk; exact newW_fr hd hs hv)
    | exact ⟨hk.1, newW_fr hd hs hk.2⟩
    | exact newW_fr hd hs hk
    | (obtain ⟨v, hv, hk⟩ := optW_elim hk; rw [pLoad_fr hd hv]; exact frK_here hd hk)
    | (obtain ⟨v, hv, hk⟩ := optW_elim hk; rw [pLook_fr hd hv]; exact frK_here hd hk)
    | (obtain ⟨v, hv, hk⟩ := optW_elim hk; rw [pEntry_fr hd hv]; exact frK_here hd hk)
    | (obtain ⟨v, hv, hk⟩ := optW_elim hk; obtain ⟨e1, e2⟩ := stOf_fr (ob := ob) hd hv; rw [e1]; exact ⟨_, rfl, e2, hk⟩)
    | (obtain ⟨v, hv, hk⟩ := optW_elim hk; obtain ⟨e1, e2⟩ := pMapU_fr (ob := ob) hd hv; rw [e1]; exact ⟨_, rfl, e2, hk⟩)
    | (obtain ⟨v, hv, hk⟩ := optW_elim hk; obtain ⟨e1, e2⟩ := pMapEnt_fr (ob := ob) hd hv; rw [e1]; exact ⟨_, rfl, e2, hk⟩)
    | (obtain ⟨v, hv, hk⟩ := optW_elim hk; obtain ⟨e1, e2⟩ := pEntSt_fr (ob := ob) hd hv; rw [e1]; exact ⟨_, rfl, e2, hk⟩)
    | skip
  case _ =>
    unfold convW at hk ⊢
    split at hk
    · split at hk
      · exact ⟨hk.1, newW_fr hd hs hk.2⟩
      · exact hk.elim
    · split at hk
      · obtain ⟨v, hv, hk⟩ := optW_elim hk
        rw [pBytesStr_fr hd hv]
        exact frK_here hd hk
      · exact hk.elim
    · split at hk
      · rename_i id off len cap _ _
        split at hk
        · rename_i c hrow
          simp only [get_fill (ob := ob) hd hrow (by simp)]
          exact hk.elim
        · exact hk.elim
      · exact hk.elim
    · refine optW_mono (fun v hv => ?_) hk
      exact frK_here hd hv
  case _ =>
    unfold aRange at hk ⊢
    split at hk
    · exact newW_fr hd hs hk
    · exact newW_fr hd hs hk
    · split at hk
      · rename_i es ck hrow
        simp only [get_fill (ob := ob) hd hrow (by simp)]
        exact newW_fr hd hs hk
      · exact hk.elim
    · exact hk.elim
  case _ =>
    unfold aNext at hk ⊢
    split at hk
    · split at hk
      · rename_i st pos hrow _
        simp only [get_fill (ob := ob) hd hrow (by simp)]
        split at hk
        · rename_i hp
          rw [if_pos hp]
          obtain ⟨e1, e2⟩ := set_fill (ob := ob) (q' := .strIter st (pos + (Utf8.decode st pos).2)) hd hrow (by simp)
          rw [e1]
          exact ⟨_, rfl, e2, hk⟩
        · rename_i hp
          rw [if_neg hp]
          exact frK_here hd hk
      · rename_i a b c hrow _
        simp only [get_fill (ob := ob) hd hrow (by simp)]
        exact frK_here hd hk
      · rename_i m a b c hrow _
        simp only [get_fill (ob := ob) hd hrow (by simp)]
        split at hk
        · rename_i es ck h2
          simp only [get_fill (ob := ob) hd h2 (by simp)]
          refine ⟨hk.1, fun c hc => ?_⟩
          have := hk.2 c hc
          cases c with
          | none => exact frK_here hd this
          | some en =>
            obtain ⟨e1, e2⟩ := set_fill (ob := ob) (q' := .mapIter (some m) a (b ++ [en.2.2]) ck) hd hrow (by simp)
            simp only [e1]
            exact ⟨_, rfl, e2, this⟩
        · exact hk.elim
      · exact hk.elim
    · exact hk.elim
  case _ =>
    unfold callOpW at hk ⊢
    split at hk
    · split at hk
      · obtain ⟨v, hv, hk⟩ := optW_elim hk
        have : ∀ t x, lenW P t x h = some v → lenW P t x (h.set s ob) = some v := by
          intro t x hl
          unfold lenW at hl ⊢
          split at hl
          · exact pLenMap_fr hd hl
          · exact hl
        rw [this _ _ hv]
        exact frK_here hd hk
      · unfold aAppend at hk ⊢
        simp only at hk ⊢
        split at hk
        · split at hk
          · split at hk
            · rename_i hc; rw [if_pos hc]; exact appS_fr hd hk
            · exact hk.elim
          · exact hk.elim
        · split at hk
          · split at hk
            · rename_i hc; rw [if_pos hc]; exact appS_fr hd hk
            · exact hk.elim
          · exact hk.elim
        · split at hk
          · split at hk
            · rename_i hc
              rw [if_pos hc]
              unfold appZ at hk ⊢
              split at hk
              · split at hk
                · rename_i h0; rw [if_pos h0]; exact frK_here hd hk
                · rename_i h0
                  rw [if_neg h0]
                  split at hk
                  · rename_i z _ _ _ _ h1
                    rw [if_pos h1]
                    obtain ⟨e3, e4⟩ := app_fill (ob := ob) hd (.row (repL _ _) true)
                    rw [e3, List.length_set]
                    exact ⟨_, rfl, e4, hk⟩
                  · exact hk.elim
              · exact hk.elim
            · exact hk.elim
          · exact hk.elim
        · exact hk.elim
      · refine optW_mono (fun v hv => ?_) hk
        exact frK_here hd hv
      · refine optW_mono (fun v hv => ?_) hk
        exact frK_here hd hv
      · refine optW_mono (fun v hv => ?_) hk
        exact frK_here hd hv
      · obtain ⟨v, hv, hk⟩ := optW_elim hk
        obtain ⟨e1, e2⟩ := pCopyT_fr (ob := ob) hd hv
        rw [e1]
        exact ⟨_, rfl, e2, hk⟩
      · obtain ⟨v, hv, hk⟩ := optW_elim hk
        obtain ⟨e1, e2⟩ := pClearT_fr (ob := ob) hd hv
        rw [e1]
        exact ⟨_, rfl, e2, hk⟩
      · exact hk.elim
    · split at hk
      · exact hX _ _ _ _ _ _ hd hk
      · exact hk.elim
    · exact hk.elim
  case _ => exact hk.elim
theorem ordW_fr {X : CallT} (hX : XFrame X) (hm : XMono X X) {ops : Array Oper} {sl : Nat → Option Nat} {Q : Env → AH → Prop} : ∀ (l : List Nat) {e : Env} {h : AH}, h[s]? = some .dead → (∀ i, sl i ≠ some s) → ordW P X ops sl l e h Q → ordW P X ops sl l e (h.set s ob) (frQ s ob Q)
  | [], e, h, hd, _, hk => ⟨h, rfl, hd, hk⟩
  | i :: l, e, h, hd, hs, hk => by
    simp only [ordW] at hk ⊢
    cases ho : ops[i]? with
    | none => rw [ho] at hk; exact ordW_fr hX hm l hd hs hk
    | some o =>
      rw [ho] at hk
      simp only at hk ⊢
      cases hg : gval ops o e with
      | true =>
        rw [hg] at hk
        simp only [gopW] at hk ⊢
        refine opW_mono hm (fun v h'' hh => ?_) (opW_fr hX hm hd (hs i) hk)
        obtain ⟨h', rfl, hd', hk'⟩ := hh
        exact ordW_fr hX hm l hd' hs hk'
      | false =>
        rw [hg] at hk
        simp only [gopW] at hk ⊢
        exact ordW_fr hX hm l hd hs hk
def fillH (s : Nat) (ob : AObj) (H : HT) : HT := H.map fun y => (y.1, y.2.1.set s ob, y.2.2.set s ob)
theorem vw_other {x : Loc} {a : AH} (e : s ≠ x.id) : vw x (a.set s ob) = vw x a := vw_eq (getElem?_set_other e)
theorem vw_same {h h' : AH} (hl : s < h.length) (hl' : s < h'.length) {x : Loc} (hx : vw x h = vw x h') : vw x (h.set s ob) = vw x (h'.set s ob) := by
  by_cases e : s = x.id
  · exact vw_eq (by rw [← e, getElem?_set_same hl, getElem?_set_same hl'])
  · rw [vw_other e, vw_other e, hx]
theorem vw_same_len {h h' : AH} (hl : h.length = h'.length) {x : Loc} (hx : vw x h = vw x h') : vw x (h.set s ob) = vw x (h'.set s ob) := by
  by_cases hs : s < h.length
  · exact vw_same hs (by omega) hx
  · rw [List.set_eq_of_length_le (by omega), List.set_eq_of_length_le (by omega), hx]
theorem vw_fill {h h1 : AH} (hd : h[s]? = some .dead) (hd1 : h1[s]? = some .dead) {x : Loc} (hx : vw x h1 = vw x (h1.set s ob)) : vw x h = vw x (h.set s ob) := by
  by_cases e : s = x.id
  · have l := (List.getElem?_eq_some_iff.1 hd).1
    have l1 := (List.getElem?_eq_some_iff.1 hd1).1
    have e1 : vw x h = vw x h1 := vw_eq (by rw [← e, hd, hd1])
    have e2 : vw x (h.set s ob) = vw x (h1.set s ob) := vw_eq (by rw [← e, getElem?_set_same l, getElem?_set_same l1])
    rw [e1, e2, hx]
  · rw [vw_other e]
theorem textD_fr {X : CallT} (hX : XFrame X) (hm : XMono X X) {ops : Array Oper} {b : Array Nat} {sl : List (Option Nat)} {Q : Env → AH → Prop} : ∀ (l : List Nat) {H : HT} {S : ST} {e : Env} {h : AH}, h[s]? = some .dead → (∀ i, slotAt sl i ≠ some s) → (∀ y ∈ H, s < y.2.1.length ∧ s < y.2.2.length) →
    textD P X ops b sl l H S e h Q → textD P X ops b sl l (fillH s ob H) S e (h.set s ob) (frQ s ob Q)
  | [], H, S, e, h, hd, _, _, hk => ⟨h, rfl, hd, hk⟩
  | i :: l, H, S, e, h, hd, hs, hH, hk => by
    simp only [textD] at hk ⊢
    cases ho : ops[i]? with
    | none => rw [ho] at hk; exact hk.elim
    | some o =>
      rw [ho] at hk
      simp only at hk ⊢
      have hlt := (List.getElem?_eq_some_iff.1 hd).1
      have lenOf : ∀ {h' : AH}, h'[s]? = some .dead → s < h'.length := fun hh => (List.getElem?_eq_some_iff.1 hh).1
      cases hg : gval ops o e with
      | false =>
        rw [hg] at hk
        simp only [gopD] at hk ⊢
        exact textD_fr hX hm l hd hs hH hk
      | true =>
        rw [hg] at hk
        simp only [gopD] at hk ⊢
        unfold opD at hk ⊢
        have hist : ∀ {xs : List Loc} {K K' : Prop}, (K → K') → histC b i xs H K → histC b i xs (fillH s ob H) K' := by
          intro xs K K' hKK hh
          rw [histC_iff] at hh ⊢
          refine ⟨fun y hy hc x hx => ?_, hKK hh.2⟩
          obtain ⟨y0, hy0, rfl⟩ := List.mem_map.1 hy
          exact vw_same (hH y0 hy0).1 (hH y0 hy0).2 (hh.1 y0 hy0 hc x hx)
        have read : ∀ {h' : AH} {K K' : Prop}, h'[s]? = some .dead → (K → K') → readC b i h h' S K → readC b i (h.set s ob) (h'.set s ob) S K' := by
          intro h' K K' hd' hKK hh
          rw [readC_iff] at hh ⊢
          exact ⟨fun y hy hc x hx => vw_same hlt (lenOf hd') (hh.1 y hy hc x hx), hKK hh.2⟩
        have hH' : ∀ {h' : AH}, h'[s]? = some .dead → ∀ y ∈ (i, h, h') :: H, s < y.2.1.length ∧ s < y.2.2.length := by
          intro h' hd' y hy
          rcases List.mem_cons.1 hy with rfl | hy
          · exact ⟨hlt, lenOf hd'⟩
          · exact hH y hy
        split at hk
        · refine opW_mono hm (fun v h'' hh => ?_) (opW_fr (ob := ob) hX hm hd (by simp) hk)
          obtain ⟨h', rfl, hd', hk'⟩ := hh
          exact textD_fr hX hm l hd' hs hH hk'
        · refine hist (fun hk => ?_) hk
          refine opW_mono hm (fun v h'' hh => ?_) (opW_fr (ob := ob) hX hm hd (by simp) hk)
          obtain ⟨h', rfl, hd', hk'⟩ := hh
          exact textD_fr hX hm l hd' hs hH hk'
        · refine opW_mono hm (fun v h'' hh => ?_) (opW_fr (ob := ob) hX hm hd (hs i) hk)
          obtain ⟨h', rfl, hd', hk'⟩ := hh
          exact textD_fr hX hm l hd' hs (hH' hd') hk'
        · refine hist (fun hk => ?_) hk
          refine opW_mono hm (fun v h'' hh => ?_) (opW_fr (ob := ob) hX hm hd (by simp) hk)
          obtain ⟨h', rfl, hd', hk'⟩ := hh
          exact read hd' (fun hk' => textD_fr hX hm l hd' hs (hH' hd') hk') hk'
        · refine opW_mono hm (fun v h'' hh => ?_) (opW_fr (ob := ob) hX hm hd (by simp) hk)
          obtain ⟨h', rfl, hd', hk'⟩ := hh
          exact read hd' (fun hk' => textD_fr hX hm l hd' hs (hH' hd') hk') hk'
        · exact hk.elim
theorem reserve_fr : ∀ (n : Nat) {h : AH}, h[s]? = some .dead → reserve n (h.set s ob) = (reserve n h).set s ob ∧ (reserve n h)[s]? = some .dead
  | 0, h, hd => ⟨rfl, hd⟩
  | n + 1, h, hd => by
    obtain ⟨e1, e2⟩ := app_fill (ob := ob) hd .dead
    simp only [reserve, e1]
    exact reserve_fr n e2
theorem slots_ge (P : Program) : ∀ (l : List Oper) (n i r : Nat), slotAt (slots P l n) i = some r → n ≤ r
  | [], n, i, r, h => by simp [slots, slotAt] at h
  | o :: l, n, i, r, h => by
    unfold slots at h
    split at h
    · cases i with
      | zero => simp [slotAt] at h; omega
      | succ i => have := slots_ge P l (n + 1) i r (by simpa [slotAt] using h); omega
    · cases i with
      | zero => simp [slotAt] at h
      | succ i => exact slots_ge P l n i r (by simpa [slotAt] using h)
theorem regW_fr {X : CallT} (hX : XFrame X) (hm : XMono X X) {ops : Array Oper} {d : Bool} {e : Env} {Q : Env → AH → Prop} (hd : h[s]? = some .dead) (hk : regW P X ops d e h Q) : regW P X ops d e (h.set s ob) (frQ s ob Q) := by
  unfold regW at hk ⊢
  cases d with
  | false => exact ordW_fr hX hm _ hd (by simp) hk
  | true =>
    simp only at hk ⊢
    cases hdr : regOrd P ops with
    | some l =>
      rw [hdr] at hk
      simp only at hk ⊢
      obtain ⟨e1, e2⟩ := reserve_fr (ob := ob) (countAl P ops.toList) hd
      rw [e1, List.length_set]
      have hlt := (List.getElem?_eq_some_iff.1 hd).1
      exact textD_fr hX hm _ e2 (fun i hi => by have := slots_ge P _ _ _ _ hi; omega) (fun y hy => by cases hy) hk
    | none => rw [hdr] at hk; exact hk.elim
def frE (s : Nat) (ob : AObj) (Q : Exit → Env → AH → Prop) : Exit → Env → AH → Prop := fun x e h'' => ∃ h', h'' = h'.set s ob ∧ h'[s]? = some .dead ∧ Q x e h'
mutual
theorem cwp_fr {X : CallT} (hX : XFrame X) (hm : XMono X X) : ∀ (c : Code) {Q : Exit → Env → AH → Prop} {e : Env} {h : AH}, h[s]? = some .dead → cwp P X c Q e h → cwp P X c (frE s ob Q) e (h.set s ob)
  | .skip, _, e, h, hd, hk => ⟨h, rfl, hd, hk⟩
  | .region _ ops d, Q, e, h, hd, hk => regW_mono hm (fun e h hq => hq) (regW_fr (ob := ob) hX hm hd hk)
  | .seq a b, Q, e, h, hd, hk => cwp_mono hm a (fun x e h'' hq => by
      obtain ⟨h', rfl, hd', hq'⟩ := hq
      cases x with
      | normal => exact cwp_fr hX hm b hd' hq'
      | _ => exact ⟨h', rfl, hd', hq'⟩) (cwp_fr hX hm a hd hk)
  | .cond c a b, Q, e, h, hd, hk => by
    simp only [cwp] at hk ⊢
    unfold condW at hk ⊢
    split at hk
    · exact cwp_fr hX hm a hd hk
    · exact cwp_fr hX hm b hd hk
    · exact hk.elim
  | .block id c, Q, e, h, hd, hk => cwp_mono hm c (fun x e h'' hq => by
      obtain ⟨h', rfl, hd', hq'⟩ := hq
      cases x with
      | exit id' =>
        simp only [blockW] at hq' ⊢
        cases hb : Nat.beq id' id <;> rw [hb] at hq' <;> exact ⟨h', rfl, hd', hq'⟩
      | _ => exact ⟨h', rfl, hd', hq'⟩) (cwp_fr hX hm c hd hk)
  | .loop c, Q, e, h, hd, hk => by
    intro I hI
    refine hk (fun e h => h[s]? = some .dead → I e (h.set s ob)) ?_ hd
    intro e h hB hd
    refine hI e _ (cwp_mono hm c (fun x e h'' hq => ?_) (cwp_fr hX hm c hd hB))
    obtain ⟨h', rfl, hd', hq'⟩ := hq
    cases x with
    | normal => exact hq' hd'
    | _ => exact ⟨h', rfl, hd', hq'⟩
  | .exit _, _, e, h, hd, hk => ⟨h, rfl, hd, hk⟩
  | .ret, _, e, h, hd, hk => ⟨h, rfl, hd, hk⟩
  | .rangeFunc .., _, _, _, _, hk => hk.elim
  | .scope c, Q, e, h, hd, hk => by
    intro J hJ
    have up : ∀ x e h'', frE s ob (jumpW (fun l e h => h[s]? = some .dead → J l e (h.set s ob)) Q) x e h'' → jumpW J (frE s ob Q) x e h'' := by
      rintro x e h'' ⟨h', rfl, hd', hq'⟩
      cases x with
      | goto l => exact hq' hd'
      | _ => exact ⟨h', rfl, hd', hq'⟩
    exact cwp_mono hm c up (cwp_fr hX hm c hd (hk (fun l e h => h[s]? = some .dead → J l e (h.set s ob)) fun l e h hl hd => hJ l e _ (lwp_mono hm c l up (lwp_fr hX hm c l hd hl))))
  | .label _, _, e, h, hd, hk => ⟨h, rfl, hd, hk⟩
  | .goto _, _, e, h, hd, hk => ⟨h, rfl, hd, hk⟩
  | .refuse _, _, _, _, _, hk => hk.elim
theorem lwp_fr {X : CallT} (hX : XFrame X) (hm : XMono X X) : ∀ (c : Code) (l : Nat) {Q : Exit → Env → AH → Prop} {e : Env} {h : AH}, h[s]? = some .dead → lwp P X c l Q e h → lwp P X c l (frE s ob Q) e (h.set s ob)
  | .seq a b, l, Q, e, h, hd, hk => by
    unfold lwp at hk ⊢
    split at hk
    · rename_i h1
      try simp only [h1]
      exact lwp_mono hm a l (fun x e h'' hq => by
        obtain ⟨h', rfl, hd', hq'⟩ := hq
        cases x with
        | normal => exact cwp_fr hX hm b hd' hq'
        | _ => exact ⟨h', rfl, hd', hq'⟩) (lwp_fr hX hm a l hd hk)
    · rename_i h1
      try simp only [h1]
      exact lwp_fr hX hm b l hd hk
  | .label l', l, Q, e, h, hd, hk => by
    unfold lwp at hk ⊢
    split at hk
    · rename_i h1
      try simp only [h1]
      exact ⟨h, rfl, hd, hk⟩
    · exact hk.elim
  | .skip, _, _, _, _, _, hk => by simp only [lwp] at hk
  | .region .., _, _, _, _, _, hk => by simp only [lwp] at hk
  | .cond .., _, _, _, _, _, hk => by simp only [lwp] at hk
  | .block .., _, _, _, _, _, hk => by simp only [lwp] at hk
  | .loop _, _, _, _, _, _, hk => by simp only [lwp] at hk
  | .rangeFunc .., _, _, _, _, _, hk => by simp only [lwp] at hk
  | .exit _, _, _, _, _, _, hk => by simp only [lwp] at hk
  | .scope _, _, _, _, _, _, hk => by simp only [lwp] at hk
  | .goto _, _, _, _, _, _, hk => by simp only [lwp] at hk
  | .ret, _, _, _, _, _, hk => by simp only [lwp] at hk
  | .refuse _, _, _, _, _, _, hk => by simp only [lwp] at hk
end
theorem resList_fr {e : Env} (hd : h[s]? = some .dead) : ∀ (rs : List ResultVar) {vs : List Value}, resList P e h rs = some vs → resList P e (h.set s ob) rs = some vs
  | [], vs, hr => hr
  | r :: rs, vs, hr => by
    simp only [resList] at hr ⊢
    cases h1 : resCell P e h r with
    | none => rw [h1] at hr; cases hr
    | some v =>
      have : resCell P e (h.set s ob) r = some v := by
        cases r with
        | tmp t => exact h1
        | cell a t => exact pLoad_fr hd h1
      rw [h1] at hr
      rw [this]
      simp only at hr ⊢
      cases h2 : resList P e h rs with
      | none => rw [h2] at hr; cases hr
      | some us => rw [h2] at hr; rw [resList_fr hd rs h2]; exact hr
theorem stepF_fr {X : CallT} (hX : XFrame X) (hm : XMono X X) : XFrame (stepF P X) := by
  intro f args h K s ob hd hk
  unfold stepF at hk ⊢
  split at hk
  · split at hk
    · rename_i fn hfn _ _ c hb _
      refine cwp_mono hm c (fun x e h'' hq => ?_) (cwp_fr (ob := ob) hX hm c hd hk)
      obtain ⟨h', rfl, hd', hq'⟩ := hq
      have key : resW P fn e h' K → resW P fn e (h'.set s ob) (frK s ob K) := by
        intro hr
        obtain ⟨vs, hv, hk⟩ := optW_elim hr
        unfold resW
        rw [resList_fr hd' _ hv]
        exact frK_here hd' hk
      cases x with
      | normal => exact key hq'
      | ret => exact key hq'
      | _ => exact hq'.elim
    · exact hk.elim
  · exact hk.elim
theorem stepW_fr {X : CallT} (hX : XFrame X) (hm : XMono X X) : XFrame (stepW P X) := by
  intro f args h K s ob hd hk
  rcases hk with (⟨h1, v, sep, xs, h2, h3, h4, h5, h6⟩ | ⟨R, h1, h2⟩) | hk
  · exact .inl (.inl ⟨h1, v, sep, xs, h2, strsL_set hd h3, h4, h5, frK_here hd h6⟩)
  · exact .inl (.inr ⟨R, h1, fun v hv => frK_here hd (h2 v hv)⟩)
  · rcases hk with hk | ⟨m, hk⟩
    · exact .inr (.inl (stepF_fr hX hm f args h K s ob hd hk))
    · refine .inr (.inr ⟨m, stepF_mono hm f args _ _ _ (fun v h2 hq => ?_) (stepF_fr hX hm f args h _ s ob hd hk)⟩)
      obtain ⟨h', rfl, hd', q1, q2, q3⟩ := hq
      have hs : s < h.length := (List.getElem?_eq_some_iff.1 hd).1
      refine ⟨by rw [List.length_set, List.length_set]; exact q1, by rw [List.length_set, List.length_set]; exact q2, killF h.length m h', ?_, ?_, q3⟩
      · rw [List.length_set]
        unfold killF
        rw [List.take_set, List.set_append, if_pos (by rw [List.length_take]; omega)]
      · unfold killF
        rw [List.getElem?_append_left (by rw [List.length_take]; omega), List.getElem?_take, if_pos hs]
        exact hd'
def fills : List (Nat × AObj) → AH → AH
  | [], h => h
  | (s, o) :: L, h => fills L (h.set s o)
def deads : List (Nat × AObj) → AH → Prop
  | [], _ => True
  | (s, o) :: L, h => h[s]? = some .dead ∧ deads L (h.set s o)
def frL : List (Nat × AObj) → (Value → AH → Prop) → Value → AH → Prop
  | [], K => K
  | (s, o) :: L, K => frL L (frK s o K)
theorem frL_mono {K K' : Value → AH → Prop} (hm : ∀ v h, K v h → K' v h) : ∀ (L : List (Nat × AObj)) (v : Value) (h : AH), frL L K v h → frL L K' v h
  | [], v, h, hk => hm v h hk
  | (s, o) :: L, v, h, hk => frL_mono (fun v h hh => by obtain ⟨h', e1, e2, e3⟩ := hh; exact ⟨h', e1, e2, hm _ _ e3⟩) L v h hk
def Closed (T : CallT) : CallT := fun f args h K => ∀ L, deads L h → T f args (fills L h) (frL L K)
theorem closed_frame (T : CallT) : XFrame (Closed T) := by
  intro f args h K s ob hd hk L hL
  exact hk ((s, ob) :: L) ⟨hd, hL⟩
theorem closed_mono {T : CallT} (hT : XMono T T) : XMono (Closed T) (Closed T) := by
  intro f args h K K' hm hk L hL
  exact hT _ _ _ _ _ (frL_mono hm L) (hk L hL)
theorem stepW_fills {X : CallT} (hX : XFrame X) (hm : XMono X X) : ∀ (L : List (Nat × AObj)) {f : FuncId} {args : List Value} {h : AH} {K : Value → AH → Prop}, deads L h → stepW P X f args h K → stepW P X f args (fills L h) (frL L K)
  | [], _, _, _, _, _, hk => hk
  | (s, o) :: L, f, args, h, K, ⟨hd, hL⟩, hk => stepW_fills hX hm L hL (stepW_fr hX hm f args h K s o hd hk)
end Go.AM
end

section
/- The abstract machine: what operations of each kind hang on. Conditions: none. -/
namespace Go.AM
open Go
set_option linter.unusedSimpArgs false
set_option linter.unusedVariables false
variable {P : Program}
def Same (o : Oper) (e e' : Env) : Prop := ∀ x ∈ o.op.operands.toList, ev e x = ev e' x
theorem evParts_same {e e' : Env} {ps : List (Nat × Operand)} (h : ∀ p ∈ ps, ev e p.2 = ev e' p.2) : evParts e ps = evParts e' ps := by
  unfold evParts
  exact List.map_congr_left fun p hp => by rw [h p hp]
theorem map_same {e e' : Env} {xs : Array Operand} (h : ∀ x ∈ xs.toList, ev e x = ev e' x) : xs.map (ev e) = xs.map (ev e') := by
  apply Array.ext'
  rw [Array.toList_map, Array.toList_map]
  exact List.map_congr_left h
theorem opt_same {e e' : Env} {x : Option Operand} (h : ∀ y, x = some y → ev e y = ev e' y) : x.map (ev e) = x.map (ev e') := by
  cases x with
  | none => rfl
  | some y => simp [h y rfl]
theorem opW_same {X : CallT} {slot : Option Nat} {o : Oper} {e e' : Env} {h : AH} {K : Value → AH → Prop} (hs : Same o e e') (hk : opW P X slot o e h K) : opW P X slot o e' h K := by
  obtain ⟨dst, op, ty, pos, after, guard⟩ := o
  unfold Same at hs
  unfold opW at hk ⊢
  cases op with
  | build t ps =>
    have := evParts_same (e := e) (e' := e') (ps := ps.toList) fun p hp => hs p.2 (by simp [Op.operands]; exact ⟨p.1, by simpa using hp⟩)
    simpa only [this] using hk
  | buildSlice t n ps =>
    have := evParts_same (e := e) (e' := e') (ps := ps.toList) fun p hp => hs p.2 (by simp [Op.operands]; exact ⟨p.1, by simpa using hp⟩)
    simpa only [this] using hk
  | makeFunc fn a b =>
    have h1 := map_same (e := e) (e' := e') (xs := a) fun x hx => hs x (by simp [Op.operands]; left; simpa using hx)
    have h2 := map_same (e := e) (e' := e') (xs := b) fun x hx => hs x (by simp [Op.operands]; right; simpa using hx)
    simpa only [h1, h2] using hk
  | slice t x lo hi mx =>
    have h0 := hs x (by simp [Op.operands])
    have h1 := opt_same (e := e) (e' := e') (x := lo) fun y hy => hs y (by simp [Op.operands, hy])
    have h2 := opt_same (e := e) (e' := e') (x := hi) fun y hy => hs y (by simp [Op.operands, hy])
    have h3 := opt_same (e := e) (e' := e') (x := mx) fun y hy => hs y (by simp [Op.operands, hy])
    simpa only [h0, h1, h2, h3] using hk
  | call c =>
    obtain ⟨callee, args, argTypes⟩ := c
    have hargs : ∀ x ∈ args.toList, ev e x = ev e' x := fun x hx => hs x (by cases callee <;> simp [Op.operands, Call.operands] <;> first | (right; simpa using hx) | simpa using hx)
    simp only [callOpW] at hk ⊢
    cases callee with
    | invoke r m => exact hk.elim
    | builtin b =>
      simp only at hk ⊢
      split at hk
      · rename_i x t ts ha ht
        rw [ha] at hargs
        rw [← hargs x (by simp)]; exact hk
      · rename_i x y t u ha ht
        rw [ha] at hargs
        rw [← hargs x (by simp), ← hargs y (by simp)]; exact hk
      · rename_i _ x y ha
        rw [ha] at hargs
        rw [← hargs x (by simp), ← hargs y (by simp)]; exact hk
      · rename_i _ x y ha
        rw [ha] at hargs
        rw [← hargs x (by simp), ← hargs y (by simp)]; exact hk
      · rename_i x t ts ha ht
        rw [ha] at hargs
        rw [← hargs x (by simp)]; exact hk
      · rename_i x y t u ha ht
        rw [ha] at hargs
        rw [← hargs x (by simp), ← hargs y (by simp)]; exact hk
      · rename_i x t ha ht
        rw [ha] at hargs
        rw [← hargs x (by simp)]; exact hk
      · exact hk.elim
    | value f =>
      have h0 := hs f (by simp [Op.operands, Call.operands])
      have h1 : args.toList.map (ev e) = args.toList.map (ev e') := List.map_congr_left hargs
      simpa only [h0, h1] using hk
  | makeMap t r => cases r <;> exact hk
  | move x => simpa only [hs x (by simp [Op.operands])] using hk
  | assign x => simpa only [hs x (by simp [Op.operands])] using hk
  | pick c x y => simpa only [hs c (by simp [Op.operands]), hs x (by simp [Op.operands]), hs y (by simp [Op.operands])] using hk
  | box t x => simpa only [hs x (by simp [Op.operands])] using hk
  | load t x => simpa only [hs x (by simp [Op.operands])] using hk
  | store t x y => simpa only [hs x (by simp [Op.operands]), hs y (by simp [Op.operands])] using hk
  | nilCheck x => simpa only [hs x (by simp [Op.operands])] using hk
  | binOp op t x y yt => simpa only [hs x (by simp [Op.operands]), hs y (by simp [Op.operands])] using hk
  | unOp op t x => simpa only [hs x (by simp [Op.operands])] using hk
  | convert s d x => simpa only [hs x (by simp [Op.operands])] using hk
  | makeSlice t l c => simpa only [hs l (by simp [Op.operands]), hs c (by simp [Op.operands])] using hk
  | fieldAddr s x f => simpa only [hs x (by simp [Op.operands])] using hk
  | field t x f => simpa only [hs x (by simp [Op.operands])] using hk
  | indexAddr t x i => simpa only [hs x (by simp [Op.operands]), hs i (by simp [Op.operands])] using hk
  | index t x i => simpa only [hs x (by simp [Op.operands]), hs i (by simp [Op.operands])] using hk
  | lookup t x i ok => simpa only [hs x (by simp [Op.operands]), hs i (by simp [Op.operands])] using hk
  | mapUpdate t m k v => simpa only [hs m (by simp [Op.operands]), hs k (by simp [Op.operands]), hs v (by simp [Op.operands])] using hk
  | mapEntry t m k => simpa only [hs m (by simp [Op.operands]), hs k (by simp [Op.operands])] using hk
  | entryStore t m k v => simpa only [hs m (by simp [Op.operands]), hs k (by simp [Op.operands]), hs v (by simp [Op.operands])] using hk
  | range t x => simpa only [hs x (by simp [Op.operands])] using hk
  | next it s => simpa only [hs it (by simp [Op.operands])] using hk
  | entry it => simpa only [hs it (by simp [Op.operands])] using hk
  | extract t i => simpa only [hs t (by simp [Op.operands])] using hk
  | _ => exact hk
theorem touch_same {o : Oper} {e e' : Env} (hs : Same o e e') : touch P o e = touch P o e' := by
  obtain ⟨dst, op, ty, pos, after, guard⟩ := o
  unfold Same at hs
  unfold touch
  cases op with
  | load t x => simp only [hs x (by simp [Op.operands])]
  | lookup t x i ok => simp only [hs x (by simp [Op.operands])]
  | convert s d x => simp only [hs x (by simp [Op.operands])]
  | store t x y => simp only [hs x (by simp [Op.operands])]
  | mapUpdate t m k v => simp only [hs m (by simp [Op.operands])]
  | call c =>
    obtain ⟨callee, args, argTypes⟩ := c
    have hargs : ∀ x ∈ args.toList, ev e x = ev e' x := fun x hx => hs x (by cases callee <;> simp [Op.operands, Call.operands] <;> first | (right; simpa using hx) | simpa using hx)
    simp only
    split
    · rename_i x ha; rw [ha] at hargs; rw [hargs x (by simp)]
    · rename_i x y ha; rw [ha] at hargs; rw [hargs x (by simp), hargs y (by simp)]
    · rfl
  | _ => rfl
theorem pure_spec {o : Oper} (hc : clOf P o = .pure) (e : Env) : ∃ ov : Option Value, ∀ X slot h K, opW P X slot o e h K ↔ optW ov (fun v => K v h) := by
  obtain ⟨dst, op, ty, pos, after, guard⟩ := o
  unfold clOf at hc
  unfold opW
  cases op with
  | move x => exact ⟨some (ev e x), fun _ _ _ _ => Iff.rfl⟩
  | assign x => exact ⟨some (ev e x), fun _ _ _ _ => Iff.rfl⟩
  | makeFunc fn a b => exact ⟨some _, fun _ _ _ _ => Iff.rfl⟩
  | convert s d x =>
    simp only at hc
    refine ⟨pConv P s d (ev e x), fun X slot h K => ?_⟩
    simp only [convW]
    split at hc
    · cases hc
    · cases hc
    · cases hc
    · exact Iff.rfl
  | call c =>
    obtain ⟨callee, args, argTypes⟩ := c
    cases callee with
    | invoke r m => simp at hc
    | value f => simp at hc
    | builtin b =>
      simp only [callOpW] at hc ⊢
      have two : ∀ (mx : Bool), ∃ ov : Option Value, ∀ (h : AH) (K : Value → AH → Prop), (match args.toList with
          | [x, y] => optW (pMax2 mx (ev e x) (ev e y)) fun v => K v h
          | _ => False) ↔ optW ov fun v => K v h := by
        intro mx
        cases ha : args.toList with
        | nil => exact ⟨none, fun h K => by simp⟩
        | cons x r =>
          cases r with
          | nil => exact ⟨none, fun h K => by simp⟩
          | cons y r =>
            cases r with
            | nil => exact ⟨_, fun h K => Iff.rfl⟩
            | cons z r => exact ⟨none, fun h K => by simp⟩
      cases b with
      | len =>
        simp only at hc
        split at hc
        · rename_i t ts ht
          split at hc
          · cases hc
          · rename_i hnm
            cases ha : args.toList with
            | nil => exact ⟨none, fun X slot h K => by simp [ht]⟩
            | cons x r =>
              cases r with
              | nil =>
                refine ⟨pLen P t (ev e x), fun X slot h K => ?_⟩
                have hl : lenW P t (ev e x) h = pLen P t (ev e x) := by
                  unfold lenW
                  split
                  · rename_i h1; exact (hnm _ _ h1).elim
                  · rfl
                simp only [ht, hl]
              | cons y r => exact ⟨none, fun X slot h K => by simp [ht]⟩
        · cases hc
      | max =>
        obtain ⟨ov, hov⟩ := two true
        refine ⟨ov, fun X slot h K => ?_⟩
        rw [← hov h K]
        cases args.toList with
        | nil => simp
        | cons x r =>
          cases r with
          | nil => simp
          | cons y r => cases r <;> simp
      | min =>
        obtain ⟨ov, hov⟩ := two false
        refine ⟨ov, fun X slot h K => ?_⟩
        rw [← hov h K]
        cases args.toList with
        | nil => simp
        | cons x r =>
          cases r with
          | nil => simp
          | cons y r => cases r <;> simp
      | _ => cases hc
  | pick c x y => exact ⟨_, fun _ _ _ _ => Iff.rfl⟩
  | build t ps => exact ⟨_, fun _ _ _ _ => Iff.rfl⟩
  | nilCheck x => exact ⟨_, fun _ _ _ _ => Iff.rfl⟩
  | binOp op t x y yt => exact ⟨_, fun _ _ _ _ => Iff.rfl⟩
  | unOp op t x => exact ⟨_, fun _ _ _ _ => Iff.rfl⟩
  | slice t x lo hi mx => exact ⟨_, fun _ _ _ _ => Iff.rfl⟩
  | fieldAddr s x f => exact ⟨_, fun _ _ _ _ => Iff.rfl⟩
  | field t x f => exact ⟨_, fun _ _ _ _ => Iff.rfl⟩
  | indexAddr t x i => exact ⟨_, fun _ _ _ _ => Iff.rfl⟩
  | index t x i => exact ⟨_, fun _ _ _ _ => Iff.rfl⟩
  | extract t i => exact ⟨_, fun _ _ _ _ => Iff.rfl⟩
  | _ => first | cases hc | (dsimp only at hc; split at hc <;> cases hc)
theorem part_take {ag : Bool} {n off : Nat} (hn : ag = true ∨ n = 1) {c : List Value} : partV ag n c off = partV ag n ((c.drop off).take n) 0 := by
  cases ag with
  | true =>
    show some (Value.agg _) = some (Value.agg _)
    rw [List.drop_zero, List.take_take, Nat.min_self]
  | false =>
    have : n = 1 := by simpa using hn
    subst this
    simp [partV, List.getElem?_take]
def rdO (ag : Bool) (n off : Nat) (o : Option AObj) : Option Value :=
  match o with
  | some (.row c _) => if off + n ≤ c.length then partV ag n c off else none
  | _ => none
def rdP (ag : Bool) (n : Nat) (o : Option AObj) : Option Value :=
  match o with
  | some (.row c _) => partV ag n c 0
  | _ => none
theorem rd_vw {ag : Bool} {n id off : Nat} (hn : ag = true ∨ n = 1) (o : Option AObj) : rdO ag n off o = rdP ag n (vwO (.cells id off n) o) := by
  cases o with
  | none => rfl
  | some o =>
    cases o with
    | row c w =>
      show (if off + n ≤ c.length then partV ag n c off else none) = rdP ag n (if off + n ≤ c.length then some (AObj.row ((c.drop off).take n) true) else none)
      by_cases h : off + n ≤ c.length
      · rw [if_pos h, if_pos h]
        exact part_take hn
      · rw [if_neg h, if_neg h]
        rfl
    | _ => rfl
theorem idOf_load {ag : Bool} {n : Nat} {x : Value} {h h' : AH} (hn : ag = true ∨ n = 1) (hx : ∀ i ∈ ceOf n x, vw i h = vw i h') : rdRow ag n x h = rdRow ag n x h' := by
  unfold rdRow
  split
  · rename_i id off
    have := hx (.cells id off n) (by simp [ceOf])
    have e : vwO (.cells id off n) h[id]? = vwO (.cells id off n) h'[id]? := this
    show rdO ag n off h[id]? = rdO ag n off h'[id]?
    rw [rd_vw (id := id) hn, rd_vw (id := id) hn, e]
  · rfl
theorem idOf_ents {x : Value} {h h' : AH} (hx : ∀ i ∈ obOf x, vw i h = vw i h') : entsOf x h = entsOf x h' := by
  unfold entsOf
  split
  · rfl
  · rename_i id
    rw [show h[id]? = h'[id]? from hx (.obj id) (by simp [obOf, idOf])]
  · rfl
theorem idOf_bytes {x : Value} {h h' : AH} (hx : ∀ i ∈ obOf x, vw i h = vw i h') : pBytesStr x h = pBytesStr x h' := by
  unfold pBytesStr
  split
  · rfl
  · rename_i id off len cap
    rw [show h[id]? = h'[id]? from hx (.obj id) (by simp [obOf, idOf])]
  · rfl
def Live (h : AH) (i : Nat) : Prop := ∃ q, h[i]? = some q ∧ q ≠ .dead
theorem live_load {ag : Bool} {n : Nat} {x v : Value} {h : AH} (hr : rdRow ag n x h = some v) : ∀ i ∈ ceOf n x, Live h i.id := by
  unfold rdRow at hr
  split at hr
  · split at hr
    · rename_i hrow
      intro i hi
      simp [ceOf] at hi
      subst hi
      exact ⟨_, hrow, by simp⟩
    · cases hr
  · cases hr
theorem live_ents {x : Value} {es : List Ent} {h : AH} (hr : entsOf x h = some es) : ∀ i ∈ obOf x, Live h i.id := by
  unfold entsOf at hr
  split at hr
  · intro i hi; simp [obOf, idOf] at hi
  · split at hr
    · rename_i hrow
      intro i hi
      simp [obOf, idOf] at hi
      subst hi
      exact ⟨_, hrow, by simp⟩
    · cases hr
  · cases hr
theorem live_bytes {x v : Value} {h : AH} (hr : pBytesStr x h = some v) : ∀ i ∈ obOf x, Live h i.id := by
  unfold pBytesStr at hr
  split at hr
  · intro i hi; simp [obOf, idOf] at hi
  · split at hr
    · rename_i hrow
      intro i hi
      simp [obOf, idOf] at hi
      subst hi
      exact ⟨_, hrow, by simp⟩
    · cases hr
  · cases hr
structure RdSpec (P : Program) (o : Oper) (e : Env) (ov : AH → Option Value) : Prop where
  iff : ∀ X slot h K, opW P X slot o e h K ↔ optW (ov h) (fun v => K v h)
  loc : ∀ h h', (∀ x ∈ touch P o e, vw x h = vw x h') → ov h = ov h'
  live : ∀ h v, ov h = some v → ∀ x ∈ touch P o e, Live h x.id
theorem rd_spec {o : Oper} (hc : clOf P o = .rd) (e : Env) : ∃ ov, RdSpec P o e ov := by
  obtain ⟨dst, op, ty, pos, after, guard⟩ := o
  unfold clOf at hc
  cases op with
  | load t x =>
    refine ⟨fun h => pLoad P t (ev e x) h, fun _ _ _ _ => Iff.rfl, fun h h' hx => ?_, fun h v hv => ?_⟩
    · simp only [touch] at hx
      unfold pLoad
      cases hi : P.info? t with
      | none => rfl
      | some i =>
        rw [hi] at hx
        dsimp only at hx ⊢
        cases ha : isAggT P t with
        | none => rfl
        | some b =>
          cases b with
          | true => exact idOf_load (.inl rfl) hx
          | false =>
            dsimp only
            by_cases h1 : i.size = 1
            · rw [if_pos h1, if_pos h1]
              rw [h1] at hx
              exact idOf_load (.inr rfl) hx
            · rw [if_neg h1, if_neg h1]
    · simp only [touch]
      unfold pLoad at hv
      cases hi : P.info? t with
      | none => rw [hi] at hv; cases hv
      | some i =>
        rw [hi] at hv
        dsimp only at hv ⊢
        cases ha : isAggT P t with
        | none => rw [ha] at hv; cases hv
        | some b =>
          rw [ha] at hv
          cases b with
          | true => exact live_load hv
          | false =>
            dsimp only at hv
            by_cases h1 : i.size = 1
            · rw [if_pos h1] at hv
              rw [h1]
              exact live_load hv
            · rw [if_neg h1] at hv; cases hv
  | lookup t x i ok =>
    have hk : ptrKeyT P t = false := by
      dsimp only at hc
      cases hk : ptrKeyT P t with
      | true => rw [hk] at hc; cases hc
      | false => rfl
    refine ⟨fun h => pLookup P t (ev e x) (ev e i) ok h, fun X slot h K => by simp only [opW, pLook, hk], fun h h' hx => ?_, fun h v hv => ?_⟩
    · simp only [touch] at hx
      unfold pLookup
      rw [idOf_ents hx]
    · simp only [touch]
      unfold pLookup at hv
      split at hv
      · split at hv
        · rename_i he
          exact live_ents he
        · cases hv
      · cases hv
  | convert s d x =>
    simp only at hc
    split at hc
    · cases hc
    · rename_i el h1 h2
      cases h3 : P.underlying el with
      | none => exact ⟨fun _ => none, fun X slot h K => by simp [opW, convW, h1, h2, h3], fun _ _ _ => rfl, fun _ _ h => by cases h⟩
      | some d3 =>
        by_cases h4 : d3 = .int .u8
        · subst h4
          refine ⟨fun h => pBytesStr (ev e x) h, fun X slot h K => by simp [opW, convW, h1, h2, h3], fun h h' hx => idOf_bytes hx, fun h v hv => live_bytes hv⟩
        · refine ⟨fun _ => none, fun X slot h K => ?_, fun _ _ _ => rfl, fun _ _ h => by cases h⟩
          simp only [opW, convW, h1, h2, h3, optW_none, iff_false]
          split
          · rename_i h5; exact fun _ => h4 (Option.some.inj h5)
          · simp
    · cases hc
    · cases hc
  | call c =>
    obtain ⟨callee, args, argTypes⟩ := c
    cases callee with
    | invoke r m => simp at hc
    | value f => simp at hc
    | builtin b =>
      cases b with
      | len =>
        simp only at hc
        split at hc
        · rename_i t ts ht
          split at hc
          · rename_i kt et hm
            cases ha : args.toList with
            | nil => exact ⟨fun _ => none, fun X slot h K => by simp [opW, callOpW, ht, ha], fun _ _ _ => rfl, fun _ _ h => by cases h⟩
            | cons x r =>
              cases r with
              | nil =>
                refine ⟨fun h => pLenMap (ev e x) h, fun X slot h K => by simp [opW, callOpW, ht, ha, lenW, hm], fun h h' hx => ?_, fun h v hv => ?_⟩
                · simp only [touch, ha] at hx
                  unfold pLenMap
                  rw [idOf_ents hx]
                · simp only [touch, ha]
                  unfold pLenMap at hv
                  cases he : entsOf (ev e x) h with
                  | none => rw [he] at hv; cases hv
                  | some es => exact live_ents he
              | cons y r => exact ⟨fun _ => none, fun X slot h K => by simp [opW, callOpW, ht, ha], fun _ _ _ => rfl, fun _ _ h => by cases h⟩
          · cases hc
        · cases hc
      | _ => cases hc
  | _ => first | cases hc | (dsimp only at hc; split at hc <;> cases hc)
structure AlSpec (P : Program) (o : Oper) (e : Env) (oo : Option AObj) (pt : Nat → Value) : Prop where
  iff : ∀ X s h K, opW P X (some s) o e h K ↔ optW oo (fun ob => K (pt s) (h.set s ob))
  live : ∀ ob, oo = some ob → ob ≠ .dead
theorem al_spec {o : Oper} (hc : clOf P o = .al) (e : Env) : ∃ oo pt, AlSpec P o e oo pt := by
  obtain ⟨dst, op, ty, pos, after, guard⟩ := o
  unfold clOf at hc
  cases op with
  | alloc t =>
    refine ⟨(zeroL P t).map fun c => .row c true, fun s => .pointer (some ⟨s, 0, none⟩), fun X s h K => ?_, fun ob hob => ?_⟩
    · simp only [opW, aAlloc, newW]
      cases zeroL P t <;> simp
    · cases h : zeroL P t <;> rw [h] at hob <;> simp at hob
      subst hob; simp
  | box t x =>
    refine ⟨if (cellsL (ev e x)).all (·.oneCell') = true then some (.row (cellsL (ev e x)) true) else none, fun s => .pointer (some ⟨s, 0, none⟩), fun X s h K => ?_, fun ob hob => ?_⟩
    · simp only [opW, aBox, newW]
      split <;> rename_i hh <;> simp [hh]
    · split at hob <;> simp at hob
      subst hob; simp
  | buildSlice t n ps =>
    refine ⟨(pBuildSlice P t n (evParts e ps.toList)).map fun c => .row c true, fun s => .slice (some ⟨s, 0, none⟩) n n, fun X s h K => ?_, fun ob hob => ?_⟩
    · simp only [opW, aBuildSlice, newW]
      cases pBuildSlice P t n (evParts e ps.toList) <;> simp
    · cases h : pBuildSlice P t n (evParts e ps.toList) <;> rw [h] at hob <;> simp at hob
      subst hob; simp
  | makeMap t r =>
    cases r with
    | none => exact ⟨some (.map [] 0), fun s => .map (some s), fun X s h K => by simp [opW, aMakeMap, newW], fun ob hob => by cases hob; simp⟩
    | some r => exact ⟨none, fun _ => undef, fun X s h K => by simp [opW], fun ob hob => by cases hob⟩
  | makeSlice t l c =>
    refine ⟨(pMakeSlice P t (ev e l) (ev e c)).map fun r => .row r.2.2 true, fun s => match pMakeSlice P t (ev e l) (ev e c) with | some r => .slice (some ⟨s, 0, none⟩) r.1 r.2.1 | none => undef, fun X s h K => ?_, fun ob hob => ?_⟩
    · simp only [opW, aMakeSlice, newW]
      cases pMakeSlice P t (ev e l) (ev e c) <;> simp
    · cases h : pMakeSlice P t (ev e l) (ev e c) <;> rw [h] at hob <;> simp at hob
      subst hob; simp
  | convert s d x =>
    simp only at hc
    split at hc
    · rename_i el h1 h2
      by_cases h3 : ∃ b, P.underlying el = some (.int .u8) ∧ ev e x = .string b
      · obtain ⟨b, h3, h4⟩ := h3
        refine ⟨if b.size < room40 then some (.row (bytesL b) false) else none, fun s => .slice (some ⟨s, 0, none⟩) b.size (openCap + 1), fun X s h K => ?_, fun ob hob => ?_⟩
        · simp only [opW, convW, h1, h2, h3, h4, aStrBytes, newW]
          split <;> rename_i hh <;> simp [hh]
        · split at hob <;> simp at hob
          subst hob; simp
      · refine ⟨none, fun _ => undef, fun X s h K => ?_, fun ob hob => by cases hob⟩
        simp only [opW, convW, h1, h2, optW_none, iff_false]
        split
        · rename_i b h4 h5; exact fun _ => h3 ⟨b, h4, h5⟩
        · simp
    · cases hc
    · cases hc
    · cases hc
  | call c =>
    obtain ⟨callee, args, argTypes⟩ := c
    simp only at hc
    split at hc
    · split at hc
      · split at hc <;> cases hc
      · cases hc
    all_goals cases hc
  | _ => first | cases hc | (dsimp only at hc; split at hc <;> cases hc)
end Go.AM
end

section
/- The abstract machine: two neighbours of a region that are held to no order may change places. Conditions: none. -/
namespace Go.AM
open Go
set_option linter.unusedSimpArgs false
set_option linter.unusedVariables false
variable {P : Program}
theorem set_undo {h h' : AH} {s id : Nat} {ob q : AObj} (hd : h[s]? = some .dead) (hne : s ≠ id) : (h.set s ob).set id q = (h.set id q).set s ob ∧ (h.set id q)[s]? = some .dead :=
  ⟨List.set_comm _ _ hne, by rw [getElem?_set_other (Ne.symm hne), hd]⟩
theorem ne_of_touch {h : AH} {s x : Nat} {ob : AObj} (hd : h[s]? = some .dead) (ho : ob ≠ .dead) (hx : h[x]? = (h.set s ob)[x]?) : s ≠ x := by
  intro e
  subst e
  have hlt := (List.getElem?_eq_some_iff.1 hd).1
  rw [getElem?_set_same hlt, hd] at hx
  exact ho (Option.some.inj hx).symm
structure EffSpec (P : Program) (o : Oper) (e : Env) (so : AH → Option AH) : Prop where
  iff : ∀ X slot h K, opW P X slot o e h K ↔ optW (so h) (fun h' => K undef h')
  unfr : ∀ h s ob h'', h[s]? = some .dead → ob ≠ .dead → (∀ x ∈ touch P o e, vw x h = vw x (h.set s ob)) → so (h.set s ob) = some h'' → ∃ h', so h = some h' ∧ h'' = h'.set s ob ∧ h'[s]? = some .dead
theorem eff_spec {o : Oper} (hc : clOf P o = .eff) (e : Env) : ∃ so, EffSpec P o e so := by
  obtain ⟨dst, op, ty, pos, after, guard⟩ := o
  unfold clOf at hc
  cases op with
  | store t x v =>
    refine ⟨fun h => stOf P t (ev e x) (ev e v) h, fun _ _ _ _ => Iff.rfl, ?_⟩
    intro h s ob h'' hd ho ht hst
    simp only [touch] at ht
    try simp only at hst
    unfold stOf pStore at hst ⊢
    split at hst
    · rename_i i hi
      split at hst
      · rename_i hcond
        try simp only [hi, hcond]
        unfold stRow at hst ⊢
        split at hst
        · rename_i id off hx
          try simp only [hx]
          have hne := ne_of_touch hd ho (show h[id]? = (h.set s ob)[id]? from ht (.obj id) (by simp [obOf, idOf, hx]))
          rw [getElem?_set_other hne] at hst
          split at hst
          · rename_i c hrow
            split at hst
            · rename_i hle
              obtain rfl := Option.some.inj hst
              obtain ⟨e1, e2⟩ := set_undo (h' := h) (ob := ob) (q := .row (spliceL c off (cellsL (ev e v))) true) hd hne
              exact ⟨_, by simp [hrow, hle], e1, e2⟩
            · cases hst
          · cases hst
        · cases hst
      · cases hst
    · cases hst
  | mapUpdate t m k v =>
    have hk : ptrKeyT P t = false := by
      dsimp only at hc
      cases hk : ptrKeyT P t with
      | true => rw [hk] at hc; cases hc
      | false => rfl
    refine ⟨fun h => pMapUpd P t (ev e m) (ev e k) (ev e v) h, fun X slot h K => by simp only [opW, pMapU, hk], ?_⟩
    intro h s ob h'' hd ho ht hst
    simp only [touch] at ht
    try simp only at hst
    unfold pMapUpd at hst ⊢
    split at hst
    · rename_i kt et id hu hx
      have hne := ne_of_touch hd ho (show h[id]? = (h.set s ob)[id]? from ht (.obj id) (by simp [obOf, idOf, hx]))
      try simp only [hu, hx]
      rw [getElem?_set_other hne] at hst
      split at hst
      · rename_i es ck hrow
        split at hst
        · rename_i hk
          try simp only [hrow, hk]
          split at hst
          · rename_i i v0 hf
            obtain rfl := Option.some.inj hst
            obtain ⟨e1, e2⟩ := set_undo (h' := h) (ob := ob) (q := .map (es.modify i fun en => (en.1, ev e v, en.2.2)) ck) hd hne
            exact ⟨_, by simp [hf], e1, e2⟩
          · rename_i hf
            obtain rfl := Option.some.inj hst
            obtain ⟨e1, e2⟩ := set_undo (h' := h) (ob := ob) (q := .map (es ++ [(ev e k, ev e v, ck)]) (ck + 1)) hd hne
            exact ⟨_, by simp [hf], e1, e2⟩
          · cases hst
        · cases hst
      · cases hst
    · cases hst
  | convert s d x =>
    simp only at hc
    split at hc <;> cases hc
  | call c =>
    obtain ⟨callee, args, argTypes⟩ := c
    simp only at hc
    split at hc
    · split at hc
      · split at hc <;> cases hc
      · cases hc
    all_goals cases hc
  | _ => first | cases hc | (dsimp only at hc; split at hc <;> cases hc)
def HLe (H H' : HT) : Prop := ∀ y' ∈ H', ∃ y ∈ H, y.1 = y'.1 ∧ ∀ x : Loc, vw x y.2.1 = vw x y.2.2 → vw x y'.2.1 = vw x y'.2.2
def SLe (S S' : ST) : Prop := ∀ y ∈ S', y ∈ S
theorem HLe.refl (H : HT) : HLe H H := fun y hy => ⟨y, hy, rfl, fun _ h => h⟩
theorem HLe.cons {H H' : HT} {y y' : Nat × AH × AH} (h : HLe H H') (h1 : y.1 = y'.1) (h2 : ∀ x : Loc, vw x y.2.1 = vw x y.2.2 → vw x y'.2.1 = vw x y'.2.2) : HLe (y :: H) (y' :: H') := by
  intro z hz
  rcases List.mem_cons.1 hz with rfl | hz
  · exact ⟨y, by simp, h1, h2⟩
  · obtain ⟨w, hw, e1, e2⟩ := h z hz
    exact ⟨w, List.mem_cons_of_mem _ hw, e1, e2⟩
theorem SLe.refl (S : ST) : SLe S S := fun _ h => h
theorem SLe.cons {S S' : ST} {y : Nat × List Loc} (h : SLe S S') : SLe (y :: S) (y :: S') := by
  intro z hz
  rcases List.mem_cons.1 hz with rfl | hz
  · simp
  · exact List.mem_cons_of_mem _ (h z hz)
theorem histC_le {b : Array Nat} {j : Nat} {xs : List Loc} {H H' : HT} {K K' : Prop} (hH : HLe H H') (hK : K → K') (h : histC b j xs H K) : histC b j xs H' K' := by
  rw [histC_iff] at h ⊢
  refine ⟨fun y' hy' hc x hx => ?_, hK h.2⟩
  obtain ⟨y, hy, e1, e2⟩ := hH y' hy'
  exact e2 x (h.1 y hy (by rw [e1]; exact hc) x hx)
theorem readC_le {b : Array Nat} {j : Nat} {hb ha : AH} {S S' : ST} {K K' : Prop} (hS : SLe S S') (hK : K → K') (h : readC b j hb ha S K) : readC b j hb ha S' K' := by
  rw [readC_iff] at h ⊢
  exact ⟨fun y hy => h.1 y (hS y hy), hK h.2⟩
theorem textD_le {X : CallT} (hm : XMono X X) {ops : Array Oper} {b : Array Nat} {sl : List (Option Nat)} {Q : Env → AH → Prop} : ∀ (l : List Nat) {H H' : HT} {S S' : ST} {e : Env} {h : AH}, HLe H H' → SLe S S' → textD P X ops b sl l H S e h Q → textD P X ops b sl l H' S' e h Q
  | [], _, _, _, _, e, h, _, _, hk => hk
  | i :: l, H, H', S, S', e, h, hH, hS, hk => by
    simp only [textD] at hk ⊢
    cases ho : ops[i]? with
    | none => rw [ho] at hk; exact hk.elim
    | some o =>
      rw [ho] at hk
      simp only at hk ⊢
      cases hg : gval ops o e with
      | false => rw [hg] at hk; simp only [gopD] at hk ⊢; exact textD_le hm l hH hS hk
      | true =>
        rw [hg] at hk
        simp only [gopD] at hk ⊢
        unfold opD at hk ⊢
        split at hk
        · exact opW_mono hm (fun v h' => textD_le hm l hH hS) hk
        · exact histC_le hH (opW_mono hm fun v h' => textD_le hm l hH hS.cons) hk
        · exact opW_mono hm (fun v h' => textD_le hm l (hH.cons rfl fun _ h => h) hS) hk
        · exact histC_le hH (opW_mono hm fun v h' => readC_le hS (textD_le hm l (hH.cons rfl fun _ h => h) hS)) hk
        · exact opW_mono hm (fun v h' => readC_le hS (textD_le hm l (hH.cons rfl fun _ h => h) hS)) hk
        · exact hk.elim
theorem opD_same {X : CallT} {b : Array Nat} {sl : List (Option Nat)} {i : Nat} {o : Oper} {H : HT} {S : ST} {e e' : Env} {h : AH} {K : Value → AH → HT → ST → Prop} (hs : Same o e e') (hk : opD P X b sl i o H S e h K) : opD P X b sl i o H S e' h K := by
  unfold opD at hk ⊢
  rw [← touch_same hs]
  split at hk
  · exact opW_same hs hk
  · rw [histC_iff] at hk ⊢; exact ⟨hk.1, opW_same hs hk.2⟩
  · exact opW_same hs hk
  · rw [histC_iff] at hk ⊢; exact ⟨hk.1, opW_same hs hk.2⟩
  · exact opW_same hs hk
  · exact hk
end Go.AM
end

section
/- The abstract machine: two neighbours of a region change places. Conditions: none. -/
namespace Go.AM
open Go
set_option linter.unusedSimpArgs false
set_option linter.unusedVariables false
variable {P : Program}
theorem opndT_same {e e' : Env} {x : Operand} (h : ∀ t ∈ opndT x, e t = e' t) : ev e x = ev e' x := by
  cases x with
  | tmp t => exact h t (by simp [opndT])
  | _ => rfl
theorem same_of_disj {ops : Array Oper} {o : Oper} {e : Env} {d : Option Nat} {v : Value} (hd : disj d.toList (readsT ops o) = true) : Same o e (putE e d v) ∧ gval ops o (putE e d v) = gval ops o e := by
  have hne : ∀ t ∈ readsT ops o, putE e d v t = e t := by
    intro t ht
    cases d with
    | none => rfl
    | some q =>
      have : q ≠ t := by
        intro e; subst e
        unfold disj at hd
        simp at hd
        exact hd ht
      show cond (Nat.beq t q) v (e t) = e t
      cases hb : Nat.beq t q with
      | false => rfl
      | true => exact absurd (Nat.eq_of_beq_eq_true hb).symm this
  constructor
  · intro x hx
    refine opndT_same fun t ht => (hne t ?_).symm
    unfold readsT
    exact List.mem_append_left _ (List.mem_flatMap.2 ⟨x, hx, ht⟩)
  · unfold gval
    cases hg : o.guard with
    | none => rfl
    | some jw =>
      obtain ⟨j, want⟩ := jw
      simp only
      cases hj : (ops[j]?).bind (·.dst) with
      | none => rfl
      | some t =>
        simp only
        rw [hne t (by unfold readsT; rw [hg]; simp only [hj]; simp)]
theorem put_comm {e : Env} {d d' : Option Nat} {u v : Value} (hd : disj d.toList d'.toList = true) : putE (putE e d u) d' v = putE (putE e d' v) d u := by
  cases d with
  | none => rfl
  | some a =>
    cases d' with
    | none => rfl
    | some b =>
      have hne : a ≠ b := by
        intro e; subst e
        simp [disj] at hd
      funext i
      simp only [putE, Env.set]
      cases h1 : Nat.beq i b with
      | false => rfl
      | true =>
        cases h2 : Nat.beq i a with
        | false => rfl
        | true => exact absurd ((Nat.eq_of_beq_eq_true h2).symm.trans (Nat.eq_of_beq_eq_true h1)) hne
def Kept (P : Program) (ops : Array Oper) (sl : List (Option Nat)) (l : List Nat) (h : AH) : Prop :=
  ∀ i ∈ l, ∀ o, ops[i]? = some o → clOf P o = .al → ∃ s, slotAt sl i = some s ∧ h[s]? = some .dead
variable {X : CallT} {ops : Array Oper} {b : Array Nat} {sl : List (Option Nat)} {Q : Env → AH → Prop}
theorem textD_cons {i : Nat} {l : List Nat} {o : Oper} (ho : ops[i]? = some o) {H : HT} {S : ST} {e : Env} {h : AH} :
    textD P X ops b sl (i :: l) H S e h Q = gopD (gval ops o e) (opD P X b sl i o H S e h) h H S fun v h' H' S' => textD P X ops b sl l H' S' (putE e o.dst v) h' Q := by
  simp only [textD, ho]
theorem ec_iff {i : Nat} {o : Oper} (hc : clOf P o = .eff ∨ clOf P o = .call) {H : HT} {S : ST} {e : Env} {h : AH} {K : Value → AH → HT → ST → Prop} :
    opD P X b sl i o H S e h K ↔ (clOf P o = .eff → ∀ y ∈ H, (free b y.1 i && Nat.blt y.1 i) = true → ∀ x ∈ touch P o e, vw x y.2.1 = vw x y.2.2) ∧
      opW P X none o e h fun v h' => (∀ y ∈ S, (free b y.1 i && Nat.blt y.1 i) = true → ∀ x ∈ y.2, vw x h = vw x h') ∧ K v h' ((i, h, h') :: H) S := by
  rcases hc with hc | hc <;> simp only [opD, hc, histC_iff, readC_iff]
  · constructor
    · rintro ⟨h1, h2⟩; exact ⟨fun _ => h1, h2⟩
    · rintro ⟨h1, h2⟩; exact ⟨h1 trivial, h2⟩
  · constructor
    · intro h2; exact ⟨fun hh => (by cases hh), h2⟩
    · rintro ⟨_, h2⟩; exact h2
theorem rd_iff {i : Nat} {o : Oper} {e : Env} {ov : AH → Option Value} (hc : clOf P o = .rd) (hr : RdSpec P o e ov) (H : HT) (S : ST) (h : AH) (K : Value → AH → HT → ST → Prop) :
    opD P X b sl i o H S e h K ↔ (∀ y ∈ H, (free b y.1 i && Nat.blt y.1 i) = true → ∀ x ∈ touch P o e, vw x y.2.1 = vw x y.2.2) ∧ optW (ov h) (fun v => K v h H ((i, touch P o e) :: S)) := by
  simp only [opD, hc, histC_iff, hr.iff]
theorem al_iff {i s : Nat} {o : Oper} {e : Env} {oo : Option AObj} {pt : Nat → Value} (hc : clOf P o = .al) (hs : slotAt sl i = some s) (hr : AlSpec P o e oo pt) (H : HT) (S : ST) (h : AH) (K : Value → AH → HT → ST → Prop) :
    opD P X b sl i o H S e h K ↔ optW oo (fun ob => K (pt s) (h.set s ob) ((i, h, h.set s ob) :: H) S) := by
  simp only [opD, hc, hs, hr.iff]
theorem swap {k i : Nat} {l : List Nat} {ok oi : Oper} (hX : XFrame X) (hm : XMono X X) (hst : XStrict X) (hok : ops[k]? = some ok) (hoi : ops[i]? = some oi) (hki : k < i) (hfr : free b k i = true) (hmay : mayFloat P ops ok oi = true)
    {H : HT} {S : ST} {e : Env} {h : AH} (hkept : Kept P ops sl [k, i] h) (hslots : ∀ s, slotAt sl k = some s → slotAt sl i ≠ some s) (ht : textD P X ops b sl (k :: i :: l) H S e h Q) : textD P X ops b sl (i :: k :: l) H S e h Q := by
  unfold mayFloat at hmay
  simp only [Bool.and_eq_true] at hmay
  obtain ⟨⟨⟨m1, m2⟩, m3⟩, m4⟩ := hmay
  have hnik : Nat.blt i k = false := by
    cases hb : Nat.blt i k with
    | false => rfl
    | true => have := Nat.le_of_ble_eq_true hb; omega
  have hbki : Nat.blt k i = true := Nat.ble_eq_true_of_le hki
  have sk : ∀ (e : Env) (v : Value), Same ok e (putE e oi.dst v) ∧ gval ops ok (putE e oi.dst v) = gval ops ok e := fun e v => same_of_disj m2
  have si : ∀ (e : Env) (u : Value), Same oi e (putE e ok.dst u) ∧ gval ops oi (putE e ok.dst u) = gval ops oi e := fun e u => same_of_disj m1
  have pc : ∀ (e : Env) (u v : Value), putE (putE e ok.dst u) oi.dst v = putE (putE e oi.dst v) ok.dst u := fun e u v => put_comm m3
  have back : ∀ {e : Env} {v : Value}, Same ok (putE e oi.dst v) e := fun x hx => ((sk _ _).1 x hx).symm
  have backi : ∀ {e : Env} {u : Value}, Same oi (putE e ok.dst u) e := fun x hx => ((si _ _).1 x hx).symm
  rw [textD_cons hok] at ht
  rw [textD_cons hoi]
  cases hgk : gval ops ok e with
  | false =>
    rw [hgk] at ht
    simp only [gopD] at ht
    rw [textD_cons hoi, (si e undef).2] at ht
    cases hgi : gval ops oi e with
    | false =>
      rw [hgi] at ht
      simp only [gopD] at ht ⊢
      rw [textD_cons hok, (sk e undef).2, hgk]
      simp only [gopD]
      rw [← pc]
      exact ht
    | true =>
      rw [hgi] at ht
      simp only [gopD] at ht ⊢
      refine opD_mono hm (fun v h' H' S' hh => ?_) (opD_same backi ht)
      rw [textD_cons hok, (sk e v).2, hgk]
      simp only [gopD]
      rw [← pc]
      exact hh
  | true =>
    rw [hgk] at ht
    simp only [gopD] at ht
    have ht : opD P X b sl k ok H S e h fun u h1 H1 S1 => gopD (gval ops oi e) (opD P X b sl i oi H1 S1 (putE e ok.dst u) h1) h1 H1 S1 fun v h2 H2 S2 => textD P X ops b sl l H2 S2 (putE (putE e ok.dst u) oi.dst v) h2 Q :=
      opD_mono hm (fun u h1 H1 S1 hh => by rw [textD_cons hoi, (si e u).2] at hh; exact hh) ht
    cases hgi : gval ops oi e with
    | false =>
      rw [hgi] at ht
      simp only [gopD] at ht ⊢
      rw [textD_cons hok, (sk e undef).2, hgk]
      simp only [gopD]
      refine opD_mono hm (fun u h' H' S' hh => ?_) (opD_same (sk e undef).1 ht)
      rw [← pc]
      exact hh
    | true =>
      rw [hgi] at ht
      simp only [gopD] at ht ⊢
      have goal : opD P X b sl i oi H S e h (fun v h1 H1 S1 => opD P X b sl k ok H1 S1 (putE e oi.dst v) h1 fun u h2 H2 S2 => textD P X ops b sl l H2 S2 (putE (putE e ok.dst u) oi.dst v) h2 Q) →
          opD P X b sl i oi H S e h fun v h' H' S' => textD P X ops b sl (k :: l) H' S' (putE e oi.dst v) h' Q := by
        refine opD_mono hm fun v h1 H1 S1 hh => ?_
        rw [textD_cons hok, (sk e v).2, hgk]
        simp only [gopD]
        exact opD_mono hm (fun u h2 H2 S2 hh => by rw [← pc]; exact hh) hh
      apply goal
      clear goal
      have ht : opD P X b sl k ok H S e h fun u h1 H1 S1 => opD P X b sl i oi H1 S1 e h1 fun v h2 H2 S2 => textD P X ops b sl l H2 S2 (putE (putE e ok.dst u) oi.dst v) h2 Q :=
        opD_mono hm (fun u h1 H1 S1 hh => opD_same backi hh) ht
      suffices hs : opD P X b sl i oi H S e h (fun v h1 H1 S1 => opD P X b sl k ok H1 S1 e h1 fun u h2 H2 S2 => textD P X ops b sl l H2 S2 (putE (putE e ok.dst u) oi.dst v) h2 Q) from
        opD_mono hm (fun v h1 H1 S1 hh => opD_same (sk e v).1 hh) hs
      have hkk : Nat → clOf P ok = .al → ∃ s, slotAt sl k = some s ∧ h[s]? = some .dead := fun _ hc => hkept k (by simp) ok hok hc
      have hki' : clOf P oi = .al → ∃ s, slotAt sl i = some s ∧ h[s]? = some .dead := fun hc => hkept i (by simp) oi hoi hc
      by_cases hpk : clOf P ok = .pure
      · obtain ⟨ov, hov⟩ := pure_spec hpk e
        have hik : ∀ (H : HT) (S : ST) (h : AH) (K : Value → AH → HT → ST → Prop), opD P X b sl k ok H S e h K ↔ optW ov (fun u => K u h H S) := fun H S h K => by simp only [opD, hpk, hov]
        obtain ⟨u, hu, ht⟩ := optW_elim ((hik _ _ _ _).1 ht)
        exact opD_mono hm (fun v h1 H1 S1 hh => (hik _ _ _ _).2 (by rw [hu]; exact hh)) ht
      cases hci : clOf P oi with
      | pure =>
        obtain ⟨ov, hov⟩ := pure_spec hci e
        have hii : ∀ (H : HT) (S : ST) (h : AH) (K : Value → AH → HT → ST → Prop), opD P X b sl i oi H S e h K ↔ optW ov (fun u => K u h H S) := fun H S h K => by simp only [opD, hci, hov]
        have ht := opD_mono hm (fun u h1 H1 S1 hh => (hii _ _ _ _).1 hh) ht
        obtain ⟨_, _, _, _, h2⟩ := opD_strict hst ht
        obtain ⟨v, hv, _⟩ := optW_elim h2
        subst hv
        exact (hii _ _ _ _).2 ht
      | bad =>
        obtain ⟨_, _, _, _, h2⟩ := opD_strict hst ht
        simp only [opD, hci] at h2
      | rd =>
        cases hck : clOf P ok with
        | pure => exact absurd hck hpk
        | bad => simp only [opD, hck] at ht
        | rd =>
          obtain ⟨ovk, hk⟩ := rd_spec hck e
          obtain ⟨ovi, hi⟩ := rd_spec hci e
          simp only [opD, hck, hci, histC_iff, hk.iff, hi.iff] at ht ⊢
          obtain ⟨c1, ht⟩ := ht
          obtain ⟨u, hu, c2, ht⟩ := optW_elim ht
          obtain ⟨v, hv, ht⟩ := optW_elim ht
          refine ⟨c2, ?_⟩
          rw [hv]
          refine ⟨c1, ?_⟩
          rw [hu]
          refine textD_le hm l (HLe.refl _) (fun y hy => ?_) ht
          rcases List.mem_cons.1 hy with rfl | hy
          · simp
          · rcases List.mem_cons.1 hy with rfl | hy
            · simp
            · simp [hy]
        | al =>
          obtain ⟨oo, pt, hal⟩ := al_spec hck e
          obtain ⟨ovi, hi⟩ := rd_spec hci e
          obtain ⟨s, hs, hd⟩ := hkk 0 hck
          simp only [opD, hck, hci, histC_iff, hs, hal.iff, hi.iff] at ht ⊢
          obtain ⟨ob, hob, ht⟩ := optW_elim ht
          obtain ⟨c2, ht⟩ := ht
          obtain ⟨v, hv, ht⟩ := optW_elim ht
          have heq := hi.loc h (h.set s ob) (fun x hx => c2 (k, h, h.set s ob) (by simp) (by simp [hfr, hbki]) x hx)
          refine ⟨fun y hy => c2 y (List.mem_cons_of_mem _ hy), ?_⟩
          rw [heq, hv, hob]
          exact ht
        | eff =>
          obtain ⟨ovi, hi⟩ := rd_spec hci e
          rw [ec_iff (.inl hck)] at ht
          obtain ⟨c1, ht⟩ := ht
          simp only [rd_iff hci hi] at ht ⊢
          obtain ⟨_, h1, _, c2, h2⟩ := opW_strict hst ht
          obtain ⟨v, hv, _⟩ := optW_elim h2
          have heq := hi.loc h h1 (fun x hx => c2 (k, h, h1) (by simp) (by simp [hfr, hbki]) x hx)
          refine ⟨fun y hy => c2 y (List.mem_cons_of_mem _ hy), ?_⟩
          rw [heq, hv]
          rw [optW_some, ec_iff (.inl hck)]
          refine ⟨c1, opW_mono hm (fun u h1' hh => ?_) ht⟩
          obtain ⟨d1, c2', h2'⟩ := hh
          have heq' := hi.loc h h1' (fun x hx => c2' (k, h, h1') (by simp) (by simp [hfr, hbki]) x hx)
          rw [← heq', heq, hv] at h2'
          refine ⟨fun y hy hc => ?_, h2'⟩
          rcases List.mem_cons.1 hy with rfl | hy
          · simp [hnik] at hc
          · exact d1 y hy hc
        | call =>
          obtain ⟨ovi, hi⟩ := rd_spec hci e
          rw [ec_iff (.inr hck)] at ht
          obtain ⟨c1, ht⟩ := ht
          simp only [rd_iff hci hi] at ht ⊢
          obtain ⟨_, h1, _, c2, h2⟩ := opW_strict hst ht
          obtain ⟨v, hv, _⟩ := optW_elim h2
          have heq := hi.loc h h1 (fun x hx => c2 (k, h, h1) (by simp) (by simp [hfr, hbki]) x hx)
          refine ⟨fun y hy => c2 y (List.mem_cons_of_mem _ hy), ?_⟩
          rw [heq, hv]
          rw [optW_some, ec_iff (.inr hck)]
          refine ⟨c1, opW_mono hm (fun u h1' hh => ?_) ht⟩
          obtain ⟨d1, c2', h2'⟩ := hh
          have heq' := hi.loc h h1' (fun x hx => c2' (k, h, h1') (by simp) (by simp [hfr, hbki]) x hx)
          rw [← heq', heq, hv] at h2'
          refine ⟨fun y hy hc => ?_, h2'⟩
          rcases List.mem_cons.1 hy with rfl | hy
          · simp [hnik] at hc
          · exact d1 y hy hc
      | al =>
        obtain ⟨s, hs, hd⟩ := hki' hci
        obtain ⟨oo, pt, hal⟩ := al_spec hci e
        have hlt := (List.getElem?_eq_some_iff.1 hd).1
        cases hck : clOf P ok with
        | pure => exact absurd hck hpk
        | bad => simp only [opD, hck] at ht
        | rd =>
          obtain ⟨ovk, hk⟩ := rd_spec hck e
          simp only [opD, hck, hci, histC_iff, hs, hal.iff, hk.iff] at ht ⊢
          obtain ⟨c1, ht⟩ := ht
          obtain ⟨u, hu, ht⟩ := optW_elim ht
          obtain ⟨ob, hob, ht⟩ := optW_elim ht
          have heq := hk.loc h (h.set s ob) (fun x hx => by
            obtain ⟨q, hq, hqd⟩ := hk.live h u hu x hx
            exact vw_eq (by rw [get_fill hd hq hqd, hq]))
          rw [hob]
          refine ⟨fun y hy hc => ?_, ?_⟩
          · rcases List.mem_cons.1 hy with rfl | hy
            · simp [hnik] at hc
            · exact c1 y hy hc
          · rw [← heq, hu]
            exact ht
        | al =>
          obtain ⟨s', hs', hd'⟩ := hkk 0 hck
          obtain ⟨oo', pt', hal'⟩ := al_spec hck e
          have hne : s' ≠ s := fun e => hslots s' hs' (by rw [hs, e])
          simp only [opD, hck, hci, hs, hs', hal.iff, hal'.iff] at ht ⊢
          obtain ⟨ob', hob', ht⟩ := optW_elim ht
          obtain ⟨ob, hob, ht⟩ := optW_elim ht
          rw [hob, hob']
          simp only [optW_some]
          have hcomm : (h.set s' ob').set s ob = (h.set s ob).set s' ob' := List.set_comm _ _ hne
          rw [hcomm] at ht
          refine textD_le hm l ?_ (SLe.refl _) ht
          intro y' hy'
          rcases List.mem_cons.1 hy' with rfl | hy'
          · refine ⟨(k, h, h.set s' ob'), by simp, rfl, fun x hx => ?_⟩
            simp only at hx ⊢
            rw [← hcomm]
            exact vw_same_len (by simp) hx
          · rcases List.mem_cons.1 hy' with rfl | hy'
            · refine ⟨(i, h.set s' ob', (h.set s ob).set s' ob'), by simp, rfl, fun x hx => ?_⟩
              simp only at hx ⊢
              by_cases ex : s = x.id
              · have ne : s' ≠ x.id := by rw [← ex]; exact hne
                rw [vw_other ne, vw_other ne] at hx
                exact hx
              · rw [vw_other ex]
            · exact ⟨y', by simp [hy'], rfl, fun _ h => h⟩
        | eff =>
          rw [ec_iff (.inl hck)] at ht
          obtain ⟨c1, ht⟩ := ht
          simp only [al_iff hci hs hal] at ht ⊢
          obtain ⟨_, _, _, h2⟩ := opW_strict hst ht
          obtain ⟨ob, hob, _⟩ := optW_elim h2
          subst hob
          rw [optW_some, ec_iff (.inl hck)]
          refine ⟨fun hc y hy hcc => ?_, opW_mono hm (fun u h1' hh => ?_) (opW_fr (ob := ob) hX hm hd (by simp) ht)⟩
          · rcases List.mem_cons.1 hy with rfl | hy
            · simp [hnik] at hcc
            · exact c1 hc y hy hcc
          · obtain ⟨h1, rfl, hd1, d1, ht1⟩ := hh
            have hlt1 := (List.getElem?_eq_some_iff.1 hd1).1
            refine ⟨fun y hy hc x hx => vw_same hlt hlt1 (d1 y hy hc x hx), ?_⟩
            rw [optW_some] at ht1
            refine textD_le hm l ?_ (SLe.refl _) ht1
            intro y' hy'
            rcases List.mem_cons.1 hy' with rfl | hy'
            · exact ⟨(k, h, h1), by simp, rfl, fun x hx => vw_same hlt hlt1 hx⟩
            · rcases List.mem_cons.1 hy' with rfl | hy'
              · refine ⟨(i, h1, h1.set s ob), by simp, rfl, fun x hx => ?_⟩
                exact vw_fill hd hd1 hx
              · exact ⟨y', by simp [hy'], rfl, fun _ h => h⟩
        | call =>
          rw [ec_iff (.inr hck)] at ht
          obtain ⟨c1, ht⟩ := ht
          simp only [al_iff hci hs hal] at ht ⊢
          obtain ⟨_, _, _, h2⟩ := opW_strict hst ht
          obtain ⟨ob, hob, _⟩ := optW_elim h2
          subst hob
          rw [optW_some, ec_iff (.inr hck)]
          refine ⟨fun hc y hy hcc => ?_, opW_mono hm (fun u h1' hh => ?_) (opW_fr (ob := ob) hX hm hd (by simp) ht)⟩
          · rcases List.mem_cons.1 hy with rfl | hy
            · simp [hnik] at hcc
            · exact c1 hc y hy hcc
          · obtain ⟨h1, rfl, hd1, d1, ht1⟩ := hh
            have hlt1 := (List.getElem?_eq_some_iff.1 hd1).1
            refine ⟨fun y hy hc x hx => vw_same hlt hlt1 (d1 y hy hc x hx), ?_⟩
            rw [optW_some] at ht1
            refine textD_le hm l ?_ (SLe.refl _) ht1
            intro y' hy'
            rcases List.mem_cons.1 hy' with rfl | hy'
            · exact ⟨(k, h, h1), by simp, rfl, fun x hx => vw_same hlt hlt1 hx⟩
            · rcases List.mem_cons.1 hy' with rfl | hy'
              · refine ⟨(i, h1, h1.set s ob), by simp, rfl, fun x hx => ?_⟩
                exact vw_fill hd hd1 hx
              · exact ⟨y', by simp [hy'], rfl, fun _ h => h⟩
      | eff =>
        cases hck : clOf P ok with
        | pure => exact absurd hck hpk
        | bad => simp only [opD, hck] at ht
        | rd =>
          obtain ⟨ovk, hk⟩ := rd_spec hck e
          simp only [rd_iff hck hk] at ht ⊢
          obtain ⟨c1, ht⟩ := ht
          obtain ⟨u, hu, ht⟩ := optW_elim ht
          rw [ec_iff (.inl hci)] at ht ⊢
          obtain ⟨c2, ht⟩ := ht
          refine ⟨c2, opW_mono hm (fun v h1 hh => ?_) ht⟩
          obtain ⟨d1, ht1⟩ := hh
          have heq := hk.loc h h1 (fun x hx => d1 (k, touch P ok e) (by simp) (by simp [hfr, hbki]) x hx)
          refine ⟨fun y hy => d1 y (List.mem_cons_of_mem _ hy), fun y hy hc => ?_, ?_⟩
          · rcases List.mem_cons.1 hy with rfl | hy
            · simp [hnik] at hc
            · exact c1 y hy hc
          · rw [← heq, hu]
            exact ht1
        | al =>
          obtain ⟨s, hs, hd⟩ := hkk 0 hck
          obtain ⟨oo, pt, hal⟩ := al_spec hck e
          obtain ⟨so, heff⟩ := eff_spec hci e
          simp only [opD, hck, hci, hs, hal.iff, heff.iff, histC_iff, readC_iff] at ht ⊢
          obtain ⟨ob, hob, c2, ht⟩ := optW_elim ht
          obtain ⟨h2, hh2, d2, ht⟩ := optW_elim ht
          obtain ⟨h', hso, rfl, hd'⟩ := heff.unfr h s ob h2 hd (hal.live ob hob) (fun x hx => c2 (k, h, h.set s ob) (by simp) (by simp [hfr, hbki]) x hx) hh2
          rw [hso, hob]
          refine ⟨fun y hy => c2 y (List.mem_cons_of_mem _ hy), ?_⟩
          have hun : ∀ x : Loc, vw x (h.set s ob) = vw x (h'.set s ob) → vw x h = vw x h' := by
            intro x hx
            by_cases ex : s = x.id
            · exact vw_eq (by rw [← ex, hd, hd'])
            · rwa [vw_other ex, vw_other ex] at hx
          refine ⟨fun y hy hc x hx => hun x (d2 y hy hc x hx), ?_⟩
          rw [optW_some]
          refine textD_le hm l ?_ (SLe.refl _) ht
          intro y' hy'
          rcases List.mem_cons.1 hy' with rfl | hy'
          · refine ⟨(k, h, h.set s ob), by simp, rfl, fun x hx => ?_⟩
            exact vw_fill hd' hd hx
          · rcases List.mem_cons.1 hy' with rfl | hy'
            · exact ⟨(i, h.set s ob, h'.set s ob), by simp, rfl, fun x hx => hun x hx⟩
            · exact ⟨y', by simp [hy'], rfl, fun _ h => h⟩
        | eff => simp [hck, hci] at m4
        | call => simp [hck, hci] at m4
      | call =>
        cases hck : clOf P ok with
        | pure => exact absurd hck hpk
        | bad => simp only [opD, hck] at ht
        | rd =>
          obtain ⟨ovk, hk⟩ := rd_spec hck e
          simp only [rd_iff hck hk] at ht ⊢
          obtain ⟨c1, ht⟩ := ht
          obtain ⟨u, hu, ht⟩ := optW_elim ht
          rw [ec_iff (.inr hci)] at ht ⊢
          obtain ⟨c2, ht⟩ := ht
          refine ⟨c2, opW_mono hm (fun v h1 hh => ?_) ht⟩
          obtain ⟨d1, ht1⟩ := hh
          have heq := hk.loc h h1 (fun x hx => d1 (k, touch P ok e) (by simp) (by simp [hfr, hbki]) x hx)
          refine ⟨fun y hy => d1 y (List.mem_cons_of_mem _ hy), fun y hy hc => ?_, ?_⟩
          · rcases List.mem_cons.1 hy with rfl | hy
            · simp [hnik] at hc
            · exact c1 y hy hc
          · rw [← heq, hu]
            exact ht1
        | al => simp [hck, hci] at m4
        | eff => simp [hck, hci] at m4
        | call => simp [hck, hci] at m4
theorem swapI {k i : Nat} {l : List Nat} {ok oi : Oper} (hX : XFrame X) (hm : XMono X X) (hst : XStrict X) (hok : ops[k]? = some ok) (hoi : ops[i]? = some oi) (hki : ¬ k < i) (hci : clOf P oi = .al) (hce : clOf P ok ≠ .eff) (hmay : mayFloat P ops ok oi = true)
    {H : HT} {S : ST} {e : Env} {h : AH} (hkept : Kept P ops sl [k, i] h) (hslots : ∀ s, slotAt sl k = some s → slotAt sl i ≠ some s) (ht : textD P X ops b sl (k :: i :: l) H S e h Q) : textD P X ops b sl (i :: k :: l) H S e h Q := by
  unfold mayFloat at hmay
  simp only [Bool.and_eq_true] at hmay
  obtain ⟨⟨⟨m1, m2⟩, m3⟩, m4⟩ := hmay
  have sk : ∀ (e : Env) (v : Value), Same ok e (putE e oi.dst v) ∧ gval ops ok (putE e oi.dst v) = gval ops ok e := fun e v => same_of_disj m2
  have si : ∀ (e : Env) (u : Value), Same oi e (putE e ok.dst u) ∧ gval ops oi (putE e ok.dst u) = gval ops oi e := fun e u => same_of_disj m1
  have pc : ∀ (e : Env) (u v : Value), putE (putE e ok.dst u) oi.dst v = putE (putE e oi.dst v) ok.dst u := fun e u v => put_comm m3
  have back : ∀ {e : Env} {v : Value}, Same ok (putE e oi.dst v) e := fun x hx => ((sk _ _).1 x hx).symm
  have backi : ∀ {e : Env} {u : Value}, Same oi (putE e ok.dst u) e := fun x hx => ((si _ _).1 x hx).symm
  rw [textD_cons hok] at ht
  rw [textD_cons hoi]
  cases hgk : gval ops ok e with
  | false =>
    rw [hgk] at ht
    simp only [gopD] at ht
    rw [textD_cons hoi, (si e undef).2] at ht
    cases hgi : gval ops oi e with
    | false =>
      rw [hgi] at ht
      simp only [gopD] at ht ⊢
      rw [textD_cons hok, (sk e undef).2, hgk]
      simp only [gopD]
      rw [← pc]
      exact ht
    | true =>
      rw [hgi] at ht
      simp only [gopD] at ht ⊢
      refine opD_mono hm (fun v h' H' S' hh => ?_) (opD_same backi ht)
      rw [textD_cons hok, (sk e v).2, hgk]
      simp only [gopD]
      rw [← pc]
      exact hh
  | true =>
    rw [hgk] at ht
    simp only [gopD] at ht
    have ht : opD P X b sl k ok H S e h fun u h1 H1 S1 => gopD (gval ops oi e) (opD P X b sl i oi H1 S1 (putE e ok.dst u) h1) h1 H1 S1 fun v h2 H2 S2 => textD P X ops b sl l H2 S2 (putE (putE e ok.dst u) oi.dst v) h2 Q :=
      opD_mono hm (fun u h1 H1 S1 hh => by rw [textD_cons hoi, (si e u).2] at hh; exact hh) ht
    cases hgi : gval ops oi e with
    | false =>
      rw [hgi] at ht
      simp only [gopD] at ht ⊢
      rw [textD_cons hok, (sk e undef).2, hgk]
      simp only [gopD]
      refine opD_mono hm (fun u h' H' S' hh => ?_) (opD_same (sk e undef).1 ht)
      rw [← pc]
      exact hh
    | true =>
      rw [hgi] at ht
      simp only [gopD] at ht ⊢
      have goal : opD P X b sl i oi H S e h (fun v h1 H1 S1 => opD P X b sl k ok H1 S1 (putE e oi.dst v) h1 fun u h2 H2 S2 => textD P X ops b sl l H2 S2 (putE (putE e ok.dst u) oi.dst v) h2 Q) →
          opD P X b sl i oi H S e h fun v h' H' S' => textD P X ops b sl (k :: l) H' S' (putE e oi.dst v) h' Q := by
        refine opD_mono hm fun v h1 H1 S1 hh => ?_
        rw [textD_cons hok, (sk e v).2, hgk]
        simp only [gopD]
        exact opD_mono hm (fun u h2 H2 S2 hh => by rw [← pc]; exact hh) hh
      apply goal
      clear goal
      have ht : opD P X b sl k ok H S e h fun u h1 H1 S1 => opD P X b sl i oi H1 S1 e h1 fun v h2 H2 S2 => textD P X ops b sl l H2 S2 (putE (putE e ok.dst u) oi.dst v) h2 Q :=
        opD_mono hm (fun u h1 H1 S1 hh => opD_same backi hh) ht
      suffices hs : opD P X b sl i oi H S e h (fun v h1 H1 S1 => opD P X b sl k ok H1 S1 e h1 fun u h2 H2 S2 => textD P X ops b sl l H2 S2 (putE (putE e ok.dst u) oi.dst v) h2 Q) from
        opD_mono hm (fun v h1 H1 S1 hh => opD_same (sk e v).1 hh) hs
      have hkk : Nat → clOf P ok = .al → ∃ s, slotAt sl k = some s ∧ h[s]? = some .dead := fun _ hc => hkept k (by simp) ok hok hc
      have hki' : clOf P oi = .al → ∃ s, slotAt sl i = some s ∧ h[s]? = some .dead := fun hc => hkept i (by simp) oi hoi hc
      by_cases hpk : clOf P ok = .pure
      · obtain ⟨ov, hov⟩ := pure_spec hpk e
        have hik : ∀ (H : HT) (S : ST) (h : AH) (K : Value → AH → HT → ST → Prop), opD P X b sl k ok H S e h K ↔ optW ov (fun u => K u h H S) := fun H S h K => by simp only [opD, hpk, hov]
        obtain ⟨u, hu, ht⟩ := optW_elim ((hik _ _ _ _).1 ht)
        exact opD_mono hm (fun v h1 H1 S1 hh => (hik _ _ _ _).2 (by rw [hu]; exact hh)) ht
      obtain ⟨s, hs, hd⟩ := hki' hci
      obtain ⟨oo, pt, hal⟩ := al_spec hci e
      have hlt := (List.getElem?_eq_some_iff.1 hd).1
      cases hck : clOf P ok with
      | pure => exact absurd hck hpk
      | bad => simp only [opD, hck] at ht
      | rd =>
        obtain ⟨ovk, hk⟩ := rd_spec hck e
        simp only [opD, hck, hci, histC_iff, hs, hal.iff, hk.iff] at ht ⊢
        obtain ⟨c1, ht⟩ := ht
        obtain ⟨u, hu, ht⟩ := optW_elim ht
        obtain ⟨ob, hob, ht⟩ := optW_elim ht
        have heq := hk.loc h (h.set s ob) (fun x hx => by
          obtain ⟨q, hq, hqd⟩ := hk.live h u hu x hx
          exact vw_eq (by rw [get_fill hd hq hqd, hq]))
        rw [hob]
        refine ⟨fun y hy hc => ?_, ?_⟩
        · rcases List.mem_cons.1 hy with rfl | hy
          · intro x hx
            obtain ⟨q, hq, hqd⟩ := hk.live h u hu x hx
            exact vw_eq (by rw [get_fill hd hq hqd, hq])
          · exact c1 y hy hc
        · rw [← heq, hu]
          exact ht
      | al =>
        obtain ⟨s', hs', hd'⟩ := hkk 0 hck
        obtain ⟨oo', pt', hal'⟩ := al_spec hck e
        have hne : s' ≠ s := fun e => hslots s' hs' (by rw [hs, e])
        simp only [opD, hck, hci, hs, hs', hal.iff, hal'.iff] at ht ⊢
        obtain ⟨ob', hob', ht⟩ := optW_elim ht
        obtain ⟨ob, hob, ht⟩ := optW_elim ht
        rw [hob, hob']
        simp only [optW_some]
        have hcomm : (h.set s' ob').set s ob = (h.set s ob).set s' ob' := List.set_comm _ _ hne
        rw [hcomm] at ht
        refine textD_le hm l ?_ (SLe.refl _) ht
        intro y' hy'
        rcases List.mem_cons.1 hy' with rfl | hy'
        · refine ⟨(k, h, h.set s' ob'), by simp, rfl, fun x hx => ?_⟩
          simp only at hx ⊢
          rw [← hcomm]
          exact vw_same_len (by simp) hx
        · rcases List.mem_cons.1 hy' with rfl | hy'
          · refine ⟨(i, h.set s' ob', (h.set s ob).set s' ob'), by simp, rfl, fun x hx => ?_⟩
            simp only at hx ⊢
            by_cases ex : s = x.id
            · have ne : s' ≠ x.id := by rw [← ex]; exact hne
              rw [vw_other ne, vw_other ne] at hx
              exact hx
            · rw [vw_other ex]
          · exact ⟨y', by simp [hy'], rfl, fun _ h => h⟩
      | eff => exact absurd hck hce
      | call =>
        rw [ec_iff (.inr hck)] at ht
        obtain ⟨c1, ht⟩ := ht
        simp only [al_iff hci hs hal] at ht ⊢
        obtain ⟨_, _, _, h2⟩ := opW_strict hst ht
        obtain ⟨ob, hob, _⟩ := optW_elim h2
        subst hob
        rw [optW_some, ec_iff (.inr hck)]
        refine ⟨fun hc => absurd hc hce, opW_mono hm (fun u h1' hh => ?_) (opW_fr (ob := ob) hX hm hd (by simp) ht)⟩
        · obtain ⟨h1, rfl, hd1, d1, ht1⟩ := hh
          have hlt1 := (List.getElem?_eq_some_iff.1 hd1).1
          refine ⟨fun y hy hc x hx => vw_same hlt hlt1 (d1 y hy hc x hx), ?_⟩
          rw [optW_some] at ht1
          refine textD_le hm l ?_ (SLe.refl _) ht1
          intro y' hy'
          rcases List.mem_cons.1 hy' with rfl | hy'
          · exact ⟨(k, h, h1), by simp, rfl, fun x hx => vw_same hlt hlt1 hx⟩
          · rcases List.mem_cons.1 hy' with rfl | hy'
            · refine ⟨(i, h1, h1.set s ob), by simp, rfl, fun x hx => ?_⟩
              exact vw_fill hd hd1 hx
            · exact ⟨y', by simp [hy'], rfl, fun _ h => h⟩
end Go.AM
end

section
/- Each operation of the abstract machine is carried out by Go's model. Conditions: none. -/
namespace Go.AM
open Go
set_option linter.unusedSimpArgs false
variable {P : Program} {β : Bj} {h : AH} {w : World}
def EnvR (β : Bj) (e : Env) (a : Act) : Prop := ∀ i, VR β (e i) (a.tmps.getD i undef)
theorem EnvR.mono {β β' : Bj} {e : Env} {a : Act} (hb : BLe β β') (h : EnvR β e a) : EnvR β' e a := fun i => (h i).mono hb
theorem ev_R {e : Env} {a : Act} (E : EnvR β e a) {x : Operand} (hx : opndOK x = true) : VR β (ev e x) (a.eval x) := by
  cases x with
  | tmp t => exact E t
  | const v => exact .ofPure hx
  | global g => cases hx
  | func f => exact .func _ rfl rfl (fun i hi => by simp at hi) (fun i hi => by simp at hi)
theorem put_R {e : Env} {a : Act} (E : EnvR β e a) {d : Option Nat} {v v' : Value} (hv : VR β v v') (hd : ∀ t, d = some t → t < a.tmps.size) : EnvR β (putE e d v) (a.put d v') := by
  intro i
  cases d with
  | none => exact E i
  | some t =>
    have ht := hd t rfl
    simp only [putE, Env.set, Act.put]
    cases hb : Nat.beq i t with
    | true =>
      have : i = t := Nat.eq_of_beq_eq_true hb
      subst this
      simp only [cond_true, agetD]
      rw [Array.getElem?_setIfInBounds_self_of_lt ht]
      exact hv
    | false =>
      have : i ≠ t := fun e => by subst e; simp at hb
      simp only [cond_false, agetD]
      rw [Array.getElem?_setIfInBounds_ne (Ne.symm this), ← agetD]
      exact E i
def ListR (β : Bj) (l : List Value) (a : Array Value) : Prop := a.size = l.length ∧ ∀ i, i < l.length → VR β (l.getD i undef) (a.getD i undef)
def XSim (P : Program) (X : CallT) : Prop := ∀ f args h K, X f args h K → (∃ fn c, P.funcs[f]? = some fn ∧ fn.body = some c ∧ (fn.name == "runtime.NumGoroutine") = false) ∧
  ∀ β (args' : Array Value) w, ListR β args args' → Rel β h w → Calls P f args' w fun en w' => ∃ v v' β' h', en = .returned v' ∧ K v h' ∧ VR β' v v' ∧ Rel β' h' w' ∧ Ext (fun id => id < h.length) β h w β' h' w'
theorem parts_R {e : Env} {a : Act} (E : EnvR β e a) : ∀ (ps : List (Nat × Operand)), (∀ p ∈ ps, opndOK p.2 = true) → PartsR β (evParts e ps) (ps.map fun p => (p.1, a.eval p.2))
  | [], _ => trivial
  | p :: ps, h => ⟨rfl, ev_R E (h p (by simp)), parts_R E ps fun q hq => h q (by simp [hq])⟩
theorem list_R {e : Env} {a : Act} (E : EnvR β e a) : ∀ (xs : List Operand), (∀ x ∈ xs, opndOK x = true) → ∀ i, i < (xs.map (ev e)).length → VR β ((xs.map (ev e)).getD i undef) ((xs.map a.eval).getD i undef)
  | [], _, i, hi => by simp at hi
  | x :: xs, h, 0, _ => ev_R E (h x (by simp))
  | x :: xs, h, i + 1, hi => list_R E xs (fun q hq => h q (by simp [hq])) i (by simpa using hi)
theorem opt_R {e : Env} {a : Act} (E : EnvR β e a) (x : Option Operand) (hx : ∀ y, x = some y → opndOK y = true) : OptR β (x.map (ev e)) (x.map a.eval) := by
  cases x with
  | none => trivial
  | some y => exact ev_R E (hx y rfl)
theorem fin_value {o : Oper} {a : Act} {next : Act → World → Prop} {Q : Exit → Act → World → Prop} {v' : Value} {w' : World} (hr : (execOp a.eval o).run P w = .ok (.value v') w') (hn : next (a.put o.dst v') w') : o.wp P a w next Q := by
  unfold Oper.wp
  rw [hr]
  exact hn
theorem fin_skip {o : Oper} {a : Act} {next : Act → World → Prop} {Q : Exit → Act → World → Prop} {w' : World} (hr : (execOp a.eval o).run P w = .ok .skip w') (hn : next (a.put o.dst undef) w') : o.wp P a w next Q := by
  unfold Oper.wp
  rw [hr]
  exact hn
end Go.AM
end

section
/- Every operation of the abstract machine is carried out by Go's model. Conditions: none. -/
namespace Go.AM
open Go
set_option linter.unusedSimpArgs false
variable {P : Program} {β : Bj} {h : AH} {w : World}
theorem SimV.next {D : Nat → Prop} {K : Value → AH → Prop} {v' : Value} {w' : World} {o : Oper} {a : Act} {next : Act → World → Prop} (hs : SimV D β h w K v' w')
    (hnext : ∀ v v' β' h' w', K v h' → VR β' v v' → Rel β' h' w' → Ext D β h w β' h' w' → next (a.put o.dst v') w') : next (a.put o.dst v') w' := by
  obtain ⟨v, h', β', k1, k2, k3, k4⟩ := hs
  exact hnext v v' β' h' w' k1 k2 k3 k4
theorem conv_sim {D : Nat → Prop} {s d : TypeId} {x x' : Value} {slot : Option Nat} {K : Value → AH → Prop} (hK : convW P s d x slot h K) (hx : VR β x x') (R : Rel β h w) (hs : SlotOK D β h slot) :
    ∃ v' w', (convert s d x').run P w = .ok v' w' ∧ SimV D β h w K v' w' := by
  unfold convW at hK
  split at hK
  · rename_i e h1 h2
    split at hK
    · rename_i b h3
      cases hx
      obtain ⟨v', w', hr, hv⟩ := sim_strBytes (P := P) (e := e) hK R hs
      exact ⟨v', w', by simp [convert, run_underlying h1, run_underlying h2, run_underlying h3, hr], hv⟩
    · exact hK.elim
  · rename_i e h1 h2
    split at hK
    · rename_i h3
      obtain ⟨v, hv, hk⟩ := optW_elim hK
      obtain ⟨v', hr, hvr⟩ := sim_bytesStr (P := P) hv hx R
      refine ⟨v', w, ?_, v, h, β, hk, hvr, R, Ext.refl _ _ _ _⟩
      have hx2 : ∃ a l c, x' = .slice a l c := by
        unfold pBytesStr at hv
        split at hv
        · cases hx <;> exact ⟨_, _, _, rfl⟩
        · cases hx <;> exact ⟨_, _, _, rfl⟩
        · cases hv
      obtain ⟨a, l, c, rfl⟩ := hx2
      simp [convert, run_underlying h1, run_underlying h2, run_underlying h3, hr]
    · exact hK.elim
  · rename_i e0 e h1 h2
    split at hK
    · rename_i id off len cap h3 hsd
      split at hK
      · rename_i c hrow
        exact hK.elim
      · exact hK.elim
    · exact hK.elim
  · obtain ⟨v, hv, hk⟩ := optW_elim hK
    obtain ⟨v', hr, hvr⟩ := sim_conv w hv hx
    exact ⟨v', w, hr, v, h, β, hk, hvr, R, Ext.refl _ _ _ _⟩
theorem append_R {l m : List Value} {x y : Array Value} (h1 : ListR β l x) (h2 : ListR β m y) : ListR β (l ++ m) (x ++ y) := by
  refine ⟨by simp [h1.1, h2.1], fun i hi => ?_⟩
  rw [lgetD, agetD]
  by_cases hl : i < l.length
  · rw [List.getElem?_append_left hl, Array.getElem?_append_left (by rw [h1.1]; exact hl), ← lgetD, ← agetD]
    exact h1.2 i hl
  · rw [List.getElem?_append_right (by omega), Array.getElem?_append_right (by rw [h1.1]; omega), ← lgetD, ← agetD, h1.1]
    exact h2.2 _ (by simp at hi; omega)
theorem arr_R {a a' : Array Value} (hs : a.size = a'.size) (hh : ∀ i, i < a.size → VR β (a.getD i undef) (a'.getD i undef)) : ListR β a.toList a' := by
  refine ⟨by simp [hs], fun i hi => ?_⟩
  rw [toList_getD]
  exact hh i (by simpa using hi)
theorem args_R {e : Env} {a : Act} (E : EnvR β e a) (xs : Array Operand) (hx : ∀ x ∈ xs.toList, opndOK x = true) : ListR β (xs.toList.map (ev e)) (xs.map a.eval) := by
  refine ⟨by simp, fun i hi => ?_⟩
  have := list_R E xs.toList hx i hi
  rw [← toList_getD (xs.map a.eval), Array.toList_map]
  exact this
theorem op_sim {D : Nat → Prop} {X : CallT} {slot : Option Nat} {o : Oper} {e : Env} {K : Value → AH → Prop} {a : Act} {next : Act → World → Prop} {Q : Exit → Act → World → Prop} (hX : XSim P X) (hok : ∀ x ∈ o.op.operands.toList, opndOK x = true)
    (hK : opW P X slot o e h K) (E : EnvR β e a) (R : Rel β h w) (hs : SlotOK D β h slot)
    (hnext : ∀ v v' β' h' w', K v h' → VR β' v v' → Rel β' h' w' → Ext D β h w β' h' w' → next (a.put o.dst v') w') : o.wp P a w next Q := by
  have here : ∀ {v v' : Value}, K v h → VR β v v' → next (a.put o.dst v') w := fun k hv => hnext _ _ β h w k hv R (Ext.refl _ _ _ _)
  obtain ⟨dst, op, ty, pos, after, guard⟩ := o
  unfold opW at hK
  cases op with
  | move x => exact fin_value (by simp [execOp]) (here hK (ev_R E (hok x (by simp [Op.operands]))))
  | assign x => exact fin_value (by simp [execOp]) (here hK (ev_R E (hok x (by simp [Op.operands]))))
  | pick c x y =>
    obtain ⟨v, hv, hk⟩ := optW_elim hK
    obtain ⟨v', hr, hvr⟩ := sim_pick (P := P) w hv (ev_R E (hok c (by simp [Op.operands]))) (ev_R E (hok x (by simp [Op.operands]))) (ev_R E (hok y (by simp [Op.operands])))
    exact fin_value (by simpa [execOp] using hr) (here hk hvr)
  | alloc t =>
    obtain ⟨v', w', hr, hsv⟩ := sim_alloc (P := P) hK R hs
    exact fin_value (by simp [execOp, hr]) (hsv.next hnext)
  | box t x =>
    obtain ⟨v', w', hr, hsv⟩ := sim_box (P := P) (t := t) hK (ev_R E (hok x (by simp [Op.operands]))) R hs
    exact fin_value (by simp [execOp, hr]) (hsv.next hnext)
  | build t ps =>
    obtain ⟨v, hv, hk⟩ := optW_elim hK
    obtain ⟨v', hr, hvr⟩ := sim_build (P := P) w (qs := ps.map fun p => (p.1, a.eval p.2)) hv (by
      rw [Array.toList_map]
      exact parts_R E ps.toList fun p hp => hok p.2 (by simp [Op.operands]; exact ⟨p.1, by simpa using hp⟩))
    exact fin_value (by simp [execOp, hr]) (here hk hvr)
  | buildSlice t n ps =>
    obtain ⟨v', w', hr, hsv⟩ := sim_buildSlice (P := P) (qs := ps.map fun p => (p.1, a.eval p.2)) hK (by
      rw [Array.toList_map]
      exact parts_R E ps.toList fun p hp => hok p.2 (by simp [Op.operands]; exact ⟨p.1, by simpa using hp⟩)) R hs
    exact fin_value (by simp [execOp, hr]) (hsv.next hnext)
  | load t x =>
    obtain ⟨v, hv, hk⟩ := optW_elim hK
    obtain ⟨v', hr, hvr⟩ := sim_load (P := P) hv R (ev_R E (hok x (by simp [Op.operands])))
    exact fin_value (by simp [execOp, hr]) (here hk hvr)
  | store t x y =>
    obtain ⟨h', hv, hk⟩ := optW_elim hK
    obtain ⟨w', hr, R', E'⟩ := sim_store (P := P) hv R (ev_R E (hok x (by simp [Op.operands]))) (ev_R E (hok y (by simp [Op.operands])))
    exact fin_skip (by simp [execOp, hr]) (hnext _ _ β h' w' hk (VR.undef β) R' E')
  | nilCheck x =>
    obtain ⟨v, hv, hk⟩ := optW_elim hK
    have hx := ev_R E (hok x (by simp [Op.operands]))
    unfold pNilCheck at hv
    split at hv
    · rename_i ad hev
      obtain rfl := Option.some.inj hv
      rw [hev] at hx
      cases hx' : a.eval x with
      | pointer q =>
        rw [hx'] at hx
        cases q with
        | none => cases hx
        | some q => exact fin_value (v' := .pointer (some q)) (by simp [execOp, hx']) (here hk hx)
      | _ => rw [hx'] at hx; cases hx
    · cases hv
  | binOp op t x y yt =>
    obtain ⟨v, hv, hk⟩ := optW_elim hK
    obtain ⟨v', hr, hvr⟩ := sim_bin (P := P) w x y hv (ev_R E (hok x (by simp [Op.operands]))) (ev_R E (hok y (by simp [Op.operands])))
    refine fin_value (v' := v') ?_ (here hk hvr)
    simp only [execOp]
    rw [Sem.run_bind, hr]
    rfl
  | unOp op t x =>
    obtain ⟨v, hv, hk⟩ := optW_elim hK
    obtain ⟨v', hr, hvr⟩ := sim_un (P := P) w hv (ev_R E (hok x (by simp [Op.operands])))
    exact fin_value (by simp [execOp, hr]) (here hk hvr)
  | convert s d x =>
    obtain ⟨v', w', hr, hsv⟩ := conv_sim (P := P) hK (ev_R E (hok x (by simp [Op.operands]))) R hs
    exact fin_value (by simp [execOp, hr]) (hsv.next hnext)
  | makeFunc fn x y =>
    refine fin_value (v' := .func fn (x.map a.eval) (y.map a.eval)) (by simp [execOp, Instr.makeFunc]) (here hK (.func fn (by simp) (by simp) (fun i hi => ?_) (fun i hi => ?_)))
    · have hi' : i < x.size := by simpa using hi
      have := ev_R E (hok x[i] (by simp [Op.operands]))
      simpa [Array.getD, hi'] using this
    · have hi' : i < y.size := by simpa using hi
      have := ev_R E (hok y[i] (by simp [Op.operands]))
      simpa [Array.getD, hi'] using this
  | makeMap t r =>
    cases r with
    | none =>
      obtain ⟨v', w', hr, hsv⟩ := sim_makeMap (P := P) (t := t) hK R hs
      exact fin_value (by simp [execOp, hr]) (hsv.next hnext)
    | some r => exact hK.elim
  | makeSlice t l c =>
    obtain ⟨v', w', hr, hsv⟩ := sim_makeSlice (P := P) hK (ev_R E (hok l (by simp [Op.operands]))) (ev_R E (hok c (by simp [Op.operands]))) R hs
    exact fin_value (by simp [execOp, hr]) (hsv.next hnext)
  | slice t x lo hi mx =>
    obtain ⟨v, hv, hk⟩ := optW_elim hK
    obtain ⟨v', hr, hvr⟩ := sim_slice (P := P) w hv (ev_R E (hok x (by simp [Op.operands]))) (opt_R E lo fun y hy => hok y (by simp [Op.operands, hy])) (opt_R E hi fun y hy => hok y (by simp [Op.operands, hy])) (opt_R E mx fun y hy => hok y (by simp [Op.operands, hy]))
    exact fin_value (by simp [execOp, hr]) (here hk hvr)
  | fieldAddr s x f =>
    obtain ⟨v, hv, hk⟩ := optW_elim hK
    obtain ⟨v', hr, hvr⟩ := sim_fieldAddr (P := P) w hv (ev_R E (hok x (by simp [Op.operands])))
    exact fin_value (by simp [execOp, hr]) (here hk hvr)
  | field t x f =>
    obtain ⟨v, hv, hk⟩ := optW_elim hK
    obtain ⟨v', hr, hvr⟩ := sim_field (P := P) w hv (ev_R E (hok x (by simp [Op.operands])))
    exact fin_value (by simp [execOp, hr]) (here hk hvr)
  | indexAddr t x i =>
    obtain ⟨v, hv, hk⟩ := optW_elim hK
    obtain ⟨v', hr, hvr⟩ := sim_indexAddr (P := P) w hv (ev_R E (hok x (by simp [Op.operands]))) (ev_R E (hok i (by simp [Op.operands])))
    exact fin_value (by simp [execOp, hr]) (here hk hvr)
  | index t x i =>
    obtain ⟨v, hv, hk⟩ := optW_elim hK
    obtain ⟨v', hr, hvr⟩ := sim_index (P := P) w hv (ev_R E (hok x (by simp [Op.operands]))) (ev_R E (hok i (by simp [Op.operands])))
    exact fin_value (by simp [execOp, hr]) (here hk hvr)
  | lookup t x i ok =>
    obtain ⟨v, hv, hk⟩ := optW_elim hK
    obtain ⟨v', hr, hvr⟩ := sim_look (P := P) hv R (ev_R E (hok x (by simp [Op.operands]))) (ev_R E (hok i (by simp [Op.operands])))
    exact fin_value (by simp [execOp, hr]) (here hk hvr)
  | mapUpdate t m k v =>
    obtain ⟨h', hv, hk⟩ := optW_elim hK
    obtain ⟨w', hr, R', E'⟩ := sim_mapU (P := P) hv R (ev_R E (hok m (by simp [Op.operands]))) (ev_R E (hok k (by simp [Op.operands]))) (ev_R E (hok v (by simp [Op.operands])))
    exact fin_skip (by simp [execOp, hr]) (hnext _ _ β h' w' hk (VR.undef β) R' E')
  | mapEntry t m k =>
    obtain ⟨r, hv, hk⟩ := optW_elim hK
    obtain ⟨v', w', hr, hvr, R', E'⟩ := sim_mapEnt (P := P) hv R (ev_R E (hok m (by simp [Op.operands]))) (ev_R E (hok k (by simp [Op.operands])))
    exact fin_value (by simp [execOp, hr]) (hnext _ _ β r.2 w' hk hvr R' E')
  | entryStore t m s v =>
    obtain ⟨h', hv, hk⟩ := optW_elim hK
    obtain ⟨w', hr, R', E'⟩ := sim_entSt (P := P) (t := t) hv R (ev_R E (hok m (by simp [Op.operands]))) (ev_R E (hok s (by simp [Op.operands]))) (ev_R E (hok v (by simp [Op.operands])))
    exact fin_skip (by simp [execOp, hr]) (hnext _ _ β h' w' hk (VR.undef β) R' E')
  | range t x =>
    obtain ⟨v', w', hr, hsv⟩ := sim_range (P := P) hK (ev_R E (hok x (by simp [Op.operands]))) R hs
    exact fin_value (by simp [execOp, hr]) (hsv.next hnext)
  | next it s =>
    obtain ⟨v', w', hr, hsv⟩ := sim_next (P := P) (ty := ty) (D := D) hK (ev_R E (hok it (by simp [Op.operands]))) R
    exact fin_value (by simp [execOp, hr]) (hsv.next hnext)
  | entry it =>
    obtain ⟨v, hv, hk⟩ := optW_elim hK
    obtain ⟨v', hr, hvr⟩ := sim_entry (P := P) hv (ev_R E (hok it (by simp [Op.operands]))) R
    exact fin_value (by simp [execOp, hr]) (here hk hvr)
  | extract t i =>
    obtain ⟨v, hv, hk⟩ := optW_elim hK
    obtain ⟨v', hr, hvr⟩ := sim_extract (P := P) w hv (ev_R E (hok t (by simp [Op.operands])))
    exact fin_value (by simp [execOp, hr]) (here hk hvr)
  | call c =>
    obtain ⟨callee, args, argTypes⟩ := c
    simp only at hK
    unfold callOpW at hK
    cases callee with
    | invoke r m => exact hK.elim
    | builtin b =>
      simp only at hK
      have hokc : ∀ x ∈ args.toList, opndOK x = true := fun x hx => hok x (by simp [Op.operands, Call.operands]; simpa using hx)
      split at hK
      · rename_i x t ts hargs htypes
        obtain ⟨v, hv, hk⟩ := optW_elim hK
        have ha : args = #[x] := by apply Array.ext'; simpa using hargs
        subst ha
        have hxR := ev_R E (hokc x (by simp))
        have ht0 : argTypes[0]? = some t := by rw [← Array.getElem?_toList, htypes]; rfl
        have hlen : ∃ v', (Builtin.len_ argTypes ty #[a.eval x]).run P w = .ok v' w ∧ VR β v v' := by
          unfold lenW at hv
          split at hv
          · rename_i kt et ht
            exact sim_lenMap (P := P) ht0 ht hv R hxR
          · exact sim_len w ht0 hv hxR
        obtain ⟨v', hr, hvr⟩ := hlen
        exact fin_value (v' := v') (by simp [execOp, resolve, invoke, builtin, hr]) (here hk hvr)
      · rename_i x y t u hargs htypes
        have ha : args = #[x, y] := by apply Array.ext'; simpa using hargs
        have ht : argTypes = #[t, u] := by apply Array.ext'; simpa using htypes
        subst ha ht
        have hxR := ev_R E (hokc x (by simp))
        have hyR := ev_R E (hokc y (by simp))
        have happ : ∃ v' w', (Builtin.append_ #[t, u] ty #[a.eval x, a.eval y]).run P w = .ok v' w' ∧ SimV D β h w K v' w' := by
          unfold aAppend at hK
          simp only at hK
          split at hK
          · rename_i el el2 q1 q2 q3 h1 h2 h3
            split at hK
            · rename_i i z hi hz
              split at hK
              · rename_i hc
                exact sim_appS h1 hi hz hc.1 hc.2.1 hc.2.2 (fun b hb => by rw [h3] at hb; cases hb) (fun _ _ _ _ => ⟨_, h2⟩) hK hxR hyR R hs.1
              · exact hK.elim
            · exact hK.elim
          · rename_i el q1 h1 h2 h3
            split at hK
            · rename_i i z hi hz
              split at hK
              · rename_i hc
                exact sim_appS h1 hi hz hc.1 hc.2.1 hc.2.2 (fun _ _ => h2) (fun a l c hb => by rw [h3] at hb; cases hb) hK hxR hyR R hs.1
              · exact hK.elim
            · exact hK.elim
          · rename_i el kk n h1 h2 h3
            split at hK
            · rename_i i z hi hz
              split at hK
              · rename_i hc
                rw [h3] at hyR
                have := hyR.int_inv
                rw [this]
                exact sim_appZ h1 h2 hi hz hc.1 hc.2.1 hc.2.2 hK hxR R hs.1
              · exact hK.elim
            · exact hK.elim
          · exact hK.elim
        obtain ⟨v', w', hr, hsv⟩ := happ
        exact fin_value (v' := v') (by simp [execOp, resolve, invoke, builtin, hr]) (hsv.next hnext)
      · rename_i _ x y hargs
        have ha : args = #[x, y] := by apply Array.ext'; simpa using hargs
        subst ha
        obtain ⟨v, hv, hk⟩ := optW_elim hK
        obtain ⟨v', hr, hvr⟩ := sim_max2 (P := P) w hv (ev_R E (hokc x (by simp))) (ev_R E (hokc y (by simp)))
        simp only [if_true] at hr
        exact fin_value (v' := v') (by simp [execOp, resolve, invoke, builtin, Builtin.max_, hr]) (here hk hvr)
      · rename_i _ x y hargs
        have ha : args = #[x, y] := by apply Array.ext'; simpa using hargs
        subst ha
        obtain ⟨v, hv, hk⟩ := optW_elim hK
        obtain ⟨v', hr, hvr⟩ := sim_max2 (P := P) w hv (ev_R E (hokc x (by simp))) (ev_R E (hokc y (by simp)))
        simp only [Bool.false_eq_true, if_false] at hr
        exact fin_value (v' := v') (by simp [execOp, resolve, invoke, builtin, Builtin.min_, hr]) (here hk hvr)
      · rename_i x t ts hargs htypes
        obtain ⟨v, hv, hk⟩ := optW_elim hK
        have ha : args = #[x] := by apply Array.ext'; simpa using hargs
        subst ha
        have hxR := ev_R E (hokc x (by simp))
        have ht0 : argTypes[0]? = some t := by rw [← Array.getElem?_toList, htypes]; rfl
        obtain ⟨v', hr, hvr⟩ := sim_cap (P := P) (w := w) (ty := ty) ht0 hv hxR
        exact fin_value (v' := v') (by simp [execOp, resolve, invoke, builtin, hr]) (here hk hvr)
      · rename_i x y t u hargs htypes
        obtain ⟨r, hv, hk⟩ := optW_elim hK
        have ha : args = #[x, y] := by apply Array.ext'; simpa using hargs
        have ht : argTypes = #[t, u] := by apply Array.ext'; simpa using htypes
        subst ha ht
        obtain ⟨v', w', hr, hvr, R', E'⟩ := sim_copy (P := P) (D := D) (tx := u) (ty := ty) hv R (ev_R E (hokc x (by simp))) (ev_R E (hokc y (by simp)))
        exact fin_value (v' := v') (by simp [execOp, resolve, invoke, builtin, hr]) (hnext _ _ β r.2 w' hk hvr R' E')
      · rename_i x t hargs htypes
        obtain ⟨h', hv, hk⟩ := optW_elim hK
        have ha : args = #[x] := by apply Array.ext'; simpa using hargs
        have ht : argTypes = #[t] := by apply Array.ext'; simpa using htypes
        subst ha ht
        obtain ⟨w', hr, R', E'⟩ := sim_clear (P := P) (D := D) (ty := ty) hv R (ev_R E (hokc x (by simp)))
        exact fin_value (v' := .tuple #[]) (by simp [execOp, resolve, invoke, builtin, hr]) (hnext _ _ β h' w' hk (VR.undef β) R' E')
      · exact hK.elim
    | value f =>
      simp only at hK
      have hokc : ∀ x ∈ args.toList, opndOK x = true := fun x hx => hok x (by simp [Op.operands, Call.operands]; right; simpa using hx)
      have hfR := ev_R E (hok f (by simp [Op.operands, Call.operands]))
      split at hK
      · rename_i g fa fb hev
        rw [hev] at hfR
        cases hfv : a.eval f with
        | func fn fa' fb' =>
          rw [hfv] at hfR
          cases hfR with
          | func _ ha hb h1 h2 =>
            obtain ⟨⟨fn, cc, hfn, hbody, hname⟩, hcall⟩ := hX _ _ _ _ hK
            have hL := append_R (append_R (arr_R ha h1) (args_R E args hokc)) (arr_R hb h2)
            have hC := hcall β _ w hL R
            have hrun : (execOp a.eval { dst := dst, op := Op.call { callee := Callee.value f, args := args, argTypes := argTypes }, type := ty, pos := pos, after := after, guard := guard }).run P w = .ok (.enter g (fa' ++ args.map a.eval ++ fb')) w := by
              have hn2 : ¬ fn.name = "runtime.NumGoroutine" := by simpa using hname
              simp [execOp, resolve, Deferred.ofValue, hfv, invoke, callFunc, hfn, hbody, hn2]
            unfold Oper.wp
            rw [hrun]
            show Calls P g _ w _
            refine hC.mono ?_
            rintro en w' ⟨v, v', β', h', rfl, k1, k2, k3, k4⟩
            exact hnext v v' β' h' w' k1 k2 k3 (k4.mono hs.1)
        | _ => rw [hfv] at hfR; cases hfR
      · exact hK.elim
  | _ => exact hK.elim
end Go.AM
end

section
/- Regions in any order and code of the abstract machine are carried out by Go's model. Conditions: none. -/
namespace Go.AM
open Go
set_option linter.unusedSimpArgs false
variable {P : Program}
def SlotsOK (D : Nat → Prop) (slotOf : Nat → Option Nat) (l : List Nat) (β : Bj) (h : AH) : Prop :=
  (∀ id, D id → id < h.length) ∧ (∀ i ∈ l, ∀ r, slotOf i = some r → h[r]? = some .dead ∧ β r = none ∧ ¬ D r) ∧ l.Pairwise fun i j => ∀ r, slotOf i = some r → slotOf j ≠ some r
theorem guard_R {β : Bj} {e : Env} {a : Act} (E : EnvR β e a) (ops : Array Oper) (o : Oper) : Region.wanted o (yielded ops a.tmps) = gval ops o e := by
  unfold Region.wanted gval
  cases hg : o.guard with
  | none => rfl
  | some jw =>
    obtain ⟨j, want⟩ := jw
    simp only
    unfold yielded
    cases hd : (ops[j]?).bind (·.dst) with
    | none => simp
    | some t =>
      simp only [Option.bind_some]
      have ht := E t
      rw [agetD] at ht
      unfold gB
      cases hv : a.tmps[t]? with
      | none =>
        rw [hv] at ht
        simp only [Option.getD_none] at ht
        have : ∀ b, e t ≠ .bool b := by
          intro b hb
          rw [hb] at ht
          cases ht
        cases he : e t <;> first | exact absurd he (this _) | simp
      | some v =>
        rw [hv] at ht
        simp only [Option.getD_some] at ht
        cases he : e t <;> (rw [he] at ht; cases ht) <;> simp
theorem put_size (a : Act) (d : Option Tmp) (v : Value) : (a.put d v).tmps.size = a.tmps.size := by
  cases d <;> simp [Act.put]
theorem put_defers (a : Act) (d : Option Tmp) (v : Value) : (a.put d v).defers = a.defers := by
  cases d <;> rfl
theorem operOK_dst {nt : Nat} {o : Oper} (h : operOK nt o = true) : (∀ x ∈ o.op.operands.toList, opndOK x = true) ∧ ∀ t, o.dst = some t → t < nt := by
  unfold operOK at h
  rw [Bool.and_eq_true] at h
  refine ⟨List.all_eq_true.1 h.1, fun t ht => ?_⟩
  have h2 := h.2
  rw [ht] at h2
  simpa using h2
theorem ord_sim {X : CallT} (hX : XSim P X) {ops : Array Oper} {nt : Nat} (hops : ∀ o ∈ ops.toList, operOK nt o = true) {slotOf : Nat → Option Nat} {D : Nat → Prop} {Q : Env → AH → Prop} {QC : Exit → Act → World → Prop} :
    ∀ (l : List Nat) {β : Bj} {e : Env} {h : AH} {a : Act} {w : World}, ordW P X ops slotOf l e h Q → EnvR β e a → a.tmps.size = nt → Rel β h w → SlotsOK D slotOf l β h →
      (∀ e' h' β' a' w', Q e' h' → EnvR β' e' a' → a'.tmps.size = nt → a'.defers = a.defers → Rel β' h' w' → Ext D β h w β' h' w' → QC .normal a' w') → wpOps P ops QC l a w
  | [], β, e, h, a, w, hQ, E, hsz, R, hs, hfin => by
    exact hfin e h β a w hQ E hsz rfl R (Ext.refl _ _ _ _)
  | i :: l, β, e, h, a, w, hQ, E, hsz, R, hs, hfin => by
    have hs' : SlotsOK D slotOf l β h := ⟨hs.1, fun j hj => hs.2.1 j (List.mem_cons_of_mem _ hj), (List.pairwise_cons.1 hs.2.2).2⟩
    simp only [ordW] at hQ
    simp only [wpOps]
    cases ho : ops[i]? with
    | none =>
      rw [ho] at hQ
      exact ord_sim hX hops l hQ E hsz R hs' hfin
    | some o =>
      rw [ho] at hQ
      simp only at hQ ⊢
      have hok := operOK_dst (hops o (by simpa using Array.mem_of_getElem? ho))
      rw [guard_R E]
      cases hg : gval ops o e with
      | false =>
        rw [hg] at hQ
        simp only [gopW] at hQ
        simp only [Bool.false_eq_true, if_false]
        exact ord_sim hX hops l hQ (put_R E (VR.undef β) fun t ht => by rw [hsz]; exact hok.2 t ht) (by rw [put_size]; exact hsz) R hs' fun e' h' β' a' w' q1 q2 q3 q4 => hfin e' h' β' a' w' q1 q2 q3 (by rw [q4, put_defers])
      | true =>
        rw [hg] at hQ
        simp only [gopW] at hQ
        simp only [if_true]
        left
        refine op_sim (D := fun id => id < h.length ∧ slotOf i ≠ some id) hX hok.1 hQ E R ⟨fun id hd => hd.1, fun r hr => ?_⟩ ?_
        · obtain ⟨h1, h2, h3⟩ := hs.2.1 i (by simp) r hr
          exact ⟨h1, h2, fun hd => hd.2 hr⟩
        · intro v v' β' h' w' hK hv R' E'
          have hsub : ∀ id, D id → id < h.length ∧ slotOf i ≠ some id := fun id hd => ⟨hs.1 id hd, fun hi => (hs.2.1 i (by simp) id hi).2.2 hd⟩
          refine ord_sim hX hops l hK (put_R (E.mono E'.ble) hv fun t ht => by rw [hsz]; exact hok.2 t ht) (by rw [put_size]; exact hsz) R' ⟨fun id hd => Nat.lt_of_lt_of_le (hs.1 id hd) E'.len, fun j hj r hr => ?_, hs'.2.2⟩ ?_
          · obtain ⟨h1, h2, h3⟩ := hs.2.1 j (List.mem_cons_of_mem _ hj) r hr
            have hlt := (List.getElem?_eq_some_iff.1 h1).1
            have hne : slotOf i ≠ some r := fun hi => (List.pairwise_cons.1 hs.2.2).1 j hj r hi hr
            refine ⟨by rw [E'.afr r ⟨hlt, hne⟩ h2]; exact h1, ?_, h3⟩
            cases hb : β' r with
            | none => rfl
            | some p => exact absurd h2 (E'.dom r ⟨hlt, hne⟩ (by rw [hb]; simp))
          · intro e2 h2 β2 a2 w2 q1 q2 q3 q4 q5 q6
            exact hfin e2 h2 β2 a2 w2 q1 q2 q3 (by rw [q4, put_defers]) q5 ((E'.mono hsub).trans q6)
def DrawAll (P : Program) (X : CallT) : Prop := ∀ (ops : Array Oper) (e : Env) (h : AH) (Q : Env → AH → Prop) (t : Nat), regW P X ops true e h Q →
  ordW P X ops (slotAt (slots P ops.toList h.length)) (Region.schedule (P.follows .mixedOrders) ops t) e (reserve (countAl P ops.toList) h) Q ∧ (Region.schedule (P.follows .mixedOrders) ops t).Nodup
theorem reserve_eq : ∀ (n : Nat) (h : AH), reserve n h = h ++ List.replicate n .dead
  | 0, h => by simp [reserve]
  | n + 1, h => by rw [reserve, reserve_eq n]; simp [List.replicate_succ]
theorem reserve_R {β : Bj} {h : AH} {w : World} (R : Rel β h w) (n : Nat) : Rel β (reserve n h) w ∧ Ext (fun id => id < h.length) β h w β (reserve n h) w := by
  have hget : ∀ {j p}, β j = some p → (reserve n h)[j]? = h[j]? := fun hj => by rw [reserve_eq, List.getElem?_append_left (R.lt hj)]
  refine ⟨⟨fun hj => ?_, fun hj ho => R.obj hj (by rwa [hget hj] at ho), fun hij hi hj li lj hr => R.sep hij hi hj (by rwa [hget hi] at li) (by rwa [hget hj] at lj) (by rwa [hget hi, hget hj] at hr)⟩, ?_⟩
  · rw [reserve_eq, List.length_append]
    exact Nat.lt_of_lt_of_le (R.lt hj) (Nat.le_add_right _ _)
  · refine ⟨.refl β, fun _ _ hd => hd, by rw [reserve_eq]; simp, fun id hid _ => by rw [reserve_eq, List.getElem?_append_left hid], Nat.le_refl _, rfl, rfl, rfl, fun _ _ _ => rfl, ?_⟩
    rintro b ⟨j, p, hj, rfl, l1, l2⟩
    rw [hget hj] at l1 l2
    exact .inl ⟨j, p, hj, rfl, l1, l2⟩
theorem slots_spec (P : Program) : ∀ (l : List Oper) (n i r : Nat), slotAt (slots P l n) i = some r → n ≤ r ∧ r < n + countAl P l ∧ ∀ j, slotAt (slots P l n) j = some r → j = i
  | [], n, i, r, h => by simp [slots, slotAt] at h
  | o :: l, n, i, r, h => by
    unfold slots at h ⊢
    unfold countAl
    cases hc : clOf P o with
    | al =>
      rw [hc] at h
      simp only at h ⊢
      cases i with
      | zero =>
        simp [slotAt] at h
        subst h
        refine ⟨Nat.le_refl _, by omega, fun j hj => ?_⟩
        cases j with
        | zero => rfl
        | succ j =>
          have := slots_spec P l (n + 1) j n (by simpa [slotAt] using hj)
          omega
      | succ i =>
        have := slots_spec P l (n + 1) i r (by simpa [slotAt] using h)
        refine ⟨by omega, by omega, fun j hj => ?_⟩
        cases j with
        | zero =>
          simp [slotAt] at hj
          omega
        | succ j => rw [this.2.2 j (by simpa [slotAt] using hj)]
    | _ =>
      rw [hc] at h
      simp only at h ⊢
      cases i with
      | zero => simp [slotAt] at h
      | succ i =>
        have := slots_spec P l n i r (by simpa [slotAt] using h)
        refine ⟨by omega, by omega, fun j hj => ?_⟩
        cases j with
        | zero => simp [slotAt] at hj
        | succ j => rw [this.2.2 j (by simpa [slotAt] using hj)]
theorem reg_sim {X : CallT} (hX : XSim P X) (hD : DrawAll P X) {ops : Array Oper} {nt : Nat} (hops : ∀ o ∈ ops.toList, operOK nt o = true) {id : Nat} {draw : Bool} {Q : Env → AH → Prop} {QC : Exit → Act → World → Prop} {β : Bj} {e : Env} {h : AH} {a : Act} {w : World}
    (hQ : regW P X ops draw e h Q) (E : EnvR β e a) (hsz : a.tmps.size = nt) (R : Rel β h w)
    (hfin : ∀ e' h' β' a' w', Q e' h' → EnvR β' e' a' → a'.tmps.size = nt → a'.defers = a.defers → Rel β' h' w' → Ext (fun id => id < h.length) β h w β' h' w' → QC .normal a' w') : (Code.region id ops draw).wp P QC a w := by
  cases draw with
  | false =>
    refine wp_region (ord_sim (D := fun id => id < h.length) hX hops _ hQ E hsz R ⟨fun _ h => h, (fun _ _ _ h => by cases h), ?_⟩ hfin)
    rw [List.pairwise_iff_forall_sublist]
    intro _ _ _ r hr
    cases hr
  | true =>
    refine wp_region_draw fun t => ?_
    obtain ⟨hord, hnd⟩ := hD ops e h Q t hQ
    obtain ⟨R1, E1⟩ := reserve_R R (countAl P ops.toList)
    have R2 : Rel β (reserve (countAl P ops.toList) h) { w with drawn := w.drawn + 1 } := R1.heap rfl
    refine ord_sim (D := fun id => id < h.length) hX hops _ hord E hsz R2 ⟨fun id hid => by rw [reserve_eq, List.length_append]; omega, fun i hi r hr => ?_, ?_⟩ ?_
    · have hsp := slots_spec P ops.toList h.length i r hr
      refine ⟨?_, ?_, by omega⟩
      · rw [reserve_eq, List.getElem?_append_right hsp.1, List.getElem?_replicate]
        rw [if_pos (by omega)]
      · cases hb : β r with
        | none => rfl
        | some p => have := R.lt hb; omega
    · refine hnd.imp ?_
      intro i j hij r hi hj
      exact hij ((slots_spec P ops.toList h.length j r hj).2.2 i hi)
    · intro e' h' β' a' w' q1 q2 q3 q4 q5 q6
      refine hfin e' h' β' a' w' q1 q2 q3 q4 q5 (E1.trans ?_)
      exact { ble := q6.ble, dom := q6.dom, len := q6.len, afr := q6.afr, size := q6.size, tape := q6.tape, os := q6.os, out := q6.out, cfr := q6.cfr, wb := q6.wb }
end Go.AM
end

section
/- Code and calls of the abstract machine are carried out by Go's model. Conditions: none. -/
namespace Go.AM
open Go
set_option linter.unusedSimpArgs false
variable {P : Program}
structure At (D : Nat → Prop) (nt : Nat) (ds : List Deferred) (β0 : Bj) (h0 : AH) (w0 : World) (e : Env) (h : AH) (β : Bj) (a : Act) (w : World) : Prop where
  env : EnvR β e a
  size : a.tmps.size = nt
  defers : a.defers = ds
  rel : Rel β h w
  ext : Ext D β0 h0 w0 β h w
def Sat (D : Nat → Prop) (nt : Nat) (ds : List Deferred) (β0 : Bj) (h0 : AH) (w0 : World) (Q : Exit → Env → AH → Prop) (QC : Exit → Act → World → Prop) : Prop :=
  ∀ x e h β a w, Q x e h → At D nt ds β0 h0 w0 e h β a w → QC x a w
def scopeQ (P : Program) (c : Code) (QC : Exit → Act → World → Prop) (b : Frame) (k : List Item) (cs : List Frame) : Exit → Act → World → Prop := fun x a w => match x with
  | .goto l => ∃ rest, findLabel c l = some rest ∧ ∃ en a' w', QC en a' w' ∧ Arrives P (lone (b.at a (.code rest :: .inScope c :: k)) cs w) b k cs en a' w'
  | x => QC x a w
theorem lwp_lab {X : CallT} : ∀ (c : Code) (l : Nat) {Q : Exit → Env → AH → Prop} {e : Env} {h : AH}, lwp P X c l Q e h → ∃ rest, findLabel c l = some rest
  | .seq a b, l, Q, e, h, hk => by
    unfold lwp at hk
    simp only [findLabel]
    cases hx : findLabel a l with
    | some r => exact ⟨_, rfl⟩
    | none =>
      rw [hx] at hk
      exact lwp_lab b l hk
  | .label l', l, Q, e, h, hk => by
    unfold lwp at hk
    simp only [findLabel]
    cases hb : l' == l with
    | true => exact ⟨.skip, by simp⟩
    | false =>
      rw [hb] at hk
      exact hk.elim
  | .skip, _, _, _, _, hk => by simp only [lwp] at hk
  | .region .., _, _, _, _, hk => by simp only [lwp] at hk
  | .cond .., _, _, _, _, hk => by simp only [lwp] at hk
  | .block .., _, _, _, _, hk => by simp only [lwp] at hk
  | .loop _, _, _, _, _, hk => by simp only [lwp] at hk
  | .rangeFunc .., _, _, _, _, hk => by simp only [lwp] at hk
  | .exit _, _, _, _, _, hk => by simp only [lwp] at hk
  | .scope _, _, _, _, _, hk => by simp only [lwp] at hk
  | .goto _, _, _, _, _, hk => by simp only [lwp] at hk
  | .ret, _, _, _, _, hk => by simp only [lwp] at hk
  | .refuse _, _, _, _, _, hk => by simp only [lwp] at hk
mutual
theorem code_sim {X : CallT} (hX : XSim P X) (hD : DrawAll P X) {nt : Nat} {D : Nat → Prop} {ds : List Deferred} {β0 : Bj} {h0 : AH} {w0 : World} (hl : ∀ id, D id → id < h0.length) : ∀ (c : Code) {Q : Exit → Env → AH → Prop} {QC : Exit → Act → World → Prop} {e : Env} {h : AH} {β : Bj} {a : Act} {w : World},
    codeOK nt c = true → cwp P X c Q e h → At D nt ds β0 h0 w0 e h β a w → Sat D nt ds β0 h0 w0 Q QC → c.wp P QC a w
  | .skip, Q, QC, e, h, β, a, w, _, hQ, A, hs => wp_skip (hs _ _ _ _ _ _ hQ A)
  | .region id ops draw, Q, QC, e, h, β, a, w, hok, hQ, A, hs => by
    refine reg_sim hX hD (List.all_eq_true.1 hok) hQ A.env A.size A.rel fun e' h' β' a' w' q1 q2 q3 q4 q5 q6 => hs _ _ _ _ _ _ q1 ⟨q2, q3, q4.trans A.defers, q5, A.ext.trans (q6.mono fun id hd => Nat.lt_of_lt_of_le (hl id hd) A.ext.len)⟩
  | .seq x y, Q, QC, e, h, β, a, w, hok, hQ, A, hs => by
    simp only [codeOK, Bool.and_eq_true] at hok
    refine wp_seq (code_sim hX hD hl x (Q := thenW (cwp P X y Q) Q) hok.1 hQ A ?_)
    intro en e1 h1 β1 a1 w1 hq A1
    cases en with
    | normal => exact code_sim hX hD hl y hok.2 hq A1 hs
    | _ => exact hs _ _ _ _ _ _ hq A1
  | .cond c x y, Q, QC, e, h, β, a, w, hok, hQ, A, hs => by
    simp only [codeOK, Bool.and_eq_true] at hok
    simp only [cwp] at hQ
    have hc := ev_R A.env hok.1.1
    unfold condW at hQ
    split at hQ
    · rename_i hev
      rw [hev] at hc
      have : a.eval c = .bool true := by cases hv : a.eval c <;> rw [hv] at hc <;> cases hc; rfl
      exact wp_cond_true this (code_sim hX hD hl x hok.1.2 hQ A hs)
    · rename_i hev
      rw [hev] at hc
      have : a.eval c = .bool false := by cases hv : a.eval c <;> rw [hv] at hc <;> cases hc; rfl
      exact wp_cond_false this (code_sim hX hD hl y hok.2 hQ A hs)
    · exact hQ.elim
  | .block id c, Q, QC, e, h, β, a, w, hok, hQ, A, hs => by
    refine wp_block (code_sim hX hD hl c (Q := blockW id Q) hok hQ A ?_)
    intro en e1 h1 β1 a1 w1 hq A1
    cases en with
    | exit id' =>
      simp only [blockW] at hq
      simp only [Exit.inBlock]
      cases hb : Nat.beq id' id with
      | true =>
        rw [hb] at hq
        rw [if_pos (Nat.eq_of_beq_eq_true hb)]
        exact hs _ _ _ _ _ _ hq A1
      | false =>
        rw [hb] at hq
        rw [if_neg (fun e => by subst e; simp at hb)]
        exact hs _ _ _ _ _ _ hq A1
    | _ => exact hs _ _ _ _ _ _ hq A1
  | .loop c, Q, QC, e, h, β, a, w, hok, hQ, A, hs => by
    have head := hQ (fun e h => ∀ β a w, At D nt ds β0 h0 w0 e h β a w → ∀ b k cs, ∃ en a' w', QC en a' w' ∧ Arrives P (lone (b.at a (.code c :: .inLoop c :: k)) cs w) b k cs en a' w') ?_
    · intro b k cs
      obtain ⟨en, a', w', hq, harr⟩ := head β a w A b k cs
      exact ⟨en, a', w', hq, .of_steps (.one step_loop) harr⟩
    · intro e1 h1 hB β1 a1 w1 A1 b k cs
      have := code_sim hX hD hl c (QC := Exit.then (fun a2 w2 => ∃ en a' w', QC en a' w' ∧ Arrives P (lone (b.at a2 (.code c :: .inLoop c :: k)) cs w2) b k cs en a' w') QC) hok hB A1 (by
        intro en e2 h2 β2 a2 w2 hq A2
        cases en with
        | normal => exact hq β2 a2 w2 A2 b k cs
        | _ => exact hs _ _ _ _ _ _ hq A2)
      obtain ⟨en, a2, w2, hq, harr⟩ := this b (.inLoop c :: k) cs
      cases en with
      | normal =>
        obtain ⟨en, a', w', hq', harr'⟩ := hq
        exact ⟨en, a', w', hq', .of_steps (Steps.trans harr (.one step_inLoop)) harr'⟩
      | exit id => exact ⟨_, a2, w2, hq, .pass (x := .inLoop c) rfl (fun _ _ => .inl (by simp)) harr⟩
      | goto l => exact ⟨_, a2, w2, hq, .pass (x := .inLoop c) rfl (fun _ _ => .inl (by simp)) harr⟩
      | ret => exact ⟨_, a2, w2, hq, .pass (x := .inLoop c) rfl (fun _ _ => .inl (by simp)) harr⟩
      | panic ch => exact ⟨_, a2, w2, hq, .pass (x := .inLoop c) rfl (fun _ _ => .inl (by simp)) harr⟩
      | outgrown => exact ⟨_, a2, w2, hq, .pass (x := .inLoop c) rfl (fun _ _ => .inl (by simp)) harr⟩
  | .exit id, Q, QC, e, h, β, a, w, _, hQ, A, hs => wp_exit (hs _ _ _ _ _ _ hQ A)
  | .ret, Q, QC, e, h, β, a, w, _, hQ, A, hs => wp_ret (hs _ _ _ _ _ _ hQ A)
  | .rangeFunc .., _, _, _, _, _, _, _, _, hQ, _, _ => hQ.elim
  | .scope c, Q, QC, e, h, β, a, w, hok, hQ, A, hs => by
    intro b k cs
    have fin : ∀ (code : Code) (a : Act) (w : World), (∃ en a1 w1, scopeQ P c QC b k cs en a1 w1 ∧ Arrives P (lone (b.at a (.code code :: .inScope c :: k)) cs w) b (.inScope c :: k) cs en a1 w1) → ∃ en a' w', QC en a' w' ∧ Arrives P (lone (b.at a (.code code :: .inScope c :: k)) cs w) b k cs en a' w' := by
      rintro code a w ⟨en, a1, w1, hq, harr⟩
      cases en with
      | normal => exact ⟨.normal, a1, w1, hq, Steps.trans harr (.one step_inScope)⟩
      | exit id => exact ⟨.exit id, a1, w1, hq, fun k' hk => harr k' (by simp [exitTo, hk])⟩
      | goto l =>
        obtain ⟨rest, hr, en, a2, w2, hq2, harr2⟩ := hq
        exact ⟨en, a2, w2, hq2, .of_steps (harr _ (by simp [gotoIn, hr])) harr2⟩
      | ret => exact ⟨_, a1, w1, hq, harr⟩
      | panic ch => exact ⟨_, a1, w1, hq, harr⟩
      | outgrown => exact ⟨_, a1, w1, hq, harr⟩
    have hsat : Sat D nt ds β0 h0 w0 (jumpW (fun l e h => ∃ rest, findLabel c l = some rest ∧ ∀ β a w, At D nt ds β0 h0 w0 e h β a w → ∃ en a' w', QC en a' w' ∧ Arrives P (lone (b.at a (.code rest :: .inScope c :: k)) cs w) b k cs en a' w') Q) (scopeQ P c QC b k cs) := by
      intro en e1 h1 β1 a1 w1 hq A1
      cases en with
      | goto l =>
        obtain ⟨rest, h1, h2⟩ := hq
        exact ⟨rest, h1, h2 _ _ _ A1⟩
      | _ => exact hs _ _ _ _ _ _ hq A1
    obtain ⟨en, a', w', q1, q2⟩ := fin c a w (code_sim hX hD hl c hok (hQ _ fun l e1 h1 hl1 => by
      obtain ⟨rest, hr⟩ := lwp_lab c l hl1
      exact ⟨rest, hr, fun β1 a1 w1 A1 => fin rest a1 w1 (lwp_sim hX hD hl c l rest hok hr hl1 A1 hsat b (.inScope c :: k) cs)⟩) A hsat b (.inScope c :: k) cs)
    exact ⟨en, a', w', q1, .of_steps (.one step_scope) q2⟩
  | .label _, Q, QC, e, h, β, a, w, _, hQ, A, hs => wp_label (hs _ _ _ _ _ _ hQ A)
  | .goto _, Q, QC, e, h, β, a, w, _, hQ, A, hs => wp_goto (hs _ _ _ _ _ _ hQ A)
  | .refuse _, _, _, _, _, _, _, _, _, hQ, _, _ => hQ.elim
theorem lwp_sim {X : CallT} (hX : XSim P X) (hD : DrawAll P X) {nt : Nat} {D : Nat → Prop} {ds : List Deferred} {β0 : Bj} {h0 : AH} {w0 : World} (hl : ∀ id, D id → id < h0.length) : ∀ (c : Code) (l : Nat) (rest : Code) {Q : Exit → Env → AH → Prop} {QC : Exit → Act → World → Prop} {e : Env} {h : AH} {β : Bj} {a : Act} {w : World},
    codeOK nt c = true → findLabel c l = some rest → lwp P X c l Q e h → At D nt ds β0 h0 w0 e h β a w → Sat D nt ds β0 h0 w0 Q QC → rest.wp P QC a w
  | .seq x y, l, rest, Q, QC, e, h, β, a, w, hok, hr, hQ, A, hs => by
    simp only [codeOK, Bool.and_eq_true] at hok
    unfold lwp at hQ
    simp only [findLabel] at hr
    cases hx : findLabel x l with
    | some r =>
      rw [hx] at hr hQ
      cases hr
      refine wp_seq (lwp_sim hX hD hl x l r (Q := thenW (cwp P X y Q) Q) hok.1 hx hQ A ?_)
      intro en e1 h1 β1 a1 w1 hq A1
      cases en with
      | normal => exact code_sim hX hD hl y hok.2 hq A1 hs
      | _ => exact hs _ _ _ _ _ _ hq A1
    | none =>
      rw [hx] at hr hQ
      exact lwp_sim hX hD hl y l rest hok.2 hr hQ A hs
  | .label l', l, rest, Q, QC, e, h, β, a, w, _, hr, hQ, A, hs => by
    unfold lwp at hQ
    simp only [findLabel] at hr
    cases hb : l' == l with
    | true =>
      rw [hb] at hr hQ
      cases hr
      exact wp_skip (hs _ _ _ _ _ _ hQ A)
    | false =>
      rw [hb] at hQ
      exact hQ.elim
  | .skip, _, _, _, _, _, _, _, _, _, _, _, hk, _, _ => by simp only [lwp] at hk
  | .region .., _, _, _, _, _, _, _, _, _, _, _, hk, _, _ => by simp only [lwp] at hk
  | .cond .., _, _, _, _, _, _, _, _, _, _, _, hk, _, _ => by simp only [lwp] at hk
  | .block .., _, _, _, _, _, _, _, _, _, _, _, hk, _, _ => by simp only [lwp] at hk
  | .loop _, _, _, _, _, _, _, _, _, _, _, _, hk, _, _ => by simp only [lwp] at hk
  | .rangeFunc .., _, _, _, _, _, _, _, _, _, _, _, hk, _, _ => by simp only [lwp] at hk
  | .exit _, _, _, _, _, _, _, _, _, _, _, _, hk, _, _ => by simp only [lwp] at hk
  | .scope _, _, _, _, _, _, _, _, _, _, _, _, hk, _, _ => by simp only [lwp] at hk
  | .goto _, _, _, _, _, _, _, _, _, _, _, _, hk, _, _ => by simp only [lwp] at hk
  | .ret, _, _, _, _, _, _, _, _, _, _, _, hk, _, _ => by simp only [lwp] at hk
  | .refuse _, _, _, _, _, _, _, _, _, _, _, _, hk, _, _ => by simp only [lwp] at hk
end
def resC (tmps : Array Value) (r : ResultVar) : Sem Value :=
  match r with
  | .tmp t => pure (tmps.getD t undef)
  | .cell x t => do loadVar t (← asAddr (tmps.getD x undef))
theorem results_eq (fn : Func) (tmps : Array Value) : results fn tmps = (do let vs ← fn.results.mapM (resC tmps); pure (if h : vs.size = 1 then vs[0] else .tuple vs)) := by
  rfl
theorem resCell_sim {β : Bj} {e : Env} {h : AH} {a : Act} {w : World} (E : EnvR β e a) (R : Rel β h w) {r : ResultVar} {v : Value} (hr : resCell P e h r = some v) :
    ∃ v', (resC a.tmps r).run P w = .ok v' w ∧ VR β v v' := by
  cases r with
  | tmp t =>
    obtain rfl := Option.some.inj hr
    exact ⟨_, rfl, E t⟩
  | cell x t =>
    obtain ⟨v', hrun, hv⟩ := sim_load (P := P) hr R (E x)
    refine ⟨v', ?_, hv⟩
    have hx := E x
    simp only [resCell] at hr
    unfold pLoad at hr
    have hp : ∃ q, a.tmps.getD x undef = .pointer (some q) := by
      have : ∃ id off, e x = .pointer (some ⟨id, off, none⟩) := by
        have key : ∀ ag n, rdRow ag n (e x) h = some v → ∃ id off, e x = .pointer (some ⟨id, off, none⟩) := by
          intro ag n hrd
          unfold rdRow at hrd
          split at hrd
          · exact ⟨_, _, ‹_›⟩
          · cases hrd
        split at hr
        · exact key _ _ hr
        · split at hr
          · exact key _ _ hr
          · cases hr
        · cases hr
      obtain ⟨id, off, he⟩ := this
      rw [he] at hx
      obtain ⟨p, _, hp⟩ := hx.ptr_inv
      exact ⟨_, hp⟩
    obtain ⟨q, hq⟩ := hp
    simp only [resC, hq] at hrun ⊢
    simpa [Instr.loadAt, Instr.sureAddr, asAddr] using hrun
theorem resList_sim {β : Bj} {e : Env} {h : AH} {a : Act} {w : World} (E : EnvR β e a) (R : Rel β h w) : ∀ (rs : List ResultVar) {vs : List Value}, resList P e h rs = some vs →
    ∃ us : List Value, (rs.mapM (resC a.tmps)).run P w = .ok us w ∧ us.length = vs.length ∧ ∀ i, i < vs.length → VR β (vs.getD i undef) (us.getD i undef)
  | [], vs, hr => by
    obtain rfl := Option.some.inj hr
    exact ⟨[], by simp, rfl, fun i hi => by simp at hi⟩
  | r :: rs, vs, hr => by
    simp only [resList] at hr
    cases h1 : resCell P e h r with
    | none => rw [h1] at hr; cases hr
    | some v =>
      rw [h1] at hr
      simp only at hr
      cases h2 : resList P e h rs with
      | none => rw [h2] at hr; cases hr
      | some vs' =>
        rw [h2] at hr
        obtain rfl := Option.some.inj hr
        obtain ⟨v', hv', hvr⟩ := resCell_sim E R h1
        obtain ⟨us, hus, hl, hR⟩ := resList_sim E R rs h2
        refine ⟨v' :: us, ?_, by simp [hl], fun i hi => ?_⟩
        · rw [List.mapM_cons, Sem.run_bind, hv']
          simp only [Result.andThen_ok, Sem.run_bind, hus, Sem.run_pure]
        · cases i with
          | zero => exact hvr
          | succ i => simpa using hR i (by simpa using hi)
theorem end_sim {β : Bj} {e : Env} {h : AH} {a : Act} {w : World} {fn : Func} {K : Value → AH → Prop} (E : EnvR β e a) (R : Rel β h w) (hr : resW P fn e h K) : ∃ v v', (results fn a.tmps).run P w = .ok v' w ∧ K v h ∧ VR β v v' := by
  obtain ⟨vs, hvs, hK⟩ := optW_elim hr
  obtain ⟨us, hus, hl, hR⟩ := resList_sim E R _ hvs
  refine ⟨resOf vs, if h : us.length = 1 then us.getD 0 undef else .tuple us.toArray, ?_, hK, ?_⟩
  · rw [results_eq, Sem.run_bind]
    rw [Array.mapM_eq_mapM_toList, Sem.run_map, hus]
    simp only [Result.andThen_ok, Sem.run_pure]
    congr 1
    by_cases h1 : us.length = 1
    · obtain ⟨x, rfl⟩ := List.length_eq_one_iff.1 h1
      rfl
    · simp [h1]
  · by_cases h1 : us.length = 1
    · rw [dif_pos h1]
      rw [hl] at h1
      obtain ⟨x, rfl⟩ := List.length_eq_one_iff.1 h1
      exact hR 0 (by simp)
    · rw [dif_neg h1]
      have h2 : resOf vs = .tuple vs.toArray := by
        unfold resOf
        split
        · rename_i v; simp at hl; exact absurd hl h1
        · rfl
      rw [h2]
      refine .tuple (by simp [hl]) fun i hi => ?_
      have := hR i (by simpa using hi)
      rw [← toList_getD vs.toArray, ← toList_getD us.toArray]
      exact this
theorem envOf_R {β : Bj} {args : List Value} {args' : Array Value} {nt : Nat} (hA : ListR β args args') (hn : args.length ≤ nt) : EnvR β (envOf args) { tmps := args' ++ Array.replicate (nt - args'.size) undef, defers := [] } ∧ (args' ++ Array.replicate (nt - args'.size) undef).size = nt := by
  have hs := hA.1
  refine ⟨fun i => ?_, by simp; omega⟩
  show VR β (args.getD i undef) ((args' ++ Array.replicate (nt - args'.size) undef).getD i undef)
  by_cases hi : i < args.length
  · have := hA.2 i hi
    rw [agetD, Array.getElem?_append_left (by omega), ← agetD]
    exact this
  · have e1 : args.getD i undef = undef := by rw [lgetD, List.getElem?_eq_none (by omega)]; rfl
    have e2 : (args' ++ Array.replicate (nt - args'.size) undef).getD i undef = undef := by
      rw [agetD, Array.getElem?_append_right (by omega), Array.getElem?_replicate]
      split <;> rfl
    rw [e1, e2]
    exact VR.undef β
def SimP (P : Program) : CallT := fun f args h K => (∃ fn c, P.funcs[f]? = some fn ∧ fn.body = some c ∧ (fn.name == "runtime.NumGoroutine") = false) ∧
    ∀ β (args' : Array Value) w, ListR β args args' → Rel β h w → Calls P f args' w fun en w' => ∃ v v' β' h', en = .returned v' ∧ K v h' ∧ VR β' v v' ∧ Rel β' h' w' ∧ Ext (fun id => id < h.length) β h w β' h' w'
theorem fn_sim {X : CallT} (hX : XSim P X) (hD : DrawAll P X) {f : FuncId} {args : List Value} {h : AH} {K : Value → AH → Prop} (hst : stepF P X f args h K) : SimP P f args h K := by
  unfold stepF at hst
  split at hst
  · rename_i fn hfn
    split at hst
    · rename_i c hb hok
      rw [Bool.and_eq_true] at hok
      have hlen : args.length ≤ fn.ntmps := by simpa using hok.2
      have hok1 := hok.1
      unfold fnOK at hok1
      rw [hb, Bool.and_eq_true] at hok1
      have hname : (fn.name == "runtime.NumGoroutine") = false := by simpa using hok1.1
      refine ⟨⟨fn, c, hfn, hb, hname⟩, fun β args' w hA R => ?_⟩
      obtain ⟨hE, hsz⟩ := envOf_R hA hlen
      refine calls_of_wp hfn hb (code_sim (D := fun id => id < h.length) (nt := fn.ntmps) (ds := []) (β0 := β) (h0 := h) (w0 := w) hX hD (fun _ hd => hd) c hok1.2 hst ⟨hE, hsz, rfl, R, Ext.refl _ _ _ _⟩ ?_)
      intro en e1 h1 β1 a1 w1 hq A
      cases en with
      | normal =>
        obtain ⟨v, v', hrun, hk, hv⟩ := end_sim A.env A.rel hq
        exact ⟨A.defers, v', hrun, v, v', β1, h1, rfl, hk, hv, A.rel, A.ext⟩
      | ret =>
        obtain ⟨v, v', hrun, hk, hv⟩ := end_sim A.env A.rel hq
        exact ⟨A.defers, v', hrun, v, v', β1, h1, rfl, hk, hv, A.rel, A.ext⟩
      | _ => exact hq.elim
    · exact hst.elim
  · exact hst.elim
theorem step_sim {X : CallT} (hX : XSim P X) (hD : DrawAll P X) {f : FuncId} {args : List Value} {h : AH} {K : Value → AH → Prop} (hst : stepW P X f args h K) : SimP P f args h K := by
  rcases hst with (⟨h1, v, sep, xs, rfl, h3, h4, h5, h6⟩ | ⟨S, ⟨hf, hp, _, hS, hc⟩, hk⟩) | hst
  · refine ⟨isJoin_fn h1, fun β args' w hA R => ?_⟩
    obtain ⟨hs, hr⟩ := hA
    have e0 := hr 0 (by simp)
    have e1 := hr 1 (by simp)
    have ea : args' = #[args'.getD 0 undef, args'.getD 1 undef] := by
      have h2 : args'.size = 2 := by simpa using hs
      obtain ⟨l⟩ := args'
      match l, h2 with
      | [a, b], _ => rfl
    have es : args'.getD 1 undef = .string sep := by
      have e1 : VR β (.string sep) (args'.getD 1 undef) := e1
      generalize args'.getD 1 undef = y at e1
      cases e1
      rfl
    rw [ea, es]
    refine (join_calls h1 h3 h4 h5 (show VR β v (args'.getD 0 undef) from e0) R).mono ?_
    rintro en w' ⟨he, b⟩
    exact ⟨_, _, β, h, he, h6, .str _, below_rel R b, below_ext b⟩
  · refine ⟨hf, fun β args' w hA R => ?_⟩
    have ea : args' = args.toArray := by
      refine array_ext_getD (by simpa using hA.1.symm) fun i hi => ?_
      have h1 := hA.2 i (by simpa using hi)
      have h2 : args.getD i undef ∈ args := by
        rw [List.getD_eq_getElem?_getD, List.getElem?_eq_getElem (by simpa using hi)]
        exact List.getElem_mem _
      rw [h1.pureS_eq (hp _ h2)]
      simp [agetD, lgetD]
    rw [ea]
    refine (hc w).mono ?_
    rintro en w' ⟨⟨v, he, hv⟩, b⟩
    exact ⟨v, v, β, h, he, hk v hv, .ofPureS (hS v hv), below_rel R b, below_ext b⟩
  rcases hst with hst | ⟨m, hst⟩
  · exact fn_sim hX hD hst
  · obtain ⟨hf, hc⟩ := fn_sim hX hD hst
    refine ⟨hf, fun β args' w hA R => (hc β args' w hA R).mono ?_⟩
    rintro en w' ⟨v, v', β', h', he, ⟨q1, q2, q3⟩, hv, R', E'⟩
    have hg : ∀ id : Nat, (killF h.length m h')[id]? = h'[id]? ∨ (killF h.length m h')[id]? = none ∨ (killF h.length m h')[id]? = some AObj.dead := by
      intro id
      unfold killF
      by_cases hi : id < h.length
      · left
        rw [List.getElem?_append_left (by rw [List.length_take]; omega), List.getElem?_take, if_pos hi]
      · right
        rw [List.getElem?_append_right (by rw [List.length_take]; omega), List.getElem?_replicate]
        split
        · exact .inr rfl
        · exact .inl rfl
    have hlive : ∀ id : Nat, live (killF h.length m h')[id]? = true → (killF h.length m h')[id]? = h'[id]? := by
      intro id hl
      rcases hg id with e | e | e
      · exact e
      · rw [e] at hl; cases hl
      · rw [e] at hl; cases hl
    have hlen : (killF h.length m h').length = h.length + m := by
      unfold killF
      rw [List.length_append, List.length_take, List.length_replicate]
      omega
    refine ⟨v, v', β', _, he, q3, hv, ⟨fun hp => ?_, fun {id p o} hp ho => ?_, fun {i j p q} hij hp hq hi hj hr => ?_⟩, ⟨E'.ble, E'.dom, ?_, fun id hd hb => ?_, E'.size, E'.tape, E'.os, E'.out, E'.cfr, fun b hb => ?_⟩⟩
    · have := R'.lt hp
      omega
    · cases o with
      | dead => trivial
      | _ => exact R'.obj hp ((hlive id (by rw [ho]; rfl)).symm.trans ho)
    · have ei := hlive i hi
      have ej := hlive j hj
      rw [ei] at hi hr
      rw [ej] at hj hr
      exact R'.sep hij hp hq hi hj hr
    · omega
    · have e1 := E'.afr id hd hb
      have hd : id < h.length := hd
      unfold killF
      rw [List.getElem?_append_left (by rw [List.length_take]; omega), List.getElem?_take, if_pos hd]
      exact e1
    · obtain ⟨id, p, hp, hpb, hl, hr⟩ := hb
      have ei := hlive id hl
      rw [ei] at hl hr
      exact E'.wb b ⟨id, p, hp, hpb, hl, hr⟩
end Go.AM
end
